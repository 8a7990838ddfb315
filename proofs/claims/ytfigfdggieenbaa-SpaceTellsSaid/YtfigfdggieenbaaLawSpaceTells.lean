/- SpaceTells: room in the log is reckoned as the document's own answer says, for every root, every used room and every number of changes. No condition. -/
import Derived.Test.YtfigfdggieenbaaRows
import Derived.Test.YtfigfdggieenbaaPSpaceTellsx4
import Derived.Test.YtfigfdggieenbaaBits
import Derived.WalkKit
import Derived.ProofKit
import Derived.OpenShut
import Derived.ShutString
import Derived.ChangeOld
import Derived.Below
import Derived.SizedLaws
import Derived.Lib.SmallJoins
import Derived.KernelRfl
namespace Go.Proofs.Ytfigfdggieenbaa.Pure
open Go.RowKit Go.Proofs.Ytfigfdggieenbaa.PSpaceTells Go.Proofs.YtfigfdggieenbaaW.PrintWords Go.Proofs.YtfigfdggieenbaaW.PrintLast Go.Proofs.YtfigfdggieenbaaW.PrintMore
namespace SpaceTellsL
/-- how long the log is -/
def sz (log : Int) : Int := if log < 1 ∨ 64 < log then 0 else log * 64
theorem sz_rng (log : Int) : 0 ≤ sz log ∧ sz log ≤ 4096 := by unfold sz; split <;> omega
theorem size_is (l p e : Int) : space_Size.f l p e = some (sz l) := by
  unfold space_Size.f sz
  by_cases h1 : l < 1
  · simp [h1]
  · by_cases h2 : l > 64
    · simp [h1, h2]
    · rw [if_neg h1, if_neg h2, if_neg (by omega)]
      unfold wrap64; congr 1; omega
def lf (log used : Int) : Int := if sz log - (if used < 0 then 0 else used) < 0 then 0 else sz log - (if used < 0 then 0 else used)
theorem mx0 (u : Int) : mx 0 u = if u < 0 then 0 else u := by unfold mx; split <;> split <;> omega
theorem left_is (l p e u : Int) (h1 : u ≤ 9223372036854775807) : space_Left.f l p e u = some (lf l u) := by
  unfold space_Left.f
  rw [size_is, Option.bind_some]
  have := sz_rng l
  unfold lf
  have e : wrap64 (sz l - (if u < 0 then 0 else u)) = sz l - (if u < 0 then 0 else u) := Plain.wrap64_id (by split <;> omega) (by split <;> omega)
  simp only [mx0, e]
def nd (n : Int) : Int := if n < 0 ∨ 64 < n then 0 else 18 + n * 66
theorem need_is (n : Int) : delta_Need.f n = some (nd n) := by
  unfold delta_Need.f nd
  by_cases h1 : n < 0
  · simp [h1]
  · by_cases h2 : n > 64
    · simp [h1, h2]
    · rw [if_neg h1, if_neg h2, if_neg (by omega)]
      unfold wrap64; congr 1; omega
def ft (l u n : Int) : Bool := decide (0 < nd n ∧ nd n ≤ lf l u)
theorem fits_is (l p e u n : Int) (h1 : u ≤ 9223372036854775807) : space_Fits.f l p e u n = some (ft l u n) := by
  unfold space_Fits.f ft
  rw [need_is, Option.bind_some]
  by_cases h : nd n > 0
  · rw [if_pos h, left_is l p e u h1, Option.bind_some]; simp [h]
  · rw [if_neg h]; simp; omega
/-- what Most answers: it fits, no more does, within the pages -/
structure MostIs (l p m : Int) : Prop where
  lo : -1 ≤ m
  fit : 0 ≤ m → ft l 0 m = true
  hi : 0 ≤ m → m ≤ p ∧ m ≤ 64
  top : m + 1 ≤ p → m + 1 ≤ 64 → ft l 0 (m + 1) = false
theorem most_loop (l p e : Int) : ∀ (d k : Nat) (x : Int), 0 ≤ x → x ≤ 65 → 65 - x = d → d < k → (1 ≤ x → ft l 0 (x - 1) = true ∧ x - 1 ≤ p ∧ x - 1 ≤ 64) →
    ∃ m, space_Most.l0 k (x - 1) x l p e = some m ∧ MostIs l p m := by
  intro d
  induction d with
  | zero =>
    intro k x h0 h1 hd hk hp
    obtain ⟨k, rfl⟩ : ∃ m, k = m + 1 := ⟨k - 1, by omega⟩
    refine ⟨x - 1, ?_, by omega, fun h => (hp (by omega)).1, fun h => (hp (by omega)).2, fun _ h => by omega⟩
    simp only [space_Most.l0]
    rw [if_neg (by unfold mn; split <;> omega)]
  | succ d ih =>
    intro k x h0 h1 hd hk hp
    obtain ⟨k, rfl⟩ : ∃ m, k = m + 1 := ⟨k - 1, by omega⟩
    simp only [space_Most.l0]
    by_cases hx : x ≤ mn p 64
    · have hx' : x ≤ p ∧ x ≤ 64 := by unfold mn at hx; split at hx <;> omega
      rw [if_pos hx, fits_is l p e 0 x (by decide), Option.bind_some]
      by_cases hf : ft l 0 x = true
      · rw [if_pos hf]
        have e : wrap64 (x + 1) = x + 1 := Plain.wrap64_id (by omega) (by omega)
        rw [e]
        have := ih k (x + 1) (by omega) (by omega) (by omega) (by omega) (fun _ => by rw [show x + 1 - 1 = x from by omega]; exact ⟨hf, hx'⟩)
        rw [show x + 1 - 1 = x from by omega] at this
        exact this
      · rw [if_neg hf]
        exact ⟨x - 1, rfl, by omega, fun h => (hp (by omega)).1, fun h => (hp (by omega)).2, fun _ _ => by rw [show x - 1 + 1 = x from by omega]; simpa using hf⟩
    · rw [if_neg hx]
      exact ⟨x - 1, rfl, by omega, fun h => (hp (by omega)).1, fun h => (hp (by omega)).2, fun h h' => absurd (show x ≤ mn p 64 by unfold mn; split <;> omega) hx⟩
theorem most_is (k : Nat) (hk : 66 ≤ k) (l p e : Int) : ∃ m, space_Most.f k l p e = some m ∧ MostIs l p m := by
  have := most_loop l p e 65 k 0 (by decide) (by decide) rfl (by omega) (fun h => by omega)
  exact this
theorem known_is {k : Nat} (h : 70 ≤ k) : engramlaw6_known.f k = some true :=
  at_rounds (g := fun k => engramlaw6_known.f k) (fun k => engramlaw6_known.mono k) h (by kernel_rfl)
theorem within_is (k : Nat) (n lo hi : Int) (h0 : -1000000 ≤ lo) (h1 : lo ≤ hi) (h2 : hi ≤ 1000000) : ∃ r, engrambook_Within.f (k + 1) n lo hi = some r ∧ lo ≤ r ∧ r ≤ hi ∧ (lo ≤ n → n ≤ hi → r = n) := by
  have hj : ∀ b : Bool, b = decide (lo ≤ n ∧ n ≤ hi) → ∃ r, engrambook_Within.j0 (k + 1) n lo hi b = some r ∧ lo ≤ r ∧ r ≤ hi ∧ (lo ≤ n → n ≤ hi → r = n) := by
    intro b hb
    simp only [engrambook_Within.j0]
    by_cases h : lo ≤ n ∧ n ≤ hi
    · rw [if_pos (by rw [hb]; exact decide_eq_true h)]
      exact ⟨n, rfl, h.1, h.2, fun _ _ => rfl⟩
    · rw [if_neg (by rw [hb]; simpa using h)]
      have e : wrap64 (wrap64 (hi - lo) + 1) = hi - lo + 1 := by
        rw [Plain.wrap64_id (x := hi - lo) (by omega) (by omega), Plain.wrap64_id (by omega) (by omega)]
      rw [e, if_neg (by omega)]
      have m1 := Int.tmod_lt_of_pos n (b := hi - lo + 1) (by omega)
      have m2 := Int.lt_tmod_of_pos n (b := hi - lo + 1) (by omega)
      generalize Int.tmod n (hi - lo + 1) = m at *
      by_cases hm : m < 0
      · rw [if_pos hm]
        refine ⟨lo + (m + hi - lo + 1), ?_, by omega, by omega, fun a b => absurd ⟨a, b⟩ h⟩
        rw [Plain.wrap64_id (x := m + hi) (by omega) (by omega), Plain.wrap64_id (x := m + hi - lo) (by omega) (by omega), Plain.wrap64_id (x := m + hi - lo + 1) (by omega) (by omega), Plain.wrap64_id (by omega) (by omega)]
      · rw [if_neg hm]
        refine ⟨lo + m, ?_, by omega, by omega, fun a b => absurd ⟨a, b⟩ h⟩
        rw [Plain.wrap64_id (by omega) (by omega)]
  unfold engrambook_Within.f
  by_cases h : n ≥ lo
  · rw [if_pos h]
    exact hj _ (by rw [Bool.eq_iff_iff]; simp; omega)
  · rw [if_neg h]
    exact hj _ (by rw [Bool.eq_iff_iff]; simp; omega)

theorem ft_mono (l u n n' : Int) (h0 : 0 ≤ n') (h : n' ≤ n) (hf : ft l u n = true) : ft l u n' = true := by
  unfold ft nd at *
  simp only [decide_eq_true_eq] at *
  repeat' split at hf
  all_goals (repeat' split)
  all_goals omega
theorem most_one {l p m m' : Int} (h : MostIs l p m) (h' : MostIs l p m') : m = m' := by
  have key : ∀ {a b : Int}, MostIs l p a → MostIs l p b → ¬ a < b := by
    intro a b ha hb hlt
    have h0 := ha.lo
    have hr := hb.hi (by omega)
    have := ha.top (by omega) (by omega)
    rw [ft_mono l 0 b (a + 1) (by omega) (by omega) (hb.fit (by omega))] at this
    cases this
  have := key h h'
  have := key h' h
  omega
theorem rsize_is (l p e : Int) : engramref3_Size.f l p e = some (sz l) := by
  unfold engramref3_Size.f sz
  by_cases h1 : l < 1
  · simp [h1]
  · by_cases h2 : l > 64
    · simp [h1, h2]
    · rw [if_neg h1, if_neg h2, if_neg (by omega)]
      unfold wrap64; congr 1; omega
theorem mx00 (u : Int) : mx u 0 = if u < 0 then 0 else u := by unfold mx; rfl
theorem rleft_is (l p e u : Int) (h1 : u ≤ 9223372036854775807) : engramref3_Left.f l p e u = some (lf l u) := by
  unfold engramref3_Left.f
  rw [rsize_is, Option.bind_some]
  have := sz_rng l
  unfold lf
  have e : wrap64 (sz l - (if u < 0 then 0 else u)) = sz l - (if u < 0 then 0 else u) := Plain.wrap64_id (by split <;> omega) (by split <;> omega)
  simp only [mx00, e]
theorem rneed_is (n : Int) : engramref3_Need.f n = some (nd n) := by
  unfold engramref3_Need.f nd
  by_cases h1 : n < 0
  · simp [h1]
  · by_cases h2 : n > 64
    · simp [h1, h2]
    · rw [if_neg h1, if_neg h2, if_neg (by omega)]
      unfold wrap64; congr 1; omega
theorem rfits_is (l p e u n : Int) (h1 : u ≤ 9223372036854775807) : engramref3_Fits.f l p e u n = some (ft l u n) := by
  unfold engramref3_Fits.f ft
  rw [rneed_is, Option.bind_some]
  by_cases h : nd n > 0
  · rw [if_pos h, Option.bind_some, rleft_is l p e u h1, Option.bind_some]; simp [h]
  · rw [if_neg h]; simp; omega
theorem rmost_loop (l p e : Int) : ∀ (d k : Nat) (x y : Int), 0 ≤ x → x ≤ 65 → 65 - x = d → 2 * d + 1 < k → -1 ≤ y → y < x → (0 ≤ y → ft l 0 y = true ∧ y ≤ p ∧ y ≤ 64) → (∀ j, y < j → j < x → ft l 0 j = false) →
    ∃ m, engramref3_Most.l0 k y x l p e = some m ∧ MostIs l p m := by
  have fin : ∀ (x y : Int), -1 ≤ y → y < x → (0 ≤ y → ft l 0 y = true ∧ y ≤ p ∧ y ≤ 64) → (∀ j, y < j → j < x → ft l 0 j = false) → ¬ (x ≤ p ∧ x ≤ 64) → MostIs l p y := by
    intro x y a b c d e
    exact ⟨a, fun h => (c h).1, fun h => (c h).2, fun h h' => d _ (by omega) (by omega)⟩
  intro d
  induction d with
  | zero =>
    intro k x y h0 h1 hd hk a b c f
    obtain ⟨k, rfl⟩ : ∃ m, k = m + 1 + 1 := ⟨k - 2, by omega⟩
    refine ⟨y, ?_, fin x y a b c f (by omega)⟩
    simp only [engramref3_Most.l0]
    rw [decide_eq_false (by omega : ¬ x ≤ 64)]
    simp only [engramref3_Most.j1, Bool.false_eq_true, if_false, ite_self]
  | succ d ih =>
    intro k x y h0 h1 hd hk a b c f
    obtain ⟨k, rfl⟩ : ∃ m, k = m + 1 + 1 := ⟨k - 2, by omega⟩
    simp only [engramref3_Most.l0]
    by_cases hx : x ≤ p
    · rw [if_pos hx]
      by_cases h64 : x ≤ 64
      · rw [decide_eq_true h64]
        simp only [engramref3_Most.j1, if_true]
        rw [rfits_is l p e 0 x (by decide), Option.bind_some, Plain.wrap64_id (x := x + 1) (by omega) (by omega)]
        by_cases hf : ft l 0 x = true
        · rw [if_pos hf]
          exact ih k (x + 1) x (by omega) (by omega) (by omega) (by omega) (by omega) (by omega) (fun _ => ⟨hf, hx, h64⟩) (fun j _ _ => by omega)
        · rw [if_neg hf]
          refine ih k (x + 1) y (by omega) (by omega) (by omega) (by omega) a (by omega) c (fun j hj hj' => ?_)
          by_cases e : j = x
          · rw [e]; simpa using hf
          · exact f j hj (by omega)
      · refine ⟨y, ?_, fin x y a b c f (by omega)⟩
        rw [decide_eq_false h64]
        simp only [engramref3_Most.j1, Bool.false_eq_true, if_false]
    · refine ⟨y, ?_, fin x y a b c f (by omega)⟩
      rw [if_neg hx]
      simp only [engramref3_Most.j1, Bool.false_eq_true, if_false]
theorem rmost_is (k : Nat) (hk : 140 ≤ k) (l p e : Int) : ∃ m, engramref3_Most.f k l p e = some m ∧ MostIs l p m :=
  rmost_loop l p e 65 k 0 (-1) (by decide) (by decide) rfl (by omega) (by decide) (by decide) (fun h => by omega) (fun j _ _ => by omega)

theorem same_is {k : Nat} (hk : 140 ≤ k) (l p e u n : Int) (hu : u ≤ 9223372036854775807) : engramlaw6_same.f k l p e u n = some true := by
  unfold engramlaw6_same.f
  obtain ⟨m, e1, h1⟩ := most_is k (by omega) l p e
  obtain ⟨m', e2, h2⟩ := rmost_is k hk l p e
  rw [size_is, rsize_is, Option.bind_some, Option.bind_some, if_pos rfl, left_is _ _ _ _ hu, rleft_is _ _ _ _ hu, Option.bind_some, Option.bind_some, if_pos rfl, fits_is _ _ _ _ _ hu, rfits_is _ _ _ _ _ hu, Option.bind_some, Option.bind_some, if_pos (by simp), e1, e2, Option.bind_some, Option.bind_some, most_one h1 h2]
  simp

end SpaceTellsL
open SpaceTellsL in
theorem SpaceTells (l p e u n : Int) (hu : u ≤ 9223372036854775807) : engramlaw6_SpaceTells.f 200 l p e u n = some true := by
  unfold engramlaw6_SpaceTells.f
  obtain ⟨a, e1, l1, l2, -⟩ := within_is 199 l 1 64 (by decide) (by decide) (by decide)
  obtain ⟨b, e2, p1, p2, -⟩ := within_is 199 p 1 64 (by decide) (by decide) (by decide)
  obtain ⟨c, e3, u1, u2, -⟩ := within_is 199 u 0 4200 (by decide) (by decide) (by decide)
  obtain ⟨d, e4, n1, n2, -⟩ := within_is 199 n (-1) 66 (by decide) (by decide) (by decide)
  rw [e1, Option.bind_some, e2, Option.bind_some, same_is (by decide) _ _ _ _ _ hu, Option.bind_some, if_pos rfl, same_is (by decide) _ _ _ _ _ hu, Option.bind_some, if_pos rfl, e3, Option.bind_some, e4, Option.bind_some, same_is (by decide) _ _ _ _ _ (by omega), Option.bind_some, if_pos rfl, known_is (by decide), Option.bind_some]
end Go.Proofs.Ytfigfdggieenbaa.Pure
namespace Go.Proofs.Ytfigfdggieenbaa.spaceTells
open Go.ChangeShapes Go.WideShapes Go.ChangeAt Go.RowKit
theorem cells24 : Try.prog.cellsOf 24 = 3 := by kernel_rfl
theorem own : ownKnob Try.prog.godebug = none := by kernel_rfl
set_option maxRecDepth 100000 in
theorem lifted (os : Os) (started : os.Started) (H : Type) (enc : TypeId × Value → H) :
    ReturnsInHanded {} Try.checked os 4 .any (Rows.spaceTellsSpec.pre6 enc Try.prog Try.f4 Rows.spaceTellsRow.domain false) (Rows.spaceTellsSpec.post enc Try.prog Try.f4 false true false false) := by
  refine returnsInHanded_of_change_sized (C := Try.checked) own started (by kernel_rfl) Try.func4
    (ChangeSpec.witness6 (enc := enc) (C := Try.checked) false ⟨#[], #[.agg #[.int .i64 0, .int .i64 0, .int .u32 0], .int .i64 0, .int .i64 0], []⟩ 8 (by kernel_rfl) (by kernel_rfl) (by kernel_rfl) (by kernel_rfl)) ?_
  intro W base args ds gs before hval0 hW hcnd hsz0 _
  have hval : ∀ (j : Nat) t v, Try.f4.params[j]? = some t → args[j]? = some v → Value.okWide Try.prog W .any base t v := hval0
  have hW' := hW
  obtain ⟨p, q, hA0, hV, rfl, hfz, hnd⟩ := hW
  have hA : DataW.TrodAll enc Try.prog W 0 (fun _ => true) true Try.f4.params.toList args.toList ds p := hA0
  rw [Try.params4] at hA hval
  obtain ⟨v0, vs0, d0, ds0, p0, q0, hargs, rfl, rfl, h0, r0⟩ := trodAll_cons hA
  obtain ⟨v1, vs1, d1, ds1, p1, q1, rfl, rfl, rfl, h1, r1⟩ := trodAll_cons r0
  obtain ⟨v2, vs2, d2, ds2, p2, q2, rfl, rfl, rfl, h2, r2⟩ := trodAll_cons r1
  obtain ⟨rfl, rfl, rfl⟩ := trodAll_nil r2
  obtain rfl : args = #[v0, v1, v2] := by cases args; simp_all
  obtain ⟨rfl, rfl⟩ := trodVars_none hV
  obtain ⟨c0, c1, c2, y0, y1, y2, m, rfl, rfl, rfl, hy0, hy1, hy2⟩ := Joins.open_agg3 Try.underlying24 (by kernel_rfl) cells24 (hval 0 24 v0 rfl rfl) h0
  obtain ⟨x, e0, rfl, wx⟩ := DataW.trod_int Try.underlying3 hy0
  obtain ⟨y, e1, rfl, wy⟩ := DataW.trod_int Try.underlying3 hy1
  obtain ⟨z, e2, rfl, wz⟩ := DataW.trod_int Try.underlying22 hy2
  simp at e0 e1 e2
  subst e0 e1 e2
  obtain ⟨a1, rfl, rfl, rfl, w1⟩ := open_int Try.underlying3 (hval 1 3 v1 rfl rfl) h1
  obtain ⟨a2, rfl, rfl, rfl, w2⟩ := open_int Try.underlying3 (hval 2 3 v2 rfl rfl) h2
  clear hA0 hval0 hsz0
  refine (PSpaceTells.engramlaw6_SpaceTells.calls 200 x y z a1 a2 true W (Pure.SpaceTells x y z a1 a2 (Plain.i64_wf w1).2)).mono fun e W' ⟨he, bel⟩ => ?_
  subst he
  exact ⟨_, rfl, _, _, _, [], _, [], hW', trodAll_mk1 (shut_bool Try.underlying4 _), (trodAll_cons_mk (Joins.shut_agg3 (y0 := (.lit (.int .i64 x), [])) (y1 := (.lit (.int .i64 y), [])) (y2 := (.lit (.int .u32 z), [])) Try.underlying24 (by kernel_rfl) cells24 ⟨1, trod_int_mk 0 Try.underlying3 wx⟩ ⟨1, trod_int_mk 0 Try.underlying3 wy⟩ ⟨1, trod_int_mk 0 Try.underlying22 wz⟩) (trodAll_cons_mk (shut_int Try.underlying3 w1) (trodAll_cons_mk (shut_int Try.underlying3 w2) trodAll_mk0))), rfl, bel.frame _, fun h => by cases h⟩
theorem over : Rows.spaceTellsRow.holds Try.pinned (OpenSpec.ofChange Rows.spaceTellsSpec) :=
  OpenClaim.holds_of_wide 4 Try.f4 rfl rfl rfl rfl rfl rfl rfl ⟨rfl, rfl, rfl, rfl, rfl⟩ rfl rfl rfl rfl rfl (by kernel_rfl) Try.func4 (by kernel_rfl)
    (of_decide_eq_true (by kernel_rfl)) (by unfold Func.isWrapper; first | (rw [if_pos (by decide +kernel)]; kernel_rfl) | (rw [if_neg (by decide +kernel)]; exact ⟨rfl, rfl⟩))
    (fun os started H enc _ => lifted os started H enc)
end Go.Proofs.Ytfigfdggieenbaa.spaceTells
namespace Go.Proofs.Ytfigfdggieenbaa
theorem spaceTells_holds : Rows.SpaceTellsSaid := spaceTells.over
#print axioms spaceTells_holds
end Go.Proofs.Ytfigfdggieenbaa
