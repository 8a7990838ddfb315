/- SpaceNumbers: the closed sentence of chapter 6 answers true. No condition. -/
import Derived.Test.YtfigfdggieenbaaPSpaceNumbersx3
import Derived.Test.YtfigfdggieenbaaBits
import Derived.KernelRfl
namespace Go.Proofs.Ytfigfdggieenbaa.Pure
open Go.RowKit Go.Proofs.Ytfigfdggieenbaa.PSpaceNumbers Go.Proofs.YtfigfdggieenbaaW.PrintWords Go.Proofs.YtfigfdggieenbaaW.PrintLast Go.Proofs.YtfigfdggieenbaaW.PrintMore
namespace SpaceNumbersL
/-- how long the log is -/
def sz (log : Int) : Int := if log < 1 ∨ 64 < log then 0 else log * 64
theorem sz_rng (log : Int) : 0 ≤ sz log ∧ sz log ≤ 4096 := by unfold sz; split <;> omega
theorem size_is (l p e : Int) : space_Size.f l p e = some (sz l) := by
  unfold space_Size.f sz
  by_cases h1 : l < 1
  · simp [h1]
  · by_cases h2 : l > 64
    · simp [h1, h2]
    · rw [if_neg h1, if_neg h2, if_neg (by omega)]
      unfold wrap64; congr 1; omega
def lf (log used : Int) : Int := if sz log - (if used < 0 then 0 else used) < 0 then 0 else sz log - (if used < 0 then 0 else used)
theorem mx0 (u : Int) : mx 0 u = if u < 0 then 0 else u := by unfold mx; split <;> split <;> omega
theorem left_is (l p e u : Int) (h1 : u ≤ 9223372036854775807) : space_Left.f l p e u = some (lf l u) := by
  unfold space_Left.f
  rw [size_is, Option.bind_some]
  have := sz_rng l
  unfold lf
  have e : wrap64 (sz l - (if u < 0 then 0 else u)) = sz l - (if u < 0 then 0 else u) := Plain.wrap64_id (by split <;> omega) (by split <;> omega)
  simp only [mx0, e]
def nd (n : Int) : Int := if n < 0 ∨ 64 < n then 0 else 18 + n * 66
theorem need_is (n : Int) : delta_Need.f n = some (nd n) := by
  unfold delta_Need.f nd
  by_cases h1 : n < 0
  · simp [h1]
  · by_cases h2 : n > 64
    · simp [h1, h2]
    · rw [if_neg h1, if_neg h2, if_neg (by omega)]
      unfold wrap64; congr 1; omega
def ft (l u n : Int) : Bool := decide (0 < nd n ∧ nd n ≤ lf l u)
theorem fits_is (l p e u n : Int) (h1 : u ≤ 9223372036854775807) : space_Fits.f l p e u n = some (ft l u n) := by
  unfold space_Fits.f ft
  rw [need_is, Option.bind_some]
  by_cases h : nd n > 0
  · rw [if_pos h, left_is l p e u h1, Option.bind_some]; simp [h]
  · rw [if_neg h]; simp; omega
/-- what Most answers: it fits, no more does, within the pages -/
structure MostIs (l p m : Int) : Prop where
  lo : -1 ≤ m
  fit : 0 ≤ m → ft l 0 m = true
  hi : 0 ≤ m → m ≤ p ∧ m ≤ 64
  top : m + 1 ≤ p → m + 1 ≤ 64 → ft l 0 (m + 1) = false
theorem most_loop (l p e : Int) : ∀ (d k : Nat) (x : Int), 0 ≤ x → x ≤ 65 → 65 - x = d → d < k → (1 ≤ x → ft l 0 (x - 1) = true ∧ x - 1 ≤ p ∧ x - 1 ≤ 64) →
    ∃ m, space_Most.l0 k (x - 1) x l p e = some m ∧ MostIs l p m := by
  intro d
  induction d with
  | zero =>
    intro k x h0 h1 hd hk hp
    obtain ⟨k, rfl⟩ : ∃ m, k = m + 1 := ⟨k - 1, by omega⟩
    refine ⟨x - 1, ?_, by omega, fun h => (hp (by omega)).1, fun h => (hp (by omega)).2, fun _ h => by omega⟩
    simp only [space_Most.l0]
    rw [if_neg (by unfold mn; split <;> omega)]
  | succ d ih =>
    intro k x h0 h1 hd hk hp
    obtain ⟨k, rfl⟩ : ∃ m, k = m + 1 := ⟨k - 1, by omega⟩
    simp only [space_Most.l0]
    by_cases hx : x ≤ mn p 64
    · have hx' : x ≤ p ∧ x ≤ 64 := by unfold mn at hx; split at hx <;> omega
      rw [if_pos hx, fits_is l p e 0 x (by decide), Option.bind_some]
      by_cases hf : ft l 0 x = true
      · rw [if_pos hf]
        have e : wrap64 (x + 1) = x + 1 := Plain.wrap64_id (by omega) (by omega)
        rw [e]
        have := ih k (x + 1) (by omega) (by omega) (by omega) (by omega) (fun _ => by rw [show x + 1 - 1 = x from by omega]; exact ⟨hf, hx'⟩)
        rw [show x + 1 - 1 = x from by omega] at this
        exact this
      · rw [if_neg hf]
        exact ⟨x - 1, rfl, by omega, fun h => (hp (by omega)).1, fun h => (hp (by omega)).2, fun _ _ => by rw [show x - 1 + 1 = x from by omega]; simpa using hf⟩
    · rw [if_neg hx]
      exact ⟨x - 1, rfl, by omega, fun h => (hp (by omega)).1, fun h => (hp (by omega)).2, fun h h' => absurd (show x ≤ mn p 64 by unfold mn; split <;> omega) hx⟩
theorem most_is (k : Nat) (hk : 66 ≤ k) (l p e : Int) : ∃ m, space_Most.f k l p e = some m ∧ MostIs l p m := by
  have := most_loop l p e 65 k 0 (by decide) (by decide) rfl (by omega) (fun h => by omega)
  exact this
theorem known_is {k : Nat} (h : 70 ≤ k) : engramlaw6_known.f k = some true :=
  at_rounds (g := fun k => engramlaw6_known.f k) (fun k => engramlaw6_known.mono k) h (by kernel_rfl)

theorem ft_mono (l u n n' : Int) (h0 : 0 ≤ n') (h : n' ≤ n) (hf : ft l u n = true) : ft l u n' = true := by
  unfold ft nd at *
  simp only [decide_eq_true_eq] at *
  repeat' split at hf
  all_goals (repeat' split)
  all_goals omega
theorem most_one {l p m m' : Int} (h : MostIs l p m) (h' : MostIs l p m') : m = m' := by
  have key : ∀ {a b : Int}, MostIs l p a → MostIs l p b → ¬ a < b := by
    intro a b ha hb hlt
    have h0 := ha.lo
    have hr := hb.hi (by omega)
    have := ha.top (by omega) (by omega)
    rw [ft_mono l 0 b (a + 1) (by omega) (by omega) (hb.fit (by omega))] at this
    cases this
  have := key h h'
  have := key h' h
  omega
theorem rsize_is (l p e : Int) : engramref3_Size.f l p e = some (sz l) := by
  unfold engramref3_Size.f sz
  by_cases h1 : l < 1
  · simp [h1]
  · by_cases h2 : l > 64
    · simp [h1, h2]
    · rw [if_neg h1, if_neg h2, if_neg (by omega)]
      unfold wrap64; congr 1; omega
theorem mx00 (u : Int) : mx u 0 = if u < 0 then 0 else u := by unfold mx; rfl
theorem rleft_is (l p e u : Int) (h1 : u ≤ 9223372036854775807) : engramref3_Left.f l p e u = some (lf l u) := by
  unfold engramref3_Left.f
  rw [rsize_is, Option.bind_some]
  have := sz_rng l
  unfold lf
  have e : wrap64 (sz l - (if u < 0 then 0 else u)) = sz l - (if u < 0 then 0 else u) := Plain.wrap64_id (by split <;> omega) (by split <;> omega)
  simp only [mx00, e]
theorem rneed_is (n : Int) : engramref3_Need.f n = some (nd n) := by
  unfold engramref3_Need.f nd
  by_cases h1 : n < 0
  · simp [h1]
  · by_cases h2 : n > 64
    · simp [h1, h2]
    · rw [if_neg h1, if_neg h2, if_neg (by omega)]
      unfold wrap64; congr 1; omega
theorem rfits_is (l p e u n : Int) (h1 : u ≤ 9223372036854775807) : engramref3_Fits.f l p e u n = some (ft l u n) := by
  unfold engramref3_Fits.f ft
  rw [rneed_is, Option.bind_some]
  by_cases h : nd n > 0
  · rw [if_pos h, Option.bind_some, rleft_is l p e u h1, Option.bind_some]; simp [h]
  · rw [if_neg h]; simp; omega
theorem rmost_loop (l p e : Int) : ∀ (d k : Nat) (x y : Int), 0 ≤ x → x ≤ 65 → 65 - x = d → 2 * d + 1 < k → -1 ≤ y → y < x → (0 ≤ y → ft l 0 y = true ∧ y ≤ p ∧ y ≤ 64) → (∀ j, y < j → j < x → ft l 0 j = false) →
    ∃ m, engramref3_Most.l0 k y x l p e = some m ∧ MostIs l p m := by
  have fin : ∀ (x y : Int), -1 ≤ y → y < x → (0 ≤ y → ft l 0 y = true ∧ y ≤ p ∧ y ≤ 64) → (∀ j, y < j → j < x → ft l 0 j = false) → ¬ (x ≤ p ∧ x ≤ 64) → MostIs l p y := by
    intro x y a b c d e
    exact ⟨a, fun h => (c h).1, fun h => (c h).2, fun h h' => d _ (by omega) (by omega)⟩
  intro d
  induction d with
  | zero =>
    intro k x y h0 h1 hd hk a b c f
    obtain ⟨k, rfl⟩ : ∃ m, k = m + 1 + 1 := ⟨k - 2, by omega⟩
    refine ⟨y, ?_, fin x y a b c f (by omega)⟩
    simp only [engramref3_Most.l0]
    rw [decide_eq_false (by omega : ¬ x ≤ 64)]
    simp only [engramref3_Most.j1, Bool.false_eq_true, if_false, ite_self]
  | succ d ih =>
    intro k x y h0 h1 hd hk a b c f
    obtain ⟨k, rfl⟩ : ∃ m, k = m + 1 + 1 := ⟨k - 2, by omega⟩
    simp only [engramref3_Most.l0]
    by_cases hx : x ≤ p
    · rw [if_pos hx]
      by_cases h64 : x ≤ 64
      · rw [decide_eq_true h64]
        simp only [engramref3_Most.j1, if_true]
        rw [rfits_is l p e 0 x (by decide), Option.bind_some, Plain.wrap64_id (x := x + 1) (by omega) (by omega)]
        by_cases hf : ft l 0 x = true
        · rw [if_pos hf]
          exact ih k (x + 1) x (by omega) (by omega) (by omega) (by omega) (by omega) (by omega) (fun _ => ⟨hf, hx, h64⟩) (fun j _ _ => by omega)
        · rw [if_neg hf]
          refine ih k (x + 1) y (by omega) (by omega) (by omega) (by omega) a (by omega) c (fun j hj hj' => ?_)
          by_cases e : j = x
          · rw [e]; simpa using hf
          · exact f j hj (by omega)
      · refine ⟨y, ?_, fin x y a b c f (by omega)⟩
        rw [decide_eq_false h64]
        simp only [engramref3_Most.j1, Bool.false_eq_true, if_false]
    · refine ⟨y, ?_, fin x y a b c f (by omega)⟩
      rw [if_neg hx]
      simp only [engramref3_Most.j1, Bool.false_eq_true, if_false]
theorem rmost_is (k : Nat) (hk : 140 ≤ k) (l p e : Int) : ∃ m, engramref3_Most.f k l p e = some m ∧ MostIs l p m :=
  rmost_loop l p e 65 k 0 (-1) (by decide) (by decide) rfl (by omega) (by decide) (by decide) (fun h => by omega) (fun j _ _ => by omega)

theorem same_is {k : Nat} (hk : 140 ≤ k) (l p e u n : Int) (hu : u ≤ 9223372036854775807) : engramlaw6_same.f k l p e u n = some true := by
  unfold engramlaw6_same.f
  obtain ⟨m, e1, h1⟩ := most_is k (by omega) l p e
  obtain ⟨m', e2, h2⟩ := rmost_is k hk l p e
  rw [size_is, rsize_is, Option.bind_some, Option.bind_some, if_pos rfl, left_is _ _ _ _ hu, rleft_is _ _ _ _ hu, Option.bind_some, Option.bind_some, if_pos rfl, fits_is _ _ _ _ _ hu, rfits_is _ _ _ _ _ hu, Option.bind_some, Option.bind_some, if_pos (by simp), e1, e2, Option.bind_some, Option.bind_some, most_one h1 h2]
  simp

theorem ev_same (l p e u n : Int) (hu : u ≤ 9223372036854775807) : Ev (fun k => engramlaw6_same.f k l p e u n) true := ⟨140, fun _ hk => same_is hk l p e u n hu⟩
theorem ev_known : Ev (fun k => engramlaw6_known.f k) true := ⟨70, fun _ hk => known_is hk⟩

theorem ev_l2 (x1 x2 : Int) (xs : List Int) (hx : ∀ x ∈ xs, x ≤ 9223372036854775807) (hl : xs.length ≤ 1000) (a b c : Int)
    (next : Ev (fun k => engramlaw6_SpaceNumbers.l1 k x1 (wrap64 (x2 + 3))) true) : ∀ (d : Nat) (i : Int), 0 ≤ i → i ≤ xs.length → (xs.length : Int) - i = d →
    Ev (fun k => engramlaw6_SpaceNumbers.l2 k x1 x2 xs xs.length i a b c) true := by
  intro d
  induction d with
  | zero =>
    intro i h0 h1 hd
    refine Ev.step (f := fun k => engramlaw6_SpaceNumbers.l1 k x1 (wrap64 (x2 + 3))) (fun k => ?_) next
    simp only [engramlaw6_SpaceNumbers.l2]
    rw [if_neg (by omega)]
  | succ d ih =>
    intro i h0 h1 hd
    have hr : rd xs i ≤ 9223372036854775807 := by
      have : i.toNat < xs.length := by omega
      unfold rd
      rw [List.getD_eq_getElem?_getD, List.getElem?_eq_getElem this]
      exact hx _ (List.getElem_mem _)
    refine Ev.step (f := fun k => (engramlaw6_same.f k a b c (rd xs i) x2).bind fun t142 => (if t142 = true then ((engramlaw6_same.f k a b c (rd xs i) x1).bind fun t143 => (if t143 = true then (engramlaw6_SpaceNumbers.l2 k x1 x2 xs xs.length (wrap64 (i + 1)) a b c) else (some false))) else (some false))) (fun k => ?_) ?_
    · simp only [engramlaw6_SpaceNumbers.l2]
      rw [if_pos (by omega), if_pos (by omega), if_pos (by omega)]
    · refine Ev.bind (ev_same _ _ _ _ _ hr) ?_
      simp only [if_true]
      refine Ev.bind (ev_same _ _ _ _ _ hr) ?_
      simp only [if_true]
      rw [Plain.wrap64_id (x := i + 1) (by omega) (by omega)]
      exact ih (i + 1) (by omega) (by omega) (by omega)

theorem ev_l1 (x1 : Int) (next : Ev (fun k => engramlaw6_SpaceNumbers.l0 k (wrap64 (x1 + 1))) true) : ∀ (d : Nat) (x2 : Int), -1 ≤ x2 → x2 ≤ 69 → 69 - x2 ≤ d →
    Ev (fun k => engramlaw6_SpaceNumbers.l1 k x1 x2) true := by
  intro d
  induction d with
  | zero =>
    intro x2 h0 h1 hd
    refine Ev.step (f := fun k => engramlaw6_SpaceNumbers.l0 k (wrap64 (x1 + 1))) (fun k => ?_) next
    simp only [engramlaw6_SpaceNumbers.l1]
    rw [if_neg (by omega)]
  | succ d ih =>
    intro x2 h0 h1 hd
    by_cases h : x2 < 67
    · refine Ev.step (f := fun k => engramlaw6_SpaceNumbers.l2 k x1 x2 [(-9223372036854775808), (-1), 0, 18, 64, wrap64 (x1 * 30), wrap64 (x1 * 64), wrap64 ((wrap64 (x1 * 64)) + 1), 9223372036854775807] (([(-9223372036854775808), (-1), 0, 18, 64, wrap64 (x1 * 30), wrap64 (x1 * 64), wrap64 ((wrap64 (x1 * 64)) + 1), 9223372036854775807] : List Int).length : Int) 0 x1 x2 0) (fun k => ?_) ?_
      · simp only [engramlaw6_SpaceNumbers.l1]
        rw [if_pos h, Option.bind_some]
      · have hw : ∀ y, wrap64 y ≤ 9223372036854775807 := fun y => by unfold wrap64; omega
        refine ev_l2 x1 x2 _ (fun x hx => ?_) (by simp) _ _ _ ?_ _ 0 (by decide) (by simp) rfl
        · simp only [List.mem_cons, List.not_mem_nil, or_false] at hx
          rcases hx with rfl | rfl | rfl | rfl | rfl | rfl | rfl | rfl | rfl <;> first | exact hw _ | decide
        · rw [Plain.wrap64_id (x := x2 + 3) (by omega) (by omega)]
          exact ih (x2 + 3) (by omega) (by omega) (by omega)
    · refine Ev.step (f := fun k => engramlaw6_SpaceNumbers.l0 k (wrap64 (x1 + 1))) (fun k => ?_) next
      simp only [engramlaw6_SpaceNumbers.l1]
      rw [if_neg h]

theorem ev_l0 : ∀ (d : Nat) (x1 : Int), -1 ≤ x1 → x1 ≤ 67 → 67 - x1 = d → Ev (fun k => engramlaw6_SpaceNumbers.l0 k x1) true := by
  intro d
  induction d with
  | zero =>
    intro x1 h0 h1 hd
    refine Ev.step (f := fun k => (engramlaw6_same.f k 4611686018427387904 4611686018427387904 0 0 4611686018427387904).bind fun t135 => (if t135 = true then ((engramlaw6_known.f k).bind fun t136 => (some t136)) else (some false))) (fun k => ?_) ?_
    · simp only [engramlaw6_SpaceNumbers.l0]
      rw [if_neg (by omega)]
    · refine Ev.bind (ev_same _ _ _ _ _ (by decide)) ?_
      simp only [if_true]
      exact Ev.bind ev_known (Ev.now true)
  | succ d ih =>
    intro x1 h0 h1 hd
    refine Ev.step (f := fun k => engramlaw6_SpaceNumbers.l1 k x1 (-1)) (fun k => ?_) ?_
    · simp only [engramlaw6_SpaceNumbers.l0]
      rw [if_pos (by omega)]
    · refine ev_l1 x1 ?_ 70 (-1) (by decide) (by decide) (by decide)
      rw [Plain.wrap64_id (x := x1 + 1) (by omega) (by omega)]
      exact ih (x1 + 1) (by omega) (by omega) (by omega)

end SpaceNumbersL
open SpaceNumbersL in
theorem SpaceNumbers : engramlaw6_SpaceNumbers.Pure := Ev.rounds (ev_l0 68 (-1) (by decide) (by decide) (by decide))

end Go.Proofs.Ytfigfdggieenbaa.Pure
