/- SpaceMost: as many changes as Most answers fit into an empty log, one more does not unless there are no more pages, and more room never lets less in. No condition. -/
import Derived.Test.YtfigfdggieenbaaPSpaceMostx1
import Derived.Test.YtfigfdggieenbaaBits
import Derived.KernelRfl
namespace Go.Proofs.Ytfigfdggieenbaa.Pure
open Go.RowKit Go.Proofs.Ytfigfdggieenbaa.PSpaceMost Go.Proofs.YtfigfdggieenbaaW.PrintWords Go.Proofs.YtfigfdggieenbaaW.PrintLast Go.Proofs.YtfigfdggieenbaaW.PrintMore
namespace SpaceMostL
/-- how long the log is -/
def sz (log : Int) : Int := if log < 1 ∨ 64 < log then 0 else log * 64
theorem sz_rng (log : Int) : 0 ≤ sz log ∧ sz log ≤ 4096 := by unfold sz; split <;> omega
theorem size_is (l p e : Int) : space_Size.f l p e = some (sz l) := by
  unfold space_Size.f sz
  by_cases h1 : l < 1
  · simp [h1]
  · by_cases h2 : l > 64
    · simp [h1, h2]
    · rw [if_neg h1, if_neg h2, if_neg (by omega)]
      unfold wrap64; congr 1; omega
def lf (log used : Int) : Int := if sz log - (if used < 0 then 0 else used) < 0 then 0 else sz log - (if used < 0 then 0 else used)
theorem mx0 (u : Int) : mx 0 u = if u < 0 then 0 else u := by unfold mx; split <;> split <;> omega
theorem left_is (l p e u : Int) (h1 : u ≤ 9223372036854775807) : space_Left.f l p e u = some (lf l u) := by
  unfold space_Left.f
  rw [size_is, Option.bind_some]
  have := sz_rng l
  unfold lf
  have e : wrap64 (sz l - (if u < 0 then 0 else u)) = sz l - (if u < 0 then 0 else u) := Plain.wrap64_id (by split <;> omega) (by split <;> omega)
  simp only [mx0, e]
def nd (n : Int) : Int := if n < 0 ∨ 64 < n then 0 else 18 + n * 66
theorem need_is (n : Int) : delta_Need.f n = some (nd n) := by
  unfold delta_Need.f nd
  by_cases h1 : n < 0
  · simp [h1]
  · by_cases h2 : n > 64
    · simp [h1, h2]
    · rw [if_neg h1, if_neg h2, if_neg (by omega)]
      unfold wrap64; congr 1; omega
def ft (l u n : Int) : Bool := decide (0 < nd n ∧ nd n ≤ lf l u)
theorem fits_is (l p e u n : Int) (h1 : u ≤ 9223372036854775807) : space_Fits.f l p e u n = some (ft l u n) := by
  unfold space_Fits.f ft
  rw [need_is, Option.bind_some]
  by_cases h : nd n > 0
  · rw [if_pos h, left_is l p e u h1, Option.bind_some]; simp [h]
  · rw [if_neg h]; simp; omega
/-- what Most answers: it fits, no more does, within the pages -/
structure MostIs (l p m : Int) : Prop where
  lo : -1 ≤ m
  fit : 0 ≤ m → ft l 0 m = true
  hi : 0 ≤ m → m ≤ p ∧ m ≤ 64
  top : m + 1 ≤ p → m + 1 ≤ 64 → ft l 0 (m + 1) = false
theorem most_loop (l p e : Int) : ∀ (d k : Nat) (x : Int), 0 ≤ x → x ≤ 65 → 65 - x = d → d < k → (1 ≤ x → ft l 0 (x - 1) = true ∧ x - 1 ≤ p ∧ x - 1 ≤ 64) →
    ∃ m, space_Most.l0 k (x - 1) x l p e = some m ∧ MostIs l p m := by
  intro d
  induction d with
  | zero =>
    intro k x h0 h1 hd hk hp
    obtain ⟨k, rfl⟩ : ∃ m, k = m + 1 := ⟨k - 1, by omega⟩
    refine ⟨x - 1, ?_, by omega, fun h => (hp (by omega)).1, fun h => (hp (by omega)).2, fun _ h => by omega⟩
    simp only [space_Most.l0]
    rw [if_neg (by unfold mn; split <;> omega)]
  | succ d ih =>
    intro k x h0 h1 hd hk hp
    obtain ⟨k, rfl⟩ : ∃ m, k = m + 1 := ⟨k - 1, by omega⟩
    simp only [space_Most.l0]
    by_cases hx : x ≤ mn p 64
    · have hx' : x ≤ p ∧ x ≤ 64 := by unfold mn at hx; split at hx <;> omega
      rw [if_pos hx, fits_is l p e 0 x (by decide), Option.bind_some]
      by_cases hf : ft l 0 x = true
      · rw [if_pos hf]
        have e : wrap64 (x + 1) = x + 1 := Plain.wrap64_id (by omega) (by omega)
        rw [e]
        have := ih k (x + 1) (by omega) (by omega) (by omega) (by omega) (fun _ => by rw [show x + 1 - 1 = x from by omega]; exact ⟨hf, hx'⟩)
        rw [show x + 1 - 1 = x from by omega] at this
        exact this
      · rw [if_neg hf]
        exact ⟨x - 1, rfl, by omega, fun h => (hp (by omega)).1, fun h => (hp (by omega)).2, fun _ _ => by rw [show x - 1 + 1 = x from by omega]; simpa using hf⟩
    · rw [if_neg hx]
      exact ⟨x - 1, rfl, by omega, fun h => (hp (by omega)).1, fun h => (hp (by omega)).2, fun h h' => absurd (show x ≤ mn p 64 by unfold mn; split <;> omega) hx⟩
theorem most_is (k : Nat) (hk : 66 ≤ k) (l p e : Int) : ∃ m, space_Most.f k l p e = some m ∧ MostIs l p m := by
  have := most_loop l p e 65 k 0 (by decide) (by decide) rfl (by omega) (fun h => by omega)
  exact this
theorem known_is {k : Nat} (h : 70 ≤ k) : engramlaw6_known.f k = some true :=
  at_rounds (g := fun k => engramlaw6_known.f k) (fun k => engramlaw6_known.mono k) h (by kernel_rfl)
theorem within_is (k : Nat) (n lo hi : Int) (h0 : -1000000 ≤ lo) (h1 : lo ≤ hi) (h2 : hi ≤ 1000000) : ∃ r, engrambook_Within.f (k + 1) n lo hi = some r ∧ lo ≤ r ∧ r ≤ hi ∧ (lo ≤ n → n ≤ hi → r = n) := by
  have hj : ∀ b : Bool, b = decide (lo ≤ n ∧ n ≤ hi) → ∃ r, engrambook_Within.j0 (k + 1) n lo hi b = some r ∧ lo ≤ r ∧ r ≤ hi ∧ (lo ≤ n → n ≤ hi → r = n) := by
    intro b hb
    simp only [engrambook_Within.j0]
    by_cases h : lo ≤ n ∧ n ≤ hi
    · rw [if_pos (by rw [hb]; exact decide_eq_true h)]
      exact ⟨n, rfl, h.1, h.2, fun _ _ => rfl⟩
    · rw [if_neg (by rw [hb]; simpa using h)]
      have e : wrap64 (wrap64 (hi - lo) + 1) = hi - lo + 1 := by
        rw [Plain.wrap64_id (x := hi - lo) (by omega) (by omega), Plain.wrap64_id (by omega) (by omega)]
      rw [e, if_neg (by omega)]
      have m1 := Int.tmod_lt_of_pos n (b := hi - lo + 1) (by omega)
      have m2 := Int.lt_tmod_of_pos n (b := hi - lo + 1) (by omega)
      generalize Int.tmod n (hi - lo + 1) = m at *
      by_cases hm : m < 0
      · rw [if_pos hm]
        refine ⟨lo + (m + hi - lo + 1), ?_, by omega, by omega, fun a b => absurd ⟨a, b⟩ h⟩
        rw [Plain.wrap64_id (x := m + hi) (by omega) (by omega), Plain.wrap64_id (x := m + hi - lo) (by omega) (by omega), Plain.wrap64_id (x := m + hi - lo + 1) (by omega) (by omega), Plain.wrap64_id (by omega) (by omega)]
      · rw [if_neg hm]
        refine ⟨lo + m, ?_, by omega, by omega, fun a b => absurd ⟨a, b⟩ h⟩
        rw [Plain.wrap64_id (by omega) (by omega)]
  unfold engrambook_Within.f
  by_cases h : n ≥ lo
  · rw [if_pos h]
    exact hj _ (by rw [Bool.eq_iff_iff]; simp; omega)
  · rw [if_neg h]
    exact hj _ (by rw [Bool.eq_iff_iff]; simp; omega)

theorem ft_mono (l u n n' : Int) (h0 : 0 ≤ n') (h : n' ≤ n) (hf : ft l u n = true) : ft l u n' = true := by
  unfold ft nd at *
  simp only [decide_eq_true_eq] at *
  repeat' split at hf
  all_goals (repeat' split)
  all_goals omega
theorem ft_more (l u n : Int) (h1 : 1 ≤ l) (h2 : l ≤ 63) (hf : ft l u n = true) : ft (l + 1) u n = true := by
  unfold ft lf sz at *
  simp only [decide_eq_true_eq] at *
  repeat' split at hf
  all_goals (repeat' split)
  all_goals omega
theorem ft_zero (l : Int) (h1 : 1 ≤ l) (h2 : l ≤ 63) : ft l 0 0 = true := by
  unfold ft lf sz nd
  simp only [decide_eq_true_eq]
  repeat' split
  all_goals omega

theorem loop (l p u m : Int) (h1 : 1 ≤ l) (h2 : l ≤ 63) (hp : 1 ≤ p) (hu : u ≤ 4096) (hm : MostIs l p m) : ∀ (d k : Nat) (n : Int), 0 ≤ n → n ≤ 65 → 65 - n = d → d + 80 < k →
    engramlaw6_SpaceMost.l0 k m u n l p 0 (l + 1) p 0 = some true := by
  intro d
  induction d with
  | zero =>
    intro k n a b hd hk
    obtain ⟨k, rfl⟩ : ∃ m, k = m + 1 := ⟨k - 1, by omega⟩
    simp only [engramlaw6_SpaceMost.l0]
    rw [if_neg (by omega)]
    obtain ⟨m', e', hm'⟩ := most_is k (by omega) (l + 1) p 0
    have hm0 : 0 ≤ m := by
      rcases Int.lt_or_le m 0 with h | h
      · have := hm.top (by have := hm.lo; omega) (by omega)
        rw [show m + 1 = 0 from by have := hm.lo; omega, ft_zero l h1 h2] at this
        cases this
      · exact h
    have hmm : m ≤ m' := by
      rcases Int.lt_or_le m' m with h | h
      · have hr := hm.hi hm0
        have := hm'.top (by omega) (by omega)
        rw [ft_more l 0 (m' + 1) h1 h2 (ft_mono l 0 m (m' + 1) (by have := hm'.lo; omega) (by omega) (hm.fit hm0))] at this
        cases this
      · exact h
    rw [if_pos (show m ≥ 0 from hm0), fits_is _ _ _ _ _ (by decide), Option.bind_some, if_pos (hm.fit hm0)]
    rw [e', Option.bind_some, if_pos (show m' ≥ m from hmm), known_is (by omega), Option.bind_some]
    by_cases hmp : m = p
    · rw [if_pos hmp]
    · have hr := hm.hi hm0
      rw [if_neg hmp, Plain.wrap64_id (x := m + 1) (by omega) (by omega), fits_is _ _ _ _ _ (by decide), Option.bind_some]
      have hf : ft l 0 (m + 1) = false := by
        by_cases h64 : m + 1 ≤ 64
        · exact hm.top (by omega) h64
        · unfold ft nd; rw [if_pos (Or.inr (by omega))]; simp
      rw [hf]; rfl
  | succ d ih =>
    intro k n a b hd hk
    obtain ⟨k, rfl⟩ : ∃ m, k = m + 1 := ⟨k - 1, by omega⟩
    simp only [engramlaw6_SpaceMost.l0]
    rw [if_pos (by omega), fits_is _ _ _ _ _ (by omega), Option.bind_some, fits_is _ _ _ _ _ (by omega), Option.bind_some, Plain.wrap64_id (x := n + 1) (by omega) (by omega), ih k (n + 1) (by omega) (by omega) (by omega) (by omega)]
    by_cases hf : ft l u n = true
    · rw [if_pos hf, if_pos (ft_more l u n h1 h2 hf)]
    · rw [if_neg hf]

end SpaceMostL
open SpaceMostL in
theorem SpaceMost : engramlaw6_SpaceMost.Pure := by
  intro a0 a1 a2 w0 w1 w2
  refine ⟨199 + 1, ?_⟩
  unfold engramlaw6_SpaceMost.f
  obtain ⟨l, e1, l1, l2, -⟩ := within_is 199 a0 1 63 (by decide) (by decide) (by decide)
  obtain ⟨p, e2, p1, p2, -⟩ := within_is 199 a1 1 64 (by decide) (by decide) (by decide)
  obtain ⟨m, e3, hm⟩ := most_is 200 (by decide) l p 0
  obtain ⟨u, e4, u1, u2, -⟩ := within_is 199 a2 0 4096 (by decide) (by decide) (by decide)
  rw [e1, Option.bind_some, e2, Option.bind_some, e3, Option.bind_some, e4, Option.bind_some, Plain.wrap64_id (x := l + 1) (by omega) (by omega)]
  exact loop l p u m l1 l2 p1 (by omega) hm 65 200 0 (by decide) (by decide) rfl (by decide)

end Go.Proofs.Ytfigfdggieenbaa.Pure
