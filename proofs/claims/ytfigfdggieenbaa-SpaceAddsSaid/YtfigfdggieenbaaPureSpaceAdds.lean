/- SpaceAdds: what fits one behind the other is no more than the log, and what is used is no longer left. No condition. -/
import Derived.Test.YtfigfdggieenbaaPSpaceAddsx2
import Derived.Test.YtfigfdggieenbaaBits
import Derived.KernelRfl
import Derived.Test.YtfigfdggieenbaaWSized
namespace Go.Proofs.Ytfigfdggieenbaa.PrintWords
/-- The same law under the name by which the row asks for it. -/
abbrev sized_ints := @Go.Proofs.YtfigfdggieenbaaW.PrintWords.sized_ints
end Go.Proofs.Ytfigfdggieenbaa.PrintWords
namespace Go.Proofs.Ytfigfdggieenbaa.Pure
open Go.RowKit Go.Proofs.Ytfigfdggieenbaa.PSpaceAdds Go.Proofs.YtfigfdggieenbaaW.PrintWords Go.Proofs.YtfigfdggieenbaaW.PrintLast Go.Proofs.YtfigfdggieenbaaW.PrintMore
namespace SpaceAddsL
/-- how long the log is -/
def sz (log : Int) : Int := if log < 1 ∨ 64 < log then 0 else log * 64
theorem sz_rng (log : Int) : 0 ≤ sz log ∧ sz log ≤ 4096 := by unfold sz; split <;> omega
theorem size_is (l p e : Int) : space_Size.f l p e = some (sz l) := by
  unfold space_Size.f sz
  by_cases h1 : l < 1
  · simp [h1]
  · by_cases h2 : l > 64
    · simp [h1, h2]
    · rw [if_neg h1, if_neg h2, if_neg (by omega)]
      unfold wrap64; congr 1; omega
def lf (log used : Int) : Int := if sz log - (if used < 0 then 0 else used) < 0 then 0 else sz log - (if used < 0 then 0 else used)
theorem mx0 (u : Int) : mx 0 u = if u < 0 then 0 else u := by unfold mx; split <;> split <;> omega
theorem left_is (l p e u : Int) (h1 : u ≤ 9223372036854775807) : space_Left.f l p e u = some (lf l u) := by
  unfold space_Left.f
  rw [size_is, Option.bind_some]
  have := sz_rng l
  unfold lf
  have e : wrap64 (sz l - (if u < 0 then 0 else u)) = sz l - (if u < 0 then 0 else u) := Plain.wrap64_id (by split <;> omega) (by split <;> omega)
  simp only [mx0, e]
def nd (n : Int) : Int := if n < 0 ∨ 64 < n then 0 else 18 + n * 66
theorem need_is (n : Int) : delta_Need.f n = some (nd n) := by
  unfold delta_Need.f nd
  by_cases h1 : n < 0
  · simp [h1]
  · by_cases h2 : n > 64
    · simp [h1, h2]
    · rw [if_neg h1, if_neg h2, if_neg (by omega)]
      unfold wrap64; congr 1; omega
def ft (l u n : Int) : Bool := decide (0 < nd n ∧ nd n ≤ lf l u)
theorem fits_is (l p e u n : Int) (h1 : u ≤ 9223372036854775807) : space_Fits.f l p e u n = some (ft l u n) := by
  unfold space_Fits.f ft
  rw [need_is, Option.bind_some]
  by_cases h : nd n > 0
  · rw [if_pos h, left_is l p e u h1, Option.bind_some]; simp [h]
  · rw [if_neg h]; simp; omega
/-- what Most answers: it fits, no more does, within the pages -/
structure MostIs (l p m : Int) : Prop where
  lo : -1 ≤ m
  fit : 0 ≤ m → ft l 0 m = true
  hi : 0 ≤ m → m ≤ p ∧ m ≤ 64
  top : m + 1 ≤ p → m + 1 ≤ 64 → ft l 0 (m + 1) = false
theorem most_loop (l p e : Int) : ∀ (d k : Nat) (x : Int), 0 ≤ x → x ≤ 65 → 65 - x = d → d < k → (1 ≤ x → ft l 0 (x - 1) = true ∧ x - 1 ≤ p ∧ x - 1 ≤ 64) →
    ∃ m, space_Most.l0 k (x - 1) x l p e = some m ∧ MostIs l p m := by
  intro d
  induction d with
  | zero =>
    intro k x h0 h1 hd hk hp
    obtain ⟨k, rfl⟩ : ∃ m, k = m + 1 := ⟨k - 1, by omega⟩
    refine ⟨x - 1, ?_, by omega, fun h => (hp (by omega)).1, fun h => (hp (by omega)).2, fun _ h => by omega⟩
    simp only [space_Most.l0]
    rw [if_neg (by unfold mn; split <;> omega)]
  | succ d ih =>
    intro k x h0 h1 hd hk hp
    obtain ⟨k, rfl⟩ : ∃ m, k = m + 1 := ⟨k - 1, by omega⟩
    simp only [space_Most.l0]
    by_cases hx : x ≤ mn p 64
    · have hx' : x ≤ p ∧ x ≤ 64 := by unfold mn at hx; split at hx <;> omega
      rw [if_pos hx, fits_is l p e 0 x (by decide), Option.bind_some]
      by_cases hf : ft l 0 x = true
      · rw [if_pos hf]
        have e : wrap64 (x + 1) = x + 1 := Plain.wrap64_id (by omega) (by omega)
        rw [e]
        have := ih k (x + 1) (by omega) (by omega) (by omega) (by omega) (fun _ => by rw [show x + 1 - 1 = x from by omega]; exact ⟨hf, hx'⟩)
        rw [show x + 1 - 1 = x from by omega] at this
        exact this
      · rw [if_neg hf]
        exact ⟨x - 1, rfl, by omega, fun h => (hp (by omega)).1, fun h => (hp (by omega)).2, fun _ _ => by rw [show x - 1 + 1 = x from by omega]; simpa using hf⟩
    · rw [if_neg hx]
      exact ⟨x - 1, rfl, by omega, fun h => (hp (by omega)).1, fun h => (hp (by omega)).2, fun h h' => absurd (show x ≤ mn p 64 by unfold mn; split <;> omega) hx⟩
theorem most_is (k : Nat) (hk : 66 ≤ k) (l p e : Int) : ∃ m, space_Most.f k l p e = some m ∧ MostIs l p m := by
  have := most_loop l p e 65 k 0 (by decide) (by decide) rfl (by omega) (fun h => by omega)
  exact this
theorem known_is {k : Nat} (h : 70 ≤ k) : engramlaw6_known.f k = some true :=
  at_rounds (g := fun k => engramlaw6_known.f k) (fun k => engramlaw6_known.mono k) h (by kernel_rfl)
theorem within_is (k : Nat) (n lo hi : Int) (h0 : -1000000 ≤ lo) (h1 : lo ≤ hi) (h2 : hi ≤ 1000000) : ∃ r, engrambook_Within.f (k + 1) n lo hi = some r ∧ lo ≤ r ∧ r ≤ hi ∧ (lo ≤ n → n ≤ hi → r = n) := by
  have hj : ∀ b : Bool, b = decide (lo ≤ n ∧ n ≤ hi) → ∃ r, engrambook_Within.j0 (k + 1) n lo hi b = some r ∧ lo ≤ r ∧ r ≤ hi ∧ (lo ≤ n → n ≤ hi → r = n) := by
    intro b hb
    simp only [engrambook_Within.j0]
    by_cases h : lo ≤ n ∧ n ≤ hi
    · rw [if_pos (by rw [hb]; exact decide_eq_true h)]
      exact ⟨n, rfl, h.1, h.2, fun _ _ => rfl⟩
    · rw [if_neg (by rw [hb]; simpa using h)]
      have e : wrap64 (wrap64 (hi - lo) + 1) = hi - lo + 1 := by
        rw [Plain.wrap64_id (x := hi - lo) (by omega) (by omega), Plain.wrap64_id (by omega) (by omega)]
      rw [e, if_neg (by omega)]
      have m1 := Int.tmod_lt_of_pos n (b := hi - lo + 1) (by omega)
      have m2 := Int.lt_tmod_of_pos n (b := hi - lo + 1) (by omega)
      generalize Int.tmod n (hi - lo + 1) = m at *
      by_cases hm : m < 0
      · rw [if_pos hm]
        refine ⟨lo + (m + hi - lo + 1), ?_, by omega, by omega, fun a b => absurd ⟨a, b⟩ h⟩
        rw [Plain.wrap64_id (x := m + hi) (by omega) (by omega), Plain.wrap64_id (x := m + hi - lo) (by omega) (by omega), Plain.wrap64_id (x := m + hi - lo + 1) (by omega) (by omega), Plain.wrap64_id (by omega) (by omega)]
      · rw [if_neg hm]
        refine ⟨lo + m, ?_, by omega, by omega, fun a b => absurd ⟨a, b⟩ h⟩
        rw [Plain.wrap64_id (by omega) (by omega)]
  unfold engrambook_Within.f
  by_cases h : n ≥ lo
  · rw [if_pos h]
    exact hj _ (by rw [Bool.eq_iff_iff]; simp; omega)
  · rw [if_neg h]
    exact hj _ (by rw [Bool.eq_iff_iff]; simp; omega)

theorem rneed_is (n : Int) : engramref3_Need.f n = some (nd n) := by
  unfold engramref3_Need.f nd
  by_cases h1 : n < 0
  · simp [h1]
  · by_cases h2 : n > 64
    · simp [h1, h2]
    · rw [if_neg h1, if_neg h2, if_neg (by omega)]
      unfold wrap64; congr 1; omega

theorem loop (l : Int) (xs : List Int) : ∀ (d k : Nat) (i u : Int), 0 ≤ i → i ≤ 40 → 40 - i = d → 3 * d + 80 < k → 0 ≤ u → u ≤ sz l →
    engramlaw6_SpaceAdds.l0 k xs u i l 64 0 = some true := by
  intro d
  induction d with
  | zero =>
    intro k i u a b hd hk u0 u1
    obtain ⟨k, rfl⟩ : ∃ m, k = m + 1 + 1 := ⟨k - 2, by omega⟩
    have hj : ∀ c : Bool, c = false → engramlaw6_SpaceAdds.j1 (k + 1) xs u i c l 64 0 = some true := by
      intro c hc
      simp only [engramlaw6_SpaceAdds.j1, hc, Bool.false_eq_true, if_false]
      rw [known_is (by omega), Option.bind_some]
    simp only [engramlaw6_SpaceAdds.l0]
    split
    · exact hj _ (by simp; omega)
    · exact hj _ rfl
  | succ d ih =>
    intro k i u a b hd hk u0 u1
    obtain ⟨k, rfl⟩ : ∃ m, k = m + 1 + 1 + 1 := ⟨k - 3, by omega⟩
    have hr := sz_rng l
    have hj2 : ∀ v, 0 ≤ v → v ≤ sz l → engramlaw6_SpaceAdds.j2 (k + 1) xs v i l 64 0 = some true := by
      intro v v0 v1
      simp only [engramlaw6_SpaceAdds.j2, size_is, Option.bind_some, left_is l 64 0 v (by omega)]
      rw [if_neg (by omega)]
      have e : lf l v = sz l - v := by unfold lf; repeat' split
                                       all_goals omega
      rw [e, Plain.wrap64_id (x := sz l - v) (by omega) (by omega), if_pos rfl, Plain.wrap64_id (x := i + 1) (by omega) (by omega)]
      exact ih k (i + 1) v (by omega) (by omega) (by omega) (by omega) v0 v1
    simp only [engramlaw6_SpaceAdds.l0]
    by_cases hi : i < (xs.length : Int)
    · rw [if_pos hi, decide_eq_true (by omega : i < 40)]
      simp only [engramlaw6_SpaceAdds.j1, if_true]
      rw [if_pos a, if_pos hi]
      obtain ⟨n, e1, n1, n2, -⟩ := within_is k (rd xs i) 0 9 (by decide) (by decide) (by decide)
      rw [e1, Option.bind_some, fits_is _ _ _ _ _ (by omega), Option.bind_some]
      by_cases hf : ft l u n = true
      · rw [if_pos hf, rneed_is, Option.bind_some]
        have hs : 0 < nd n ∧ u + nd n ≤ sz l := by
          unfold ft lf at hf
          simp only [decide_eq_true_eq] at hf
          repeat' split at hf
          all_goals omega
        rw [Plain.wrap64_id (x := u + nd n) (by omega) (by omega)]
        exact hj2 _ (by omega) hs.2
      · rw [if_neg hf]
        exact hj2 _ u0 u1
    · rw [if_neg hi]
      simp only [engramlaw6_SpaceAdds.j1, Bool.false_eq_true, if_false]
      rw [known_is (by omega), Option.bind_some]

end SpaceAddsL
open SpaceAddsL in
theorem SpaceAdds : engramlaw6_SpaceAdds.Pure := by
  intro a0 xs _ _ _ _
  refine ⟨299 + 1, ?_⟩
  unfold engramlaw6_SpaceAdds.f
  obtain ⟨l, e1, -, -, -⟩ := within_is 299 a0 1 64 (by decide) (by decide) (by decide)
  rw [e1, Option.bind_some]
  exact loop l xs 40 300 0 0 (by decide) (by decide) rfl (by decide) (by decide) (sz_rng l).1

end Go.Proofs.Ytfigfdggieenbaa.Pure
