/- WordTells: the program reckons every sign of every two numbers as the document's own answer does. No condition. -/
import Derived.Test.YtfigfdggieenbaaPWordTellsx2
import Derived.Test.YtfigfdggieenbaaBits
import Derived.KernelRfl
namespace Go.Proofs.Ytfigfdggieenbaa.Pure
open Go.RowKit Go.Proofs.Ytfigfdggieenbaa.PWordTells Go.Proofs.YtfigfdggieenbaaW.PrintWords Go.Proofs.YtfigfdggieenbaaW.PrintLast Go.Proofs.YtfigfdggieenbaaW.PrintMore
namespace WordTellsL
theorem parted_is (k : Nat) (s a b : Int) : word_parted.f (k + 1) s a b = some (if b = 0 then (0, 3) else if s = 37 then (if b = -1 then (0, 0) else (Int.tmod a b, 0)) else if a = -9223372036854775808 ∧ b = -1 then (0, 4) else (wrap64 (Int.tdiv a b), 0)) := by
  unfold word_parted.f
  by_cases hb : b = 0
  · simp [hb]
  · rw [if_neg hb, if_neg hb]
    by_cases hs : s = 37
    · rw [if_pos hs, if_pos hs]
      simp only [word_parted.j0]
      by_cases h1 : b = -1
      · simp [h1]
      · simp [h1, hb, hs]
    · rw [if_neg hs, if_neg hs]
      simp only [word_parted.j0]
      simp only [if_neg hs, if_neg hb, Bool.false_eq_true, if_false]
      by_cases ha : a = -9223372036854775808
      · by_cases h1 : b = -1
        · simp [ha, h1]
        · simp [ha, h1]
      · simp [ha]

/-- chapter 10's answer, as a plain function -/
def doF (s a b : Int) : Int × Int :=
  if s = 43 then (wrap64 (a + b), 0) else if s = 45 then (wrap64 (a - b), 0) else if s = 42 then (wrap64 (a * b), 0)
  else if s = 47 ∨ s = 37 then (if b = 0 then (0, 3) else if s = 37 then (if b = -1 then (0, 0) else (Int.tmod a b, 0)) else if a = -9223372036854775808 ∧ b = -1 then (0, 4) else (wrap64 (Int.tdiv a b), 0))
  else if s = 38 then (Go.bits .and .i64 a b, 0) else if s = 124 then (Go.bits .or .i64 a b, 0) else if s = 94 then (Go.bits .xor .i64 a b, 0)
  else if s = 60 then (if a < b then 1 else 0, 0) else if s = 61 then (if a = b then 1 else 0, 0) else if s = 33 then (if a = 0 then 1 else 0, 0)
  else if s = 171 then (shl .i64 a (b % 64), 0) else if s = 187 then (shr .i64 a (b % 64), 0) else (0, 2)

theorem bit_is (c : Bool) : word_bit.f c = some (if c = true then 1 else 0) := by unfold word_bit.f; split <;> rfl

theorem do_is (k : Nat) (s a b : Int) : word_Do.f (k + 2) s a b = some (doF s a b) := by
  unfold word_Do.f doF
  by_cases h43 : s = 43
  · rw [if_pos h43, if_pos h43]
  rw [if_neg h43, if_neg h43]
  by_cases h45 : s = 45
  · rw [if_pos h45, if_pos h45]
  rw [if_neg h45, if_neg h45]
  by_cases h42 : s = 42
  · rw [if_pos h42, if_pos h42]
  rw [if_neg h42, if_neg h42]
  have key : ∀ c : Bool, c = decide (s = 47 ∨ s = 37) → word_Do.j0 (k + 2) s a b s c = some (if s = 47 ∨ s = 37 then (if b = 0 then (0, 3) else if s = 37 then (if b = -1 then (0, 0) else (Int.tmod a b, 0)) else if a = -9223372036854775808 ∧ b = -1 then (0, 4) else (wrap64 (Int.tdiv a b), 0))
      else if s = 38 then (Go.bits .and .i64 a b, 0) else if s = 124 then (Go.bits .or .i64 a b, 0) else if s = 94 then (Go.bits .xor .i64 a b, 0)
      else if s = 60 then (if a < b then 1 else 0, 0) else if s = 61 then (if a = b then 1 else 0, 0) else if s = 33 then (if a = 0 then 1 else 0, 0)
      else if s = 171 then (shl .i64 a (b % 64), 0) else if s = 187 then (shr .i64 a (b % 64), 0) else (0, 2)) := by
    intro c hc
    simp only [word_Do.j0, parted_is, bit_is, Option.bind_some, Plain.and63]
    by_cases h47 : s = 47 ∨ s = 37
    · rw [if_pos (by rw [hc]; exact decide_eq_true h47), if_pos h47]
    · rw [if_neg (by rw [hc]; simpa using h47), if_neg h47]
      have h0 : 0 ≤ b % 64 := by omega
      simp only [if_pos h0, decide_eq_true_eq, beq_iff_eq]
      repeat' (first | (split; rfl) | rfl | skip)
      all_goals (split <;> first | rfl | skip)
      all_goals (repeat' (first | rfl | split))
  by_cases h47 : s = 47
  · rw [if_pos h47]
    exact key _ (by simp [h47])
  · rw [if_neg h47]
    exact key _ (by rw [Bool.eq_iff_iff]; simp [h47])

theorem known_is (k : Nat) : engramlaw10_known.f (k + 2) = some true := by
  unfold engramlaw10_known.f
  simp only [do_is, Option.bind_some]
  kernel_rfl

theorem rbit_is (c : Bool) : engramref11_bit.f c = some (if c = true then 1 else 0) := by unfold engramref11_bit.f; split <;> rfl
theorem u64_mod (b : Int) : IntKind.u64.wrap (b % 64) = b % 64 := by rw [Plain.wrap_u64]; omega

theorem rdo_is (k : Nat) (s a b : Int) : engramref11_Do.f (k + 2) s a b = some (doF s a b) := by
  unfold engramref11_Do.f doF
  by_cases h43 : s = 43
  · rw [if_pos h43, if_pos h43]
  rw [if_neg h43, if_neg h43]
  by_cases h45 : s = 45
  · rw [if_pos h45, if_pos h45]
  rw [if_neg h45, if_neg h45]
  by_cases h42 : s = 42
  · rw [if_pos h42, if_pos h42]
  rw [if_neg h42, if_neg h42]
  have key : ∀ c : Bool, c = decide (s = 47 ∨ s = 37) → engramref11_Do.j0 (k + 2) s a b s c = some (if s = 47 ∨ s = 37 then (if b = 0 then (0, 3) else if s = 37 then (if b = -1 then (0, 0) else (Int.tmod a b, 0)) else if a = -9223372036854775808 ∧ b = -1 then (0, 4) else (wrap64 (Int.tdiv a b), 0))
      else if s = 38 then (Go.bits .and .i64 a b, 0) else if s = 124 then (Go.bits .or .i64 a b, 0) else if s = 94 then (Go.bits .xor .i64 a b, 0)
      else if s = 60 then (if a < b then 1 else 0, 0) else if s = 61 then (if a = b then 1 else 0, 0) else if s = 33 then (if a = 0 then 1 else 0, 0)
      else if s = 171 then (shl .i64 a (b % 64), 0) else if s = 187 then (shr .i64 a (b % 64), 0) else (0, 2)) := by
    intro c hc
    simp only [engramref11_Do.j0, rbit_is, Option.bind_some, Plain.and63, u64_mod]
    by_cases h47 : s = 47 ∨ s = 37
    · rw [if_pos (by rw [hc]; exact decide_eq_true h47), if_pos h47]
      by_cases hb : b = 0
      · rw [if_pos hb, if_pos hb]
      rw [if_neg hb, if_neg hb]
      by_cases hm : b = -1
      · rw [if_pos hm]
        subst hm
        by_cases h37 : s = 37
        · rw [if_pos h37, if_pos h37]; rfl
        · rw [if_neg h37, if_neg h37, Int.tdiv_neg, Int.tdiv_one]
          by_cases ha : a = -9223372036854775808
          · simp [ha]
          · simp [ha]
      · rw [if_neg hm]
        rcases h47 with h | h
        · simp [h, hm]
        · simp [h, hm]
    · rw [if_neg (by rw [hc]; simpa using h47), if_neg h47]
      have h0 : 0 ≤ b % 64 := by omega
      simp only [if_pos h0, decide_eq_true_eq, beq_iff_eq]
      by_cases c1 : s = 38
      · simp [c1]
      by_cases c2 : s = 124
      · simp [c2]
      by_cases c3 : s = 94
      · simp [c3]
      by_cases c4 : s = 60
      · simp [c4]
      by_cases c5 : s = 61
      · simp [c5]
      by_cases c6 : s = 33
      · simp [c6]
      by_cases c7 : s = 171
      · simp [c7]
      by_cases c8 : s = 187
      · simp [c8]
      simp [c1, c2, c3, c4, c5, c6, c7, c8]
  by_cases h47 : s = 47
  · rw [if_pos h47]
    exact key _ (by simp [h47])
  · rw [if_neg h47]
    exact key _ (by rw [Bool.eq_iff_iff]; simp [h47])

theorem same_is (k : Nat) (s a b : Int) : engramlaw10_same.f (k + 2) s a b = some true := by
  unfold engramlaw10_same.f
  simp [do_is, rdo_is, word_Byte.f]

end WordTellsL
open WordTellsL in
theorem WordTells : engramlaw10_WordTells.Pure := by
  intro a0 a1 a2 a3 w0 w1 w2 w3
  refine ⟨0 + 2, ?_⟩
  unfold engramlaw10_WordTells.f
  have hs : engramlaw10_signs.f = some ([43, 45, 42, 47, 37, 38, 124, 94, 60, 61, 171, 187, 33] : List Int) := rfl
  have hl : (([43, 45, 42, 47, 37, 38, 124, 94, 60, 61, 171, 187, 33] : List Int).length : Int) = 13 := rfl
  rw [hs, Option.bind_some, hl]
  have h1 := Int.tmod_lt_of_pos a0 (b := 13) (by decide)
  have h2 := Int.lt_tmod_of_pos a0 (b := 13) (by decide)
  have hw : wrap64 (Int.tmod a0 13 + 13) = Int.tmod a0 13 + 13 := Plain.wrap64_id (by omega) (by omega)
  rw [hw]
  have h3 : 0 ≤ Int.tmod (Int.tmod a0 13 + 13) 13 := Int.tmod_nonneg _ (by omega)
  have h4 := Int.tmod_lt_of_pos (Int.tmod a0 13 + 13) (b := 13) (by decide)
  rw [if_neg (by decide), if_pos h3, if_pos h4]
  simp only [same_is, known_is, Option.bind_some, if_true]

end Go.Proofs.Ytfigfdggieenbaa.Pure
