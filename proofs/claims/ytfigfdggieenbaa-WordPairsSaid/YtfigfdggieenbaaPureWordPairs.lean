/- WordPairs: of chapter 10's signs: a sum less one number is the other, quotient and rest give the number back, small numbers shifted up and down stay: true for every two numbers. No condition. -/
import Derived.Test.YtfigfdggieenbaaPWordPairsx2
import Derived.Test.YtfigfdggieenbaaBits
import Derived.KernelRfl
namespace Go.Proofs.Ytfigfdggieenbaa.Pure
open Go.RowKit Go.Proofs.Ytfigfdggieenbaa.PWordPairs Go.Proofs.YtfigfdggieenbaaW.PrintWords Go.Proofs.YtfigfdggieenbaaW.PrintLast Go.Proofs.YtfigfdggieenbaaW.PrintMore
namespace WordPairsL
theorem parted_is (k : Nat) (s a b : Int) : word_parted.f (k + 1) s a b = some (if b = 0 then (0, 3) else if s = 37 then (if b = -1 then (0, 0) else (Int.tmod a b, 0)) else if a = -9223372036854775808 ∧ b = -1 then (0, 4) else (wrap64 (Int.tdiv a b), 0)) := by
  unfold word_parted.f
  by_cases hb : b = 0
  · simp [hb]
  · rw [if_neg hb, if_neg hb]
    by_cases hs : s = 37
    · rw [if_pos hs, if_pos hs]
      simp only [word_parted.j0]
      by_cases h1 : b = -1
      · simp [h1]
      · simp [h1, hb, hs]
    · rw [if_neg hs, if_neg hs]
      simp only [word_parted.j0]
      simp only [if_neg hs, if_neg hb, Bool.false_eq_true, if_false]
      by_cases ha : a = -9223372036854775808
      · by_cases h1 : b = -1
        · simp [ha, h1]
        · simp [ha, h1]
      · simp [ha]

/-- chapter 10's answer, as a plain function -/
def doF (s a b : Int) : Int × Int :=
  if s = 43 then (wrap64 (a + b), 0) else if s = 45 then (wrap64 (a - b), 0) else if s = 42 then (wrap64 (a * b), 0)
  else if s = 47 ∨ s = 37 then (if b = 0 then (0, 3) else if s = 37 then (if b = -1 then (0, 0) else (Int.tmod a b, 0)) else if a = -9223372036854775808 ∧ b = -1 then (0, 4) else (wrap64 (Int.tdiv a b), 0))
  else if s = 38 then (Go.bits .and .i64 a b, 0) else if s = 124 then (Go.bits .or .i64 a b, 0) else if s = 94 then (Go.bits .xor .i64 a b, 0)
  else if s = 60 then (if a < b then 1 else 0, 0) else if s = 61 then (if a = b then 1 else 0, 0) else if s = 33 then (if a = 0 then 1 else 0, 0)
  else if s = 171 then (shl .i64 a (b % 64), 0) else if s = 187 then (shr .i64 a (b % 64), 0) else (0, 2)

theorem bit_is (c : Bool) : word_bit.f c = some (if c = true then 1 else 0) := by unfold word_bit.f; split <;> rfl

theorem do_is (k : Nat) (s a b : Int) : word_Do.f (k + 2) s a b = some (doF s a b) := by
  unfold word_Do.f doF
  by_cases h43 : s = 43
  · rw [if_pos h43, if_pos h43]
  rw [if_neg h43, if_neg h43]
  by_cases h45 : s = 45
  · rw [if_pos h45, if_pos h45]
  rw [if_neg h45, if_neg h45]
  by_cases h42 : s = 42
  · rw [if_pos h42, if_pos h42]
  rw [if_neg h42, if_neg h42]
  have key : ∀ c : Bool, c = decide (s = 47 ∨ s = 37) → word_Do.j0 (k + 2) s a b s c = some (if s = 47 ∨ s = 37 then (if b = 0 then (0, 3) else if s = 37 then (if b = -1 then (0, 0) else (Int.tmod a b, 0)) else if a = -9223372036854775808 ∧ b = -1 then (0, 4) else (wrap64 (Int.tdiv a b), 0))
      else if s = 38 then (Go.bits .and .i64 a b, 0) else if s = 124 then (Go.bits .or .i64 a b, 0) else if s = 94 then (Go.bits .xor .i64 a b, 0)
      else if s = 60 then (if a < b then 1 else 0, 0) else if s = 61 then (if a = b then 1 else 0, 0) else if s = 33 then (if a = 0 then 1 else 0, 0)
      else if s = 171 then (shl .i64 a (b % 64), 0) else if s = 187 then (shr .i64 a (b % 64), 0) else (0, 2)) := by
    intro c hc
    simp only [word_Do.j0, parted_is, bit_is, Option.bind_some, Plain.and63]
    by_cases h47 : s = 47 ∨ s = 37
    · rw [if_pos (by rw [hc]; exact decide_eq_true h47), if_pos h47]
    · rw [if_neg (by rw [hc]; simpa using h47), if_neg h47]
      have h0 : 0 ≤ b % 64 := by omega
      simp only [if_pos h0, decide_eq_true_eq, beq_iff_eq]
      repeat' (first | (split; rfl) | rfl | skip)
      all_goals (split <;> first | rfl | skip)
      all_goals (repeat' (first | rfl | split))
  by_cases h47 : s = 47
  · rw [if_pos h47]
    exact key _ (by simp [h47])
  · rw [if_neg h47]
    exact key _ (by rw [Bool.eq_iff_iff]; simp [h47])

theorem known_is (k : Nat) : engramlaw10_known.f (k + 2) = some true := by
  unfold engramlaw10_known.f
  simp only [do_is, Option.bind_some]
  kernel_rfl

theorem p40 (a : Int) : (shr .i64 (shl .i64 (Int.tmod a 1000) 40) 40) = Int.tmod a 1000 := by
  have h1 := Int.tmod_lt_of_pos a (b := 1000) (by decide)
  have h2 := Int.lt_tmod_of_pos a (b := 1000) (by decide)
  generalize Int.tmod a 1000 = x at *
  unfold shl shr
  rw [show min (40 : Int).toNat IntKind.i64.bits = 40 from rfl, show (2 : Int) ^ 40 = 1099511627776 from by decide, IntKind.wrap_i64]
  omega
theorem div_sum (a b : Int) (h0 : -9223372036854775808 ≤ a) (h1 : a ≤ 9223372036854775807) (hne : ¬ (a = -9223372036854775808 ∧ b = -1)) :
    wrap64 (wrap64 (wrap64 (Int.tdiv a b) * b) + Int.tmod a b) = a := by
  have e := Int.tdiv_mul_add_tmod a b
  have hq := Int.natAbs_tdiv_le_natAbs a b
  have hq1 : wrap64 (Int.tdiv a b) = Int.tdiv a b := by
    by_cases hm : a = -9223372036854775808
    · by_cases hb : b = 0
      · subst hb; simp [wrap64]
      by_cases hb1 : b = 1
      · subst hb1; rw [Int.tdiv_one]; exact Plain.wrap64_id h0 h1
      · have hb2 : 2 ≤ b.natAbs := by omega
        have : (Int.tdiv a b).natAbs = a.natAbs / b.natAbs := Int.natAbs_tdiv ..
        have h3 : a.natAbs / b.natAbs ≤ a.natAbs / 2 := Nat.div_le_div_left hb2 (by decide)
        unfold wrap64; omega
    · unfold wrap64; omega
  rw [hq1]
  have hm : (Int.tdiv a b * b).natAbs ≤ a.natAbs := by
    rw [Int.natAbs_mul, Int.natAbs_tdiv]; exact Nat.div_mul_le_self _ _
  have ht : wrap64 (Int.tdiv a b * b) = Int.tdiv a b * b ∨ (Int.tdiv a b * b = 9223372036854775808) := by
    generalize Int.tdiv a b * b = y at *
    unfold wrap64; omega
  generalize Int.tdiv a b * b = y at *
  rcases ht with ht | ht
  · rw [ht, e]; exact Plain.wrap64_id h0 h1
  · subst ht
    unfold wrap64; omega

end WordPairsL
open WordPairsL in
theorem WordPairs : engramlaw10_WordPairs.Pure := by
  intro a b wa wb
  obtain ⟨a0, a1⟩ := Plain.i64_wf wa
  obtain ⟨b0, b1⟩ := Plain.i64_wf wb
  refine ⟨4 + 2, ?_⟩
  unfold engramlaw10_WordPairs.f
  simp only [do_is, Option.bind_some]
  have e1 : (doF 45 (doF 43 a b).1 b).1 = a := by
    simp only [doF]; simp; unfold wrap64; omega
  have e2 : wrap64 (wrap64 ((doF 60 a b).1 + (doF 60 b a).1) + (doF 61 a b).1) = 1 := by
    simp only [doF]; simp
    rcases Int.lt_trichotomy a b with h | h | h
    · rw [if_pos h, if_neg (by omega), if_neg (by omega)]; unfold wrap64; omega
    · rw [if_neg (by omega), if_neg (by omega), if_pos h]; unfold wrap64; omega
    · rw [if_neg (by omega), if_pos h, if_neg (by omega)]; unfold wrap64; omega
  have e3 : (doF 94 (doF 94 a b).1 b).1 = a := by
    simp only [doF]; simp; exact Plain.xor_back a0 a1
  have e4 : (doF 187 (doF 171 (Int.tmod a 1000) 40).1 40).1 = Int.tmod a 1000 := by
    simp only [doF]; simp; exact p40 a
  have e5 : (((doF 33 a b).1 == 1) != (a == 0)) = false := by
    simp only [doF]; simp
    by_cases h : a = 0
    · simp [h]
    · simp [h]
  rw [if_pos e1, if_pos e2, if_pos e3, if_pos e4, e5]
  have eq : doF 47 a b = (if b = 0 then (0, 3) else if a = -9223372036854775808 ∧ b = -1 then (0, 4) else (wrap64 (Int.tdiv a b), 0)) := by simp [doF]
  have er : doF 37 a b = (if b = 0 then (0, 3) else if b = -1 then (0, 0) else (Int.tmod a b, 0)) := by simp [doF]
  have j0 : engramlaw10_WordPairs.j0 6 a b false = (if (doF 47 a b).2 = 0 then engramlaw10_WordPairs.j1 5 a b (doF 47 a b).1 (doF 47 a b).2 (doF 37 a b).1 (doF 37 a b).2 ((doF 37 a b).2 != 0) else engramlaw10_WordPairs.j1 5 a b (doF 47 a b).1 (doF 47 a b).2 (doF 37 a b).1 (doF 37 a b).2 true) := by
    simp only [engramlaw10_WordPairs.j0, Bool.false_eq_true, if_false, do_is 3, Option.bind_some]
  rw [j0, eq, er]
  by_cases hb : b = 0
  · simp only [if_pos hb]
    simp only [engramlaw10_WordPairs.j1, known_is 2, Option.bind_some]
    simp [hb]
  · simp only [if_neg hb]
    by_cases hm : a = -9223372036854775808 ∧ b = -1
    · rw [if_pos hm]
      obtain ⟨rfl, rfl⟩ := hm
      simp only [engramlaw10_WordPairs.j1, known_is 2, Option.bind_some]
      simp
    · rw [if_neg hm]
      have h := div_sum a b a0 a1 hm
      have hr : (if b = -1 then ((0 : Int), (0 : Int)) else (Int.tmod a b, 0)) = (Int.tmod a b, 0) := by
        split
        · rename_i h1; subst h1; simp
        · rfl
      rw [hr]
      simp only [if_true]
      simp only [engramlaw10_WordPairs.j1, known_is 2, Option.bind_some]
      simp [h]

end Go.Proofs.Ytfigfdggieenbaa.Pure
