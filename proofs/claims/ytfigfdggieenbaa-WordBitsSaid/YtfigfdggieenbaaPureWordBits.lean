/- WordBits: and, or and exclusive or are what they are bit by bit; shifts go by the count's low six bits. No condition. -/
import Derived.Test.YtfigfdggieenbaaPWordBitsx2
import Derived.Test.YtfigfdggieenbaaBits
import Derived.KernelRfl
namespace Go.Proofs.Ytfigfdggieenbaa.Pure
open Go.RowKit Go.Proofs.Ytfigfdggieenbaa.PWordBits Go.Proofs.YtfigfdggieenbaaW.PrintWords Go.Proofs.YtfigfdggieenbaaW.PrintLast Go.Proofs.YtfigfdggieenbaaW.PrintMore
namespace WordBitsL
theorem parted_is (k : Nat) (s a b : Int) : word_parted.f (k + 1) s a b = some (if b = 0 then (0, 3) else if s = 37 then (if b = -1 then (0, 0) else (Int.tmod a b, 0)) else if a = -9223372036854775808 ∧ b = -1 then (0, 4) else (wrap64 (Int.tdiv a b), 0)) := by
  unfold word_parted.f
  by_cases hb : b = 0
  · simp [hb]
  · rw [if_neg hb, if_neg hb]
    by_cases hs : s = 37
    · rw [if_pos hs, if_pos hs]
      simp only [word_parted.j0]
      by_cases h1 : b = -1
      · simp [h1]
      · simp [h1, hb, hs]
    · rw [if_neg hs, if_neg hs]
      simp only [word_parted.j0]
      simp only [if_neg hs, if_neg hb, Bool.false_eq_true, if_false]
      by_cases ha : a = -9223372036854775808
      · by_cases h1 : b = -1
        · simp [ha, h1]
        · simp [ha, h1]
      · simp [ha]

/-- chapter 10's answer, as a plain function -/
def doF (s a b : Int) : Int × Int :=
  if s = 43 then (wrap64 (a + b), 0) else if s = 45 then (wrap64 (a - b), 0) else if s = 42 then (wrap64 (a * b), 0)
  else if s = 47 ∨ s = 37 then (if b = 0 then (0, 3) else if s = 37 then (if b = -1 then (0, 0) else (Int.tmod a b, 0)) else if a = -9223372036854775808 ∧ b = -1 then (0, 4) else (wrap64 (Int.tdiv a b), 0))
  else if s = 38 then (Go.bits .and .i64 a b, 0) else if s = 124 then (Go.bits .or .i64 a b, 0) else if s = 94 then (Go.bits .xor .i64 a b, 0)
  else if s = 60 then (if a < b then 1 else 0, 0) else if s = 61 then (if a = b then 1 else 0, 0) else if s = 33 then (if a = 0 then 1 else 0, 0)
  else if s = 171 then (shl .i64 a (b % 64), 0) else if s = 187 then (shr .i64 a (b % 64), 0) else (0, 2)

theorem bit_is (c : Bool) : word_bit.f c = some (if c = true then 1 else 0) := by unfold word_bit.f; split <;> rfl

theorem do_is (k : Nat) (s a b : Int) : word_Do.f (k + 2) s a b = some (doF s a b) := by
  unfold word_Do.f doF
  by_cases h43 : s = 43
  · rw [if_pos h43, if_pos h43]
  rw [if_neg h43, if_neg h43]
  by_cases h45 : s = 45
  · rw [if_pos h45, if_pos h45]
  rw [if_neg h45, if_neg h45]
  by_cases h42 : s = 42
  · rw [if_pos h42, if_pos h42]
  rw [if_neg h42, if_neg h42]
  have key : ∀ c : Bool, c = decide (s = 47 ∨ s = 37) → word_Do.j0 (k + 2) s a b s c = some (if s = 47 ∨ s = 37 then (if b = 0 then (0, 3) else if s = 37 then (if b = -1 then (0, 0) else (Int.tmod a b, 0)) else if a = -9223372036854775808 ∧ b = -1 then (0, 4) else (wrap64 (Int.tdiv a b), 0))
      else if s = 38 then (Go.bits .and .i64 a b, 0) else if s = 124 then (Go.bits .or .i64 a b, 0) else if s = 94 then (Go.bits .xor .i64 a b, 0)
      else if s = 60 then (if a < b then 1 else 0, 0) else if s = 61 then (if a = b then 1 else 0, 0) else if s = 33 then (if a = 0 then 1 else 0, 0)
      else if s = 171 then (shl .i64 a (b % 64), 0) else if s = 187 then (shr .i64 a (b % 64), 0) else (0, 2)) := by
    intro c hc
    simp only [word_Do.j0, parted_is, bit_is, Option.bind_some, Plain.and63]
    by_cases h47 : s = 47 ∨ s = 37
    · rw [if_pos (by rw [hc]; exact decide_eq_true h47), if_pos h47]
    · rw [if_neg (by rw [hc]; simpa using h47), if_neg h47]
      have h0 : 0 ≤ b % 64 := by omega
      simp only [if_pos h0, decide_eq_true_eq, beq_iff_eq]
      repeat' (first | (split; rfl) | rfl | skip)
      all_goals (split <;> first | rfl | skip)
      all_goals (repeat' (first | rfl | split))
  by_cases h47 : s = 47
  · rw [if_pos h47]
    exact key _ (by simp [h47])
  · rw [if_neg h47]
    exact key _ (by rw [Bool.eq_iff_iff]; simp [h47])

theorem known_is (k : Nat) : engramlaw10_known.f (k + 2) = some true := by
  unfold engramlaw10_known.f
  simp only [do_is, Option.bind_some]
  kernel_rfl

theorem low6 (b : Int) : wrap64 (b + 64) % 64 = b % 64 := by unfold wrap64; omega

theorem loop (k : Nat) (a b : Int) (k0 : 2 < k) : ∀ (d : Nat) (i : Nat), i + d = 64 →
    engramlaw10_WordBits.l0 (k + d) a b (Go.bits .and .i64 a b) (Go.bits .or .i64 a b) (Go.bits .xor .i64 a b) (shl .i64 a (b % 64)) (shl .i64 a (b % 64)) (shr .i64 a (b % 64)) (shr .i64 a (b % 64)) (i : Int) = some true := by
  intro d
  induction d with
  | zero =>
    intro i hi
    obtain ⟨k, rfl⟩ : ∃ m, k = m + 3 := ⟨k - 3, by omega⟩
    obtain rfl : i = 64 := by omega
    simp only [engramlaw10_WordBits.l0]
    rw [if_neg (by decide), if_pos trivial, if_pos trivial, if_pos (Plain.and_or_sum a b)]
    simp only [word_Byte.f, Option.bind_some, if_true, known_is]
  | succ d ih =>
    intro i hi
    rw [← Nat.add_assoc]
    simp only [engramlaw10_WordBits.l0]
    have hi' : (i : Int) < 64 := by omega
    have hstep : IntKind.u64.wrap ((i : Int) + 1) = ((i + 1 : Nat) : Int) := by rw [Plain.wrap_u64]; omega
    rw [if_pos hi', if_pos (by omega), hstep]
    simp only [Plain.u64_ofInt, Plain.and64, Plain.or64, Plain.xor64, BitVec.ofInt_toInt]
    have lt : ∀ v : BitVec 64, v.toNat < 2 ^ 64 := fun v => v.isLt
    rw [Plain.bitOf _ i (lt _) (by omega), Plain.bitOf _ i (lt _) (by omega), Plain.bitOf _ i (lt _) (by omega), Plain.bitOf _ i (lt _) (by omega), Plain.bitOf _ i (lt _) (by omega)]
    rw [BitVec.toNat_and, BitVec.toNat_or, BitVec.toNat_xor, Nat.testBit_and, Nat.testBit_or, Nat.testBit_xor]
    have h := ih (i + 1) (by omega)
    simp only [Plain.and64, Plain.or64, Plain.xor64] at h
    rw [h]
    cases (BitVec.ofInt 64 a).toNat.testBit i <;> cases (BitVec.ofInt 64 b).toNat.testBit i <;> decide +kernel

end WordBitsL
open WordBitsL in
theorem WordBits : engramlaw10_WordBits.Pure := by
  intro a b wa wb
  refine ⟨3 + 64, ?_⟩
  unfold engramlaw10_WordBits.f
  have h := loop 3 a b (by decide) 64 0 rfl
  rw [show (3 + 64) = 65 + 2 from rfl]
  simp only [do_is, Option.bind_some]
  simp only [doF]
  simp [Plain.and63, low6]
  exact h

end Go.Proofs.Ytfigfdggieenbaa.Pure
