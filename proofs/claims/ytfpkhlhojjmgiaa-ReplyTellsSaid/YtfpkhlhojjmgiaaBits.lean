/- Plain laws on whole numbers of Go's kinds: wrapping, and, or, exclusive or, shifts. No condition. -/
import Derived.Test.YtfpkhlhojjmgiaaWMore
namespace Go.Proofs.Ytfpkhlhojjmgiaa.Plain
open Go Go.RowKit Go.Proofs.YtfpkhlhojjmgiaaW.PrintWords Go.Proofs.YtfpkhlhojjmgiaaW.PrintLast Go.Proofs.YtfpkhlhojjmgiaaW.PrintMore

theorem wrap64_id {x : Int} (h0 : -9223372036854775808 ≤ x) (h1 : x ≤ 9223372036854775807) : wrap64 x = x := by
  unfold wrap64; omega
theorem wrap32_id {x : Int} (h0 : -2147483648 ≤ x) (h1 : x ≤ 2147483647) : wrap32 x = x := by
  unfold wrap32; omega
theorem i64_wf {x : Int} (h : (Lit.int .i64 x).wf = true) : -9223372036854775808 ≤ x ∧ x ≤ 9223372036854775807 := by
  simp only [Lit.wf, IntKind.min, IntKind.max, IntKind.signed, IntKind.bits, Bool.and_eq_true, decide_eq_true_eq, if_true] at h
  omega
theorem i32_wf {x : Int} (h : (Lit.int .i32 x).wf = true) : -2147483648 ≤ x ∧ x ≤ 2147483647 := by
  simp only [Lit.wf, IntKind.min, IntKind.max, IntKind.signed, IntKind.bits, Bool.and_eq_true, decide_eq_true_eq, if_true] at h
  omega
theorem u32_wf {x : Int} (h : (Lit.int .u32 x).wf = true) : 0 ≤ x ∧ x ≤ 4294967295 := by
  simp only [Lit.wf, IntKind.min, IntKind.max, IntKind.signed, IntKind.bits, Bool.and_eq_true] at h
  simp at h; omega
theorem u8_wf {x : Int} (h : (Lit.int .u8 x).wf = true) : 0 ≤ x ∧ x ≤ 255 := by
  simp only [Lit.wf, IntKind.min, IntKind.max, IntKind.signed, IntKind.bits, Bool.and_eq_true] at h
  simp at h; omega
theorem wrap_u64 (n : Int) : IntKind.u64.wrap n = n % 18446744073709551616 := by
  simp [IntKind.wrap, IntKind.bits, IntKind.signed]

theorem wrapNat (v : BitVec 64) : IntKind.i64.wrap (v.toNat : Int) = v.toInt := by
  rw [IntKind.wrap_i64, BitVec.toInt_eq_toNat_cond]
  have := v.isLt
  split <;> omega
theorem and64 (a b : Int) : bits .and .i64 a b = (BitVec.ofInt 64 a &&& BitVec.ofInt 64 b).toInt := wrapNat _
theorem or64 (a b : Int) : bits .or .i64 a b = (BitVec.ofInt 64 a ||| BitVec.ofInt 64 b).toInt := wrapNat _
theorem xor64 (a b : Int) : bits .xor .i64 a b = (BitVec.ofInt 64 a ^^^ BitVec.ofInt 64 b).toInt := wrapNat _
theorem ofInt_back {a : Int} (h0 : -9223372036854775808 ≤ a) (h1 : a ≤ 9223372036854775807) : (BitVec.ofInt 64 a).toInt = a := by
  rw [BitVec.toInt_ofInt, Int.bmod_def]
  split <;> omega
theorem xor_back {a b : Int} (h0 : -9223372036854775808 ≤ a) (h1 : a ≤ 9223372036854775807) : bits .xor .i64 (bits .xor .i64 a b) b = a := by
  rw [xor64, xor64, BitVec.ofInt_toInt, BitVec.xor_assoc, BitVec.xor_self, BitVec.xor_zero, ofInt_back h0 h1]

theorem natAnd (n a b : Nat) : (a &&& b) + (a ||| b) = a + b := by
  have : ∀ n a b : Nat, a < 2 ^ n → b < 2 ^ n → (a &&& b) + (a ||| b) = a + b := by
    intro n
    induction n with
    | zero => intro a b ha hb; have : a = 0 := by omega
              have : b = 0 := by omega
              subst_vars; rfl
    | succ n ih =>
      intro a b ha hb
      have h := ih (a / 2) (b / 2) (by omega) (by omega)
      have e1 : (a &&& b) / 2 = a / 2 &&& b / 2 := Nat.and_div_two ..
      have e2 : (a ||| b) / 2 = a / 2 ||| b / 2 := Nat.or_div_two ..
      have m1 : (a &&& b) % 2 = (a % 2) &&& (b % 2) := by
        have := Nat.and_mod_two_pow (a := a) (b := b) (n := 1); simpa using this
      have m2 : (a ||| b) % 2 = (a % 2) ||| (b % 2) := by
        have := Nat.or_mod_two_pow (a := a) (b := b) (n := 1); simpa using this
      have c : ((a % 2) &&& (b % 2)) + ((a % 2) ||| (b % 2)) = a % 2 + b % 2 := by
        rcases Nat.mod_two_eq_zero_or_one a with h1 | h1 <;> rcases Nat.mod_two_eq_zero_or_one b with h2 | h2 <;> rw [h1, h2] <;> rfl
      omega
  exact this (a + b + n) a b (Nat.lt_of_le_of_lt (by omega) Nat.lt_two_pow_self) (Nat.lt_of_le_of_lt (by omega) Nat.lt_two_pow_self)

theorem pow64 : ((2 ^ 64 : Nat) : Int) = 18446744073709551616 := by
  rw [show (2 : Nat) ^ 64 = 18446744073709551616 from by decide]
  rfl
theorem ofInt_toNat (a : Int) : ((BitVec.ofInt 64 a).toNat : Int) = a % 18446744073709551616 := by
  have h1 := BitVec.toNat_ofInt (n := 64) a
  rw [h1, pow64]
  exact Int.toNat_of_nonneg (Int.emod_nonneg _ (by decide))

theorem wrap64_shift (u K : Int) : wrap64 (u - 18446744073709551616 * K) = wrap64 u := by
  unfold wrap64; omega
theorem sum_wraps (a b : Int) (p q x y : Nat) (h : x + y = p + q) (ha : (p : Int) = a % 18446744073709551616) (hb : (q : Int) = b % 18446744073709551616) :
    wrap64 (((x : Int) + 9223372036854775808) % 18446744073709551616 - 9223372036854775808 + (((y : Int) + 9223372036854775808) % 18446744073709551616 - 9223372036854775808)) = wrap64 (a + b) := by
  obtain ⟨k1, h1⟩ : ∃ k1, ((x : Int) + 9223372036854775808) % 18446744073709551616 = (x : Int) + 9223372036854775808 - 18446744073709551616 * k1 := ⟨_, Int.emod_def ..⟩
  obtain ⟨k2, h2⟩ : ∃ k2, ((y : Int) + 9223372036854775808) % 18446744073709551616 = (y : Int) + 9223372036854775808 - 18446744073709551616 * k2 := ⟨_, Int.emod_def ..⟩
  obtain ⟨k3, h3⟩ : ∃ k3, (p : Int) = a - 18446744073709551616 * k3 := ⟨_, ha.trans (Int.emod_def ..)⟩
  obtain ⟨k4, h4⟩ : ∃ k4, (q : Int) = b - 18446744073709551616 * k4 := ⟨_, hb.trans (Int.emod_def ..)⟩
  rw [h1, h2]
  rw [← wrap64_shift (a + b) (k1 + k2 + k3 + k4)]
  clear h1 h2 ha hb
  congr 1
  omega
theorem and_or_sum (a b : Int) : wrap64 (bits .and .i64 a b + bits .or .i64 a b) = wrap64 (a + b) := by
  have h1 : bits .and .i64 a b = IntKind.i64.wrap ((BitVec.ofInt 64 a &&& BitVec.ofInt 64 b).toNat : Int) := rfl
  have h2 : bits .or .i64 a b = IntKind.i64.wrap ((BitVec.ofInt 64 a ||| BitVec.ofInt 64 b).toNat : Int) := rfl
  rw [h1, h2, IntKind.wrap_i64, IntKind.wrap_i64, BitVec.toNat_and, BitVec.toNat_or]
  exact sum_wraps a b _ _ _ _ (natAnd 0 _ _) (ofInt_toNat a) (ofInt_toNat b)

/-- the low six bits -/
theorem and63 (b : Int) : bits .and .i64 b 63 = b % 64 := by
  rw [and64]
  have e : (BitVec.ofInt 64 b &&& BitVec.ofInt 64 63).toNat = (BitVec.ofInt 64 b).toNat % 64 := by
    rw [BitVec.toNat_and]
    exact Nat.and_two_pow_sub_one_eq_mod _ 6
  have h := ofInt_toNat b
  rw [BitVec.toInt_eq_toNat_cond, e]
  split <;> omega
theorem and255 (b : Int) : bits .and .i64 b 255 = b % 256 := by
  rw [and64]
  have e : (BitVec.ofInt 64 b &&& BitVec.ofInt 64 255).toNat = (BitVec.ofInt 64 b).toNat % 256 := by
    rw [BitVec.toNat_and]
    exact Nat.and_two_pow_sub_one_eq_mod _ 8
  have h := ofInt_toNat b
  rw [BitVec.toInt_eq_toNat_cond, e]
  split <;> omega
theorem and7 (b : Int) : bits .and .i64 b 7 = b % 8 := by
  rw [and64]
  have e : (BitVec.ofInt 64 b &&& BitVec.ofInt 64 7).toNat = (BitVec.ofInt 64 b).toNat % 8 := by
    rw [BitVec.toNat_and]
    exact Nat.and_two_pow_sub_one_eq_mod _ 3
  have h := ofInt_toNat b
  rw [BitVec.toInt_eq_toNat_cond, e]
  split <;> omega

/-- one bit of a number, as the program asks it -/
theorem bitOf (n i : Nat) (hn : n < 2 ^ 64) (hi : i < 64) : bits .and .u64 (shr .u64 (n : Int) (i : Int)) 1 = ((n.testBit i).toNat : Int) := by
  have h : shr .u64 (n : Int) (i : Int) = ((n / 2 ^ i : Nat) : Int) := by
    unfold shr
    rw [show min ((i : Int).toNat) IntKind.u64.bits = i from by simp [IntKind.bits]; omega]
    simp
  rw [h]
  have hlt : n / 2 ^ i < 2 ^ 64 := Nat.lt_of_le_of_lt (Nat.div_le_self _ _) hn
  have hw : ∀ m : Int, 0 ≤ m → m < 2 ^ 64 → IntKind.u64.wrap m = m := fun m a b => by rw [wrap_u64]; omega
  have := (bits_nat .u64 64 (by decide) hw (n / 2 ^ i) 1 hlt (by decide)).1
  rw [show ((1 : Nat) : Int) = 1 from rfl] at this
  rw [this, Nat.and_one_is_mod, Nat.testBit_eq_decide_div_mod_eq]
  rcases Nat.mod_two_eq_zero_or_one (n / 2 ^ i) with h | h <;> rw [h] <;> rfl

theorem u64_ofInt (a : Int) : IntKind.u64.wrap a = ((BitVec.ofInt 64 a).toNat : Int) := by rw [wrap_u64, ofInt_toNat]
end Go.Proofs.Ytfpkhlhojjmgiaa.Plain
