/- Plain laws on sums: a byte that is turned turns the sum. -/
import Derived.Test.YtfigfdggieenbaaBytes
namespace Go.Proofs.Ytfigfdggieenbaa.Plain
open Go Go.RowKit Go.Proofs.YtfigfdggieenbaaW.PrintWords Go.Proofs.YtfigfdggieenbaaW.PrintLast Go.Proofs.YtfigfdggieenbaaW.PrintMore

theorem stepF_rng (h b : Int) : 0 ≤ stepF h b ∧ stepF h b < 4294967296 := by unfold stepF; omega
theorem fold_rng (l : List Int) : ∀ h, 0 ≤ h → h < 4294967296 → 0 ≤ l.foldl stepF h ∧ l.foldl stepF h < 4294967296 := by
  induction l with
  | nil => intro h a b; exact ⟨a, b⟩
  | cons x l ih => intro h _ _; exact ih _ (stepF_rng h x).1 (stepF_rng h x).2
theorem sumF_rng (l : List Int) : 0 ≤ sumF l ∧ sumF l < 4294967296 := fold_rng l _ (by decide) (by decide)
theorem xor32_nat (a b : Nat) (ha : a < 4294967296) (hb : b < 4294967296) : Go.bits .xor .u32 a b = ((a ^^^ b : Nat) : Int) := by
  have ha' : a % 2 ^ 32 = a := Nat.mod_eq_of_lt ha
  have hb' : b % 2 ^ 32 = b := Nat.mod_eq_of_lt hb
  have hx : a ^^^ b < 2 ^ 32 := Nat.xor_lt_two_pow ha hb
  show IntKind.u32.wrap ((BitVec.ofInt 32 (a : Int) ^^^ BitVec.ofInt 32 (b : Int)).toNat : Int) = _
  rw [BitVec.toNat_xor, BitVec.ofInt_natCast, BitVec.ofInt_natCast, BitVec.toNat_ofNat, BitVec.toNat_ofNat, ha', hb', IntKind.wrap_u32]
  omega
theorem xor8_nat (a b : Nat) (ha : a < 256) (hb : b < 256) : Go.bits .xor .u8 a b = ((a ^^^ b : Nat) : Int) := by
  have ha' : a % 2 ^ 8 = a := Nat.mod_eq_of_lt ha
  have hb' : b % 2 ^ 8 = b := Nat.mod_eq_of_lt hb
  have hx : a ^^^ b < 2 ^ 8 := Nat.xor_lt_two_pow ha hb
  show IntKind.u8.wrap ((BitVec.ofInt 8 (a : Int) ^^^ BitVec.ofInt 8 (b : Int)).toNat : Int) = _
  rw [BitVec.toNat_xor, BitVec.ofInt_natCast, BitVec.ofInt_natCast, BitVec.toNat_ofNat, BitVec.toNat_ofNat, ha', hb', IntKind.wrap_u8]
  omega
theorem or8_nat (a b : Nat) (ha : a < 256) (hb : b < 256) : Go.bits .or .u8 a b = ((a ||| b : Nat) : Int) :=
  (bits_nat .u8 8 (by decide) wraps_u8 a b ha hb).2
/-- a byte, turned by an odd number, is another byte -/
theorem turned {x t : Int} (x0 : 0 ≤ x) (x1 : x ≤ 255) (t0 : 0 ≤ t) (t1 : t ≤ 255) :
    0 ≤ Go.bits .xor .u8 x (Go.bits .or .u8 t 1) ∧ Go.bits .xor .u8 x (Go.bits .or .u8 t 1) ≤ 255 ∧ Go.bits .xor .u8 x (Go.bits .or .u8 t 1) ≠ x := by
  obtain ⟨a, rfl⟩ := Int.eq_ofNat_of_zero_le x0
  obtain ⟨b, rfl⟩ := Int.eq_ofNat_of_zero_le t0
  have ho := or8_nat b 1 (by omega) (by decide)
  rw [show ((1 : Nat) : Int) = 1 from rfl] at ho
  have hlt : b ||| 1 < 2 ^ 8 := Nat.or_lt_two_pow (by omega) (by decide)
  have hx := xor8_nat a (b ||| 1) (by omega) (by omega)
  rw [ho, hx]
  have hlt2 : a ^^^ (b ||| 1) < 2 ^ 8 := Nat.xor_lt_two_pow (by omega) hlt
  refine ⟨by omega, by omega, fun h => ?_⟩
  have h' : a ^^^ (b ||| 1) = a := by omega
  have := congrArg (fun z => z.testBit 0) h'
  simp at this
  omega

theorem tr4 (X A Y B : Int) (h : X - A = Y - B) : X - Y = A - B := by omega
theorem tr3 (d e M : Int) (h : e + d = M) : d = M - e := by omega
theorem near (d z : Int) (h : d = 4294967296 * z) (h0 : d < 4294967296) (h1 : -4294967296 < d) : d = 0 := by omega
theorem sub_zero_eq (x y : Int) (h : x - y = 0) : x = y := by omega
theorem sub_lo (x y : Int) (x0 : 0 ≤ x) (y1 : y < 4294967296) : -4294967296 < x - y := by omega
theorem sub_hi (x y : Int) (x1 : x < 4294967296) (y0 : 0 ≤ y) : x - y < 4294967296 := by omega
theorem mul_inj {x y : Int} (x0 : 0 ≤ x) (x1 : x < 4294967296) (y0 : 0 ≤ y) (y1 : y < 4294967296) (h : (x * 16777619) % 4294967296 = (y * 16777619) % 4294967296) : x = y := by
  rw [Int.emod_def, Int.emod_def] at h
  have h1 := tr4 _ _ _ _ h
  rw [← Int.sub_mul, ← Int.mul_sub] at h1
  generalize x * 16777619 / 4294967296 - y * 16777619 / 4294967296 = t at h1
  apply sub_zero_eq
  generalize hd : x - y = d at h1
  have h2 : d * 16777619 * 899433627 = 4294967296 * t * 899433627 := by rw [h1]
  rw [Int.mul_assoc, show (16777619 : Int) * 899433627 = 4294967296 * 3513497 + 1 from by decide, Int.mul_add, Int.mul_one] at h2
  have h3 := tr3 _ _ _ h2
  rw [Int.mul_assoc, Int.mul_left_comm d, ← Int.mul_sub] at h3
  exact near d _ h3 (hd ▸ sub_hi x y x1 y0) (hd ▸ sub_lo x y x0 y1)
theorem nat_inj (X Y : Nat) (hX : X < 4294967296) (hY : Y < 4294967296) (e : ((X : Int) * 16777619) % 4294967296 = ((Y : Int) * 16777619) % 4294967296) : X = Y :=
  Int.ofNat.inj (mul_inj (Int.natCast_nonneg _) (Int.ofNat_lt.mpr hX) (Int.natCast_nonneg _) (Int.ofNat_lt.mpr hY) e)
theorem stepF_xor (h b : Nat) (hh : h < 4294967296) (hb : b < 256) : stepF h b = (((h ^^^ b : Nat) : Int) * 16777619) % 4294967296 := by
  unfold stepF
  rw [show ((b : Int) % 4294967296) = (b : Int) from by omega, xor32_nat h b hh (by omega)]
theorem stepF_inj_h {h h' b : Int} (h0 : 0 ≤ h) (h1 : h < 4294967296) (g0 : 0 ≤ h') (g1 : h' < 4294967296) (b0 : 0 ≤ b) (b1 : b ≤ 255) (e : stepF h b = stepF h' b) : h = h' := by
  obtain ⟨h, rfl⟩ := Int.eq_ofNat_of_zero_le h0
  obtain ⟨h', rfl⟩ := Int.eq_ofNat_of_zero_le g0
  obtain ⟨b, rfl⟩ := Int.eq_ofNat_of_zero_le b0
  have l1 : h < 2 ^ 32 := by omega
  have l2 : h' < 2 ^ 32 := by omega
  have l3 : b < 2 ^ 32 := by omega
  have l4 : b < 256 := by omega
  rw [stepF_xor h b l1 l4, stepF_xor h' b l2 l4] at e
  have hx := nat_inj _ _ (Nat.xor_lt_two_pow (n := 32) l1 l3) (Nat.xor_lt_two_pow (n := 32) l2 l3) e
  clear e
  have : h = h' := by
    have := congrArg (· ^^^ b) hx
    simpa [Nat.xor_assoc] using this
  omega
theorem stepF_inj_b {h b b' : Int} (h0 : 0 ≤ h) (h1 : h < 4294967296) (b0 : 0 ≤ b) (b1 : b ≤ 255) (c0 : 0 ≤ b') (c1 : b' ≤ 255) (e : stepF h b = stepF h b') : b = b' := by
  obtain ⟨h, rfl⟩ := Int.eq_ofNat_of_zero_le h0
  obtain ⟨b', rfl⟩ := Int.eq_ofNat_of_zero_le c0
  obtain ⟨b, rfl⟩ := Int.eq_ofNat_of_zero_le b0
  have l1 : h < 2 ^ 32 := by omega
  have l2 : b < 2 ^ 32 := by omega
  have l3 : b' < 2 ^ 32 := by omega
  have l4 : b < 256 := by omega
  have l5 : b' < 256 := by omega
  rw [stepF_xor h b l1 l4, stepF_xor h b' l1 l5] at e
  have hx := nat_inj _ _ (Nat.xor_lt_two_pow (n := 32) l1 l2) (Nat.xor_lt_two_pow (n := 32) l1 l3) e
  clear e
  have : b = b' := by
    have := congrArg (h ^^^ ·) hx
    simpa [← Nat.xor_assoc] using this
  omega
theorem fold_inj (c : List Int) (hc : Bytes c) : ∀ h h' : Int, 0 ≤ h → h < 4294967296 → 0 ≤ h' → h' < 4294967296 → c.foldl stepF h = c.foldl stepF h' → h = h' := by
  induction c with
  | nil => intro h h' _ _ _ _ e; exact e
  | cons x c ih =>
    intro h h' a1 a2 a3 a4 e
    have hx := hc x (List.mem_cons_self ..)
    exact stepF_inj_h a1 a2 a3 a4 hx.1 hx.2 (ih (fun y hy => hc y (List.mem_cons_of_mem _ hy)) _ _ (stepF_rng _ _).1 (stepF_rng _ _).2 (stepF_rng _ _).1 (stepF_rng _ _).2 e)
theorem set_split (l : List Int) (k : Nat) (v : Int) (h : k < l.length) : l.set k v = l.take k ++ v :: l.drop (k + 1) := by
  rw [List.set_eq_take_append_cons_drop, if_pos h]
theorem self_split (l : List Int) (k : Nat) (h : k < l.length) : l = l.take k ++ rd l k :: l.drop (k + 1) := by
  have := List.take_append_drop k l
  rw [List.drop_eq_getElem_cons h] at this
  have e : rd l k = l[k] := by unfold rd; rw [Int.toNat_natCast, List.getD_eq_getElem?_getD, List.getElem?_eq_getElem h]; rfl
  rw [e]; exact this.symm
/-- a byte that is turned turns the sum -/
theorem sumF_turn (l : List Int) (k : Nat) (v : Int) (h : k < l.length) (hb : Bytes l) (v0 : 0 ≤ v) (v1 : v ≤ 255) (hne : v ≠ rd l k) : sumF (l.set k v) ≠ sumF l := by
  intro e
  unfold sumF at e
  rw [set_split l k v h] at e
  have e2 : l.foldl stepF 2166136261 = (l.take k ++ rd l k :: l.drop (k + 1)).foldl stepF 2166136261 := congrArg (fun z => List.foldl stepF 2166136261 z) (self_split l k h)
  rw [e2, List.foldl_append, List.foldl_append, List.foldl_cons, List.foldl_cons] at e
  have hr := fold_rng (l.take k) 2166136261 (by decide) (by decide)
  have e1 := fold_inj _ (hb.drop _) _ _ (stepF_rng _ _).1 (stepF_rng _ _).2 (stepF_rng _ _).1 (stepF_rng _ _).2 e
  have hk := hb.at (k : Int)
  exact hne (stepF_inj_b hr.1 hr.2 v0 v1 hk.1 hk.2 e1)
theorem set_bytes {l : List Int} (k : Nat) {v : Int} (hb : Bytes l) (v0 : 0 ≤ v) (v1 : v ≤ 255) : Bytes (l.set k v) := fun x hx => by
  rcases List.mem_or_eq_of_mem_set hx with h | rfl
  · exact hb x h
  · exact ⟨v0, v1⟩
theorem rd_set_same (l : List Int) (k : Nat) (v : Int) (h : k < l.length) : rd (l.set k v) k = v := by
  unfold rd
  rw [Int.toNat_natCast, List.getD_eq_getElem?_getD, List.getElem?_set_self h]; rfl
theorem rd_set_other (l : List Int) (k : Nat) (v : Int) (i : Int) (hi : i.toNat ≠ k) : rd (l.set k v) i = rd l i := by
  unfold rd
  rw [List.getD_eq_getElem?_getD, List.getD_eq_getElem?_getD, List.getElem?_set_ne (by omega)]
/-- a number that lies elsewhere stays -/
theorem getF_set_other (l : List Int) (k : Nat) (v : Int) (m : Nat) (h : k < m ∨ m + 4 ≤ k) : getF (l.set k v) m = getF l m := by
  unfold getF
  rw [List.length_set, rd_set_other _ _ _ _ (by omega), rd_set_other _ _ _ _ (by omega), rd_set_other _ _ _ _ (by omega), rd_set_other _ _ _ _ (by omega)]
/-- a number of which a byte is turned is another -/
theorem getF_set_in {l : List Int} (k : Nat) {v : Int} (m : Nat) (hb : Bytes l) (_v0 : 0 ≤ v) (_v1 : v ≤ 255) (hm : m ≤ k) (hk : k < m + 4) (hl : m + 4 ≤ l.length) (hne : v ≠ rd l k) : getF (l.set k v) m ≠ getF l m := by
  unfold getF
  rw [List.length_set, if_neg (by omega), if_neg (by omega)]
  have r0 := hb.at (m : Int); have r1 := hb.at ((m : Int) + 1); have r2 := hb.at ((m : Int) + 2); have r3 := hb.at ((m : Int) + 3)
  rcases (show k = m ∨ k = m + 1 ∨ k = m + 2 ∨ k = m + 3 by omega) with rfl | rfl | rfl | rfl
  · rw [rd_set_same _ _ _ (by omega), rd_set_other _ _ _ _ (by omega), rd_set_other _ _ _ _ (by omega), rd_set_other _ _ _ _ (by omega)]; omega
  · rw [show ((m : Int) + 1) = ((m + 1 : Nat) : Int) from by omega] at *
    rw [rd_set_same _ _ _ (by omega), rd_set_other _ _ _ _ (by omega), rd_set_other _ _ _ _ (by omega), rd_set_other _ _ _ _ (by omega)]; omega
  · rw [show ((m : Int) + 2) = ((m + 2 : Nat) : Int) from by omega] at *
    rw [rd_set_same _ _ _ (by omega), rd_set_other _ _ _ _ (by omega), rd_set_other _ _ _ _ (by omega), rd_set_other _ _ _ _ (by omega)]; omega
  · rw [show ((m : Int) + 3) = ((m + 3 : Nat) : Int) from by omega] at *
    rw [rd_set_same _ _ _ (by omega), rd_set_other _ _ _ _ (by omega), rd_set_other _ _ _ _ (by omega), rd_set_other _ _ _ _ (by omega)]; omega

end Go.Proofs.Ytfigfdggieenbaa.Plain
