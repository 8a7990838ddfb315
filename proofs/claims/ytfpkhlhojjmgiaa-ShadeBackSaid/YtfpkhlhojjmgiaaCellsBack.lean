/- CellsBack: the law's walk. -/
import Derived.Test.YtfpkhlhojjmgiaaCellsKnown
import Derived.Test.YtfpkhlhojjmgiaaCopy
import Derived.Deep.Cut
import Derived.Deep.CutRange
namespace Go.Proofs.Ytfpkhlhojjmgiaa.Cells
set_option linter.unusedVariables false
set_option linter.unusedSimpArgs false
open Go.RowKit Go.Proofs.YtfpkhlhojjmgiaaW.PrintWords Go.Proofs.YtfpkhlhojjmgiaaW.PrintLast Go.Proofs.YtfpkhlhojjmgiaaW.PrintMore Go.Proofs.Ytfpkhlhojjmgiaa.Kit Go.Proofs.Ytfpkhlhojjmgiaa.Base Go.Proofs.Ytfpkhlhojjmgiaa.Plain
theorem str_ {w0 W : World} {F : List HP} {A : Option Addr} {n c : Nat} {xs : List Int} (h : Sep w0 W (Row U8 5 (.slice A n c) xs :: F)) : (convert 22 9 (.slice A n c)).run Try.prog W = .ok (.string (strOfNums xs)) W := by
  obtain rfl : n = xs.length := h.rowC.1
  exact Kd.C_string (P := Try.prog) (c := c) Try.underlying22 Try.underlying5 Try.underlying9 h.rowC.2.2
def padTo (n : Nat) (b : List Int) : List Int := over (List.replicate n 0) 0 (b.take n)
theorem padTo_len (n : Nat) (b : List Int) : (padTo n b).length = n := by
  unfold padTo; rw [over_len (by simp; omega), List.length_replicate]
theorem over_bytes {xs ys : List Int} {o : Nat} (h : Bytes xs) (k : Bytes ys) : Bytes (over xs o ys) := fun x hx => by
  unfold over at hx
  simp only [List.mem_append] at hx
  rcases hx with (h1 | h1) | h1
  · exact h x (List.mem_of_mem_take h1)
  · exact k x h1
  · exact h x (List.mem_of_mem_drop h1)
theorem padTo_bytes {n : Nat} {b : List Int} (h : Bytes b) : Bytes (padTo n b) := over_bytes (zeros_bytes n) (h.take n)
theorem storeB_get (q : List Int) (K : Nat) (x : Int) : ∀ (m i : Nat), i < m → K + m ≤ q.length → (storeB q K x m)[K + i]? = some (byt x i)
  | m + 1, i, hi, hl => by
    rw [storeB]
    by_cases h : i = m
    · subst h
      rw [List.getElem?_set_self (by rw [storeB_len]; omega)]
    · rw [List.getElem?_set_ne (by omega)]
      exact storeB_get q K x m i (by omega) (by omega)
theorem storeB_one (q : List Int) (K : Nat) (x : Int) {m i : Nat} (hi : i < m) (hl : K + m ≤ q.length) : loadF (storeB q K x m) (K + i) 1 = byt x i := by
  have h := storeB_get q K x m i hi hl
  have hb := byt_in x i
  unfold loadF
  rw [List.take_one, List.head?_drop, h]
  show wrap64 (leF [byt x i]) = _
  unfold leF leF wrap64
  omega
theorem storeB_all (q : List Int) (K : Nat) (x : Int) (hl : K + 8 ≤ q.length) : ((storeB q K x 8).drop K).take 8 = [byt x 0, byt x 1, byt x 2, byt x 3, byt x 4, byt x 5, byt x 6, byt x 7] := by
  have hlen := storeB_len q K x 8
  apply List.ext_getElem?
  intro j
  rw [List.getElem?_take, List.getElem?_drop]
  match j with
  | 0 => exact storeB_get q K x 8 0 (by decide) hl
  | 1 => exact storeB_get q K x 8 1 (by decide) hl
  | 2 => exact storeB_get q K x 8 2 (by decide) hl
  | 3 => exact storeB_get q K x 8 3 (by decide) hl
  | 4 => exact storeB_get q K x 8 4 (by decide) hl
  | 5 => exact storeB_get q K x 8 5 (by decide) hl
  | 6 => exact storeB_get q K x 8 6 (by decide) hl
  | 7 => exact storeB_get q K x 8 7 (by decide) hl
  | j + 8 => rw [if_neg (by omega)]; simp
theorem byt_sum (x : Int) : leF [byt x 0, byt x 1, byt x 2, byt x 3, byt x 4, byt x 5, byt x 6, byt x 7] = x % 18446744073709551616 := by
  have e : ∀ i : Nat, x / 2 ^ (8 * (i + 1)) = x / 2 ^ (8 * i) / 256 := fun i => by
    rw [Int.ediv_ediv_of_nonneg (Int.le_of_lt (Int.pow_pos (by decide))), Nat.mul_add, Int.pow_add]
    rfl
  have e0 : x / 2 ^ (8 * 0) = x := by simp
  have e1 : x / 2 ^ (8 * 1) = x / 2 ^ (8 * 0) / 256 := e 0
  have e2 : x / 2 ^ (8 * 2) = x / 2 ^ (8 * 1) / 256 := e 1
  have e3 : x / 2 ^ (8 * 3) = x / 2 ^ (8 * 2) / 256 := e 2
  have e4 : x / 2 ^ (8 * 4) = x / 2 ^ (8 * 3) / 256 := e 3
  have e5 : x / 2 ^ (8 * 5) = x / 2 ^ (8 * 4) / 256 := e 4
  have e6 : x / 2 ^ (8 * 6) = x / 2 ^ (8 * 5) / 256 := e 5
  have e7 : x / 2 ^ (8 * 7) = x / 2 ^ (8 * 6) / 256 := e 6
  simp only [leF, byt]
  generalize x / 2 ^ (8 * 7) = m7 at *
  generalize x / 2 ^ (8 * 6) = m6 at *
  generalize x / 2 ^ (8 * 5) = m5 at *
  generalize x / 2 ^ (8 * 4) = m4 at *
  generalize x / 2 ^ (8 * 3) = m3 at *
  generalize x / 2 ^ (8 * 2) = m2 at *
  generalize x / 2 ^ (8 * 1) = m1 at *
  generalize x / 2 ^ (8 * 0) = m0 at *
  clear e
  omega
theorem storeB_wide (q : List Int) (K : Nat) (x : Int) (hl : K + 8 ≤ q.length) (hx : -9223372036854775808 ≤ x ∧ x ≤ 9223372036854775807) : loadF (storeB q K x 8) K 8 = x := by
  unfold loadF
  rw [storeB_all q K x hl, byt_sum]
  unfold wrap64
  omega
theorem and255_u64 {n : Int} (h0 : 0 ≤ n) (h1 : n < 18446744073709551616) : Go.bits .and .u64 n 255 = n % 256 := by
  obtain ⟨m, rfl⟩ := Int.eq_ofNat_of_zero_le h0
  have := (bits_nat .u64 64 (by decide) wraps_u64 m 255 (by omega) (by decide)).1
  rw [show ((255 : Nat) : Int) = 255 from rfl] at this
  rw [this, Nat.and_two_pow_sub_one_eq_mod m 8]
  omega
theorem and_byt (x : Int) (i : Nat) (hi : i < 8) : IntKind.i64.wrap (Go.bits .and .u64 (IntKind.u64.wrap x / 2 ^ (8 * (i : Int)).toNat) 255) = byt x i := by
  rw [show (8 * (i : Int)).toNat = 8 * i by omega, wrap_u64]
  have hp : (0 : Int) < 2 ^ (8 * i) := Int.pow_pos (by decide)
  have h1 : x % 18446744073709551616 / 2 ^ (8 * i) ≤ x % 18446744073709551616 := Int.ediv_le_self _ (by omega)
  have h0 : 0 ≤ x % 18446744073709551616 / 2 ^ (8 * i) := Int.ediv_nonneg (by omega) (by omega)
  rw [and255_u64 h0 (by omega)]
  have h2 : x % 18446744073709551616 / 2 ^ (8 * i) % 256 = byt x i := by
    clear h0 h1 hp
    unfold byt
    rcases (by omega : i = 0 ∨ i = 1 ∨ i = 2 ∨ i = 3 ∨ i = 4 ∨ i = 5 ∨ i = 6 ∨ i = 7) with rfl | rfl | rfl | rfl | rfl | rfl | rfl | rfl
    · rw [show (2 : Int) ^ (8 * 0) = 1 by decide]; omega
    · rw [show (2 : Int) ^ (8 * 1) = 256 by decide]; omega
    · rw [show (2 : Int) ^ (8 * 2) = 65536 by decide]; omega
    · rw [show (2 : Int) ^ (8 * 3) = 16777216 by decide]; omega
    · rw [show (2 : Int) ^ (8 * 4) = 4294967296 by decide]; omega
    · rw [show (2 : Int) ^ (8 * 5) = 1099511627776 by decide]; omega
    · rw [show (2 : Int) ^ (8 * 6) = 281474976710656 by decide]; omega
    · rw [show (2 : Int) ^ (8 * 7) = 72057594037927936 by decide]; omega
  rw [h2]
  have := byt_in x i
  rw [IntKind.wrap_i64]
  omega
set_option maxHeartbeats 3200000 in
set_option maxRecDepth 100000 in
theorem cellsBack_ {A2 : Option Addr} {n2 c2 : Nat} {b : List Int} {at_ n : Int} {w : World} (h2 : U8.C w A2 n2 b) (hb : Bytes b) (hn : -9223372036854775808 ≤ n ∧ n ≤ 9223372036854775807) :
    Calls Try.prog 3 #[.int .i64 at_, .int .i64 n, .slice A2 n2 c2] w fun e w' => e = .returned (.bool true) ∧ Below w.heap.size w w' := by
  have hmk := make_ (m := 128) (by omega)
  rw [show ((128 : Nat) : Int) = 128 from rfl] at hmk
  have H2 := Aside0.mk h2
  have HB := Aside0.mk hb
  have HN := Aside0.mk hn
  have M1 := Aside0.mk (madeB 128 (Sep.start w) (by omega))
  obtain ⟨K, hK⟩ : ∃ K, at_.tmod 130 = K := ⟨_, rfl⟩
  have hK1 : K < 130 := by rw [← hK]; exact Int.tmod_lt_of_pos _ (by decide)
  have hK2 : -130 < K := by rw [← hK]; exact Int.lt_tmod_of_pos _ (by decide)
  clear h2 hb hn
  go_enter Try.func3, Try.ntmps3
  go_wp2_with (first | (refine gate_builtin (b := .copy) (xs := #[.tmp 18, .tmp 19]) rfl ?_; go_loud (refine M1.out.copyRow rfl (.tmp 18) (.tmp 19) rfl Try.underlying22 (by kernel_rfl) (o := 0) (n' := 128) (c' := 128) (m := n2) (c := c2) rfl rfl (Kd.C_below H2.out M1.out.toBelow) (by decide) ?_; intro w1 hS1; have A1 := Aside0.mk hS1; clear hS1)))
  have hq := padTo_len 128 b
  have hqb := padTo_bytes (n := 128) HB.out
  obtain ⟨q, hqq⟩ : ∃ q, over (List.replicate 128 0) 0 (b.take 128) = q := ⟨_, rfl⟩
  unfold padTo at hq hqb
  rw [hqq] at A1 hq hqb
  have HQ := Aside0.mk hq
  have HQB := Aside0.mk hqb
  clear hq hqb hqq hmk M1
  refine (of_ok (k := 128) (n := 2) (l := q) (most := 3) (by have := A1.out.rowC.2.2; rwa [HQ.out] at this) (Nat.le_refl _) rfl (by decide) (by decide)).mono ?_
  rintro e w2 ⟨g, rfl, hS2⟩
  have B2 := Aside0.mk (A1.out.lift1 hS2)
  clear hS2
  go_wp2_with fail
  by_cases hin : 0 ≤ K ∧ K ≤ 120
  · obtain ⟨k, rfl⟩ : ∃ k : Nat, K = (k : Int) := ⟨K.toNat, by omega⟩
    have hk : k ≤ 120 := by omega
    have hk2 : (k : Int) ≤ 120 := by omega
    refine (store_in B2.out k n true (by rw [HQ.out]; show k + 8 ≤ 128; omega)).mono ?_
    rintro e w3 ⟨rfl, hS3⟩
    rw [show wd true = 8 from rfl] at hS3
    have HL : Aside0 ((storeB q k n 8).length = 128) := ⟨by rw [storeB_len]; exact HQ.out⟩
    have HBB : Aside0 (Bytes (storeB q k n 8)) := ⟨storeB_bytes k n HQB.out 8⟩
    have B3 := Aside0.mk hS3
    clear hS3 hin hK1 hK2 hK
    go_wp2_with fail
    refine (load_in B3.out HBB.out k true (by rw [HL.out]; show k + 8 ≤ 128; omega)).mono ?_
    rintro e w4 ⟨rfl, hS4⟩
    rw [show wd true = 8 from rfl, storeB_wide q k n (by rw [HQ.out]; omega) HN.out]
    have B4 := Aside0.mk hS4.at2
    clear hS4
    go_wp2_with fail
    go_loopg [14] 8 (fun m p wr => ∃ j : Nat, j + m = 8 ∧ p = .int .i64 (j : Int) ∧ Sep w wr [Row U8 5 (.slice (some ⟨w.heap.size, 0, none⟩) 128 128) (storeB q k n j), Mem g (storeB q k n 8) 3 (dirtB (List.replicate 2 false) k 8)])
    case atStart => exact ⟨0, rfl, rfl, B4.out⟩
    case round =>
      obtain ⟨j, hjm, rfl, hS⟩ := hrel
      have AK := Aside0.mk hjm
      have AS := Aside0.mk hS
      by_cases hj : j < 8
      · have hwu : IntKind.u64.wrap (8 * (j : Int)) = 8 * (j : Int) := by rw [wrap_u64]; omega
        have hE : wrap64 (Go.bits .and .u64 (IntKind.u64.wrap n / 2 ^ (8 * j)) 255) = byt n j := by
          have := and_byt n j hj
          rwa [i64_w, show (8 * (j : Int)).toNat = 8 * j by omega] at this
        have hby := byt_in n j
        have hv8 : IntKind.u8.wrap (byt n j) = byt n j := by rw [IntKind.wrap_u8]; omega
        have HV := Aside0.mk (And.intro hwu (And.intro hE hv8))
        clear hS hjm hwu hE hv8
        go_wp2_with fail
        refine (load_in AS.out.at2 HBB.out (k + j) false (by rw [HL.out]; show k + j + 1 ≤ 128; omega)).mono ?_
        rintro e w5 ⟨rfl, hS5⟩
        rw [show wd false = 1 from rfl, storeB_one q k n hj (by rw [HQ.out]; omega)]
        have hx := HV.out
        obtain ⟨hwu, hE, hv8⟩ := hx
        obtain ⟨f1, f2⟩ := hS5.at2.rowCell (0 : Int) (k + j) (by omega)
        have B6 := Aside0.mk (hS5.at2.putRow (enc := Value.int .u8) (k + j) (byt n j))
        clear hS5
        go_wp2_with fail
        go_roundg (gk - 1)
        case measure => have := AK.out; omega
        case rel => exact ⟨j + 1, by have := AK.out; omega, by go_num, B6.out⟩
      · have hj8 : j = 8 := by omega
        subst hj8
        have hs0 := str_ hS.drew
        have HL2 := HL.out
        generalize storeB q k n 8 = q8 at *
        have B7 := Aside0.mk hS.drew.at2
        clear hS hjm AK hj AS
        go_wp2_with fail
        refine start_ (n := 18) (S := fun w' => (convert 22 9 (.slice (some ⟨w.heap.size, 0, none⟩) 128 128)).run Try.prog w' = .ok (.string (strOfNums q8)) w') (ds := [15]) #[false, false, false, false, false, false, false, false, false, false, false, false, false, false, false, false, false, false] (by kernel_rfl) rfl rfl (hs0) (fun hHeld => ?_)
        refine pure_ (i := 0) (N := some 96) (v := ?_) (a' := ?_) #[true, false, false, false, false, false, false, false, false, false, false, false, false, false, false, false, false, false] rfl rfl (by kernel_rfl) (fun _ _ _ h => h) (Or.inl ⟨by rfl, ?_⟩) ?_ ?_
        rotate_left
        · intro w'
          go_simp
          with_reducible rfl
        rotate_left
        · simp only [Act.put, List.setIfInBounds_toArray, List.set_cons_zero, List.set_cons_succ, i64_w, i32_w]
          rfl
        refine pure_ (i := 1) (N := some 97) (v := ?_) (a' := ?_) #[true, true, false, false, false, false, false, false, false, false, false, false, false, false, false, false, false, false] rfl rfl (by kernel_rfl) (fun _ _ _ h => h) (Or.inl ⟨by rfl, ?_⟩) ?_ ?_
        rotate_left
        · intro w'
          go_simp
          with_reducible rfl
        rotate_left
        · simp only [Act.put, List.setIfInBounds_toArray, List.set_cons_zero, List.set_cons_succ, i64_w, i32_w]
          rfl
        refine pure_ (i := 2) (N := some 98) (v := ?_) (a' := ?_) #[true, true, true, false, false, false, false, false, false, false, false, false, false, false, false, false, false, false] rfl rfl (by kernel_rfl) (fun _ _ _ h => h) (Or.inl ⟨by rfl, ?_⟩) ?_ ?_
        rotate_left
        · intro w'
          go_simp
          with_reducible rfl
        rotate_left
        · simp only [Act.put, List.setIfInBounds_toArray, List.set_cons_zero, List.set_cons_succ, i64_w, i32_w]
          rfl
        refine pure_ (i := 3) (N := some 99) (v := ?_) (a' := ?_) #[true, true, true, true, false, false, false, false, false, false, false, false, false, false, false, false, false, false] rfl rfl (by kernel_rfl) (fun _ _ _ h => h) (Or.inl ⟨by rfl, ?_⟩) ?_ ?_
        rotate_left
        · intro w'
          go_simp
          with_reducible rfl
        rotate_left
        · simp only [Act.put, List.setIfInBounds_toArray, List.set_cons_zero, List.set_cons_succ, i64_w, i32_w]
          rfl
        refine pure_ (i := 4) (N := some 100) (v := ?_) (a' := ?_) #[true, true, true, true, true, false, false, false, false, false, false, false, false, false, false, false, false, false] rfl rfl (by kernel_rfl) (fun _ _ _ h => h) (Or.inl ⟨by rfl, ?_⟩) ?_ ?_
        rotate_left
        · intro w'
          go_simp
          with_reducible rfl
        rotate_left
        · simp only [Act.put, List.setIfInBounds_toArray, List.set_cons_zero, List.set_cons_succ, i64_w, i32_w]
          rfl
        refine pure_ (i := 5) (N := some 101) (v := ?_) (a' := ?_) #[true, true, true, true, true, true, false, false, false, false, false, false, false, false, false, false, false, false] rfl rfl (by kernel_rfl) (fun _ _ _ h => h) (Or.inl ⟨by rfl, ?_⟩) ?_ ?_
        rotate_left
        · intro w'
          go_simp
          with_reducible rfl
        rotate_left
        · simp only [Act.put, List.setIfInBounds_toArray, List.set_cons_zero, List.set_cons_succ, i64_w, i32_w]
          rfl
        refine pure_ (i := 6) (N := some 102) (v := ?_) (a' := ?_) #[true, true, true, true, true, true, true, false, false, false, false, false, false, false, false, false, false, false] rfl rfl (by kernel_rfl) (fun _ _ _ h => h) (Or.inl ⟨by rfl, ?_⟩) ?_ ?_
        rotate_left
        · intro w'
          go_simp
          with_reducible rfl
        rotate_left
        · simp only [Act.put, List.setIfInBounds_toArray, List.set_cons_zero, List.set_cons_succ, i64_w, i32_w]
          rfl
        refine pure_ (i := 7) (N := some 103) (v := ?_) (a' := ?_) #[true, true, true, true, true, true, true, true, false, false, false, false, false, false, false, false, false, false] rfl rfl (by kernel_rfl) (fun _ _ _ h => h) (Or.inl ⟨by rfl, ?_⟩) ?_ ?_
        rotate_left
        · intro w'
          go_simp
          with_reducible rfl
        rotate_left
        · simp only [Act.put, List.setIfInBounds_toArray, List.set_cons_zero, List.set_cons_succ, i64_w, i32_w]
          rfl
        refine pure_ (i := 10) (N := some 106) (v := ?_) (a' := ?_) #[true, true, true, true, true, true, true, true, false, false, true, false, false, false, false, false, false, false] rfl rfl (by kernel_rfl) (fun _ _ _ h => h) (Or.inl ⟨by rfl, ?_⟩) ?_ ?_
        rotate_left
        · intro w'
          go_simp
          with_reducible rfl
        rotate_left
        · simp only [Act.put, List.setIfInBounds_toArray, List.set_cons_zero, List.set_cons_succ, i64_w, i32_w]
          rfl
        refine take_ (i := 11) (N := some 107) (v := ?_) (a' := ?_) #[true, true, true, true, true, true, true, true, false, false, true, true, false, false, false, false, false, false] rfl rfl (by kernel_rfl) (fun _ _ _ h => h) (Or.inl ⟨by rfl, ?_⟩) hHeld ?_ ?_
        rotate_left
        · intro w' s0
          go_simp
          with_reducible rfl
        rotate_left
        · simp only [Act.put, List.setIfInBounds_toArray, List.set_cons_zero, List.set_cons_succ, i64_w, i32_w]
          rfl
        refine one_ (i := 8) (N := some 104) #[true, true, true, true, true, true, true, true, true, false, true, true, false, false, false, false, false, false] rfl rfl (by kernel_rfl) (by decide) (fun K hK => ?_)
        refine goes_ Try.func13 (by kernel_rfl) rfl #[.pointer (some ⟨g, 0, none⟩)] (by rfl) rfl rfl (by simp only [List.map_toArray, List.map_cons, List.map_nil]; rfl) ?_
        with_reducible refine (bytes_ B7.out).mono ?_
        rintro e w7 ⟨v7, rfl, hS7⟩
        refine ⟨_, rfl, ?_⟩
        obtain ⟨A7, c7, rfl⟩ := hS7.rowN HL.out
        have hs7 := str_ hS7
        have B8 := Aside0.mk hS7
        clear hS7
        refine hK.out _ _ (str_ B8.out.at3) (fun hHeld => ?_)
        clear hK K
        refine norm_ (a' := ?_) ?_ ?_
        rotate_left
        · show Act.put _ (some 104) _ = _
          simp only [Act.put, List.setIfInBounds_toArray, List.set_cons_zero, List.set_cons_succ, i64_w, i32_w]
          rfl
        refine one_ (i := 9) (N := some 105) #[true, true, true, true, true, true, true, true, true, true, true, true, false, false, false, false, false, false] rfl rfl (by kernel_rfl) (by decide) (fun K hK => ?_)
        refine value_ (w1 := ?_) (v := ?_) (by rfl) rfl ?_ ?_
        rotate_left 2
        · go_simp
          constructor
          · rfl
          · rfl
        refine hK.out _ _ (str_ B8.out.at3) (fun hHeld => ?_)
        clear hK K
        refine norm_ (a' := ?_) ?_ ?_
        rotate_left
        · show Act.put _ (some 105) _ = _
          simp only [Act.put, List.setIfInBounds_toArray, List.set_cons_zero, List.set_cons_succ, i64_w, i32_w]
          rfl
        refine pure_ (i := 12) (N := some 108) (v := ?_) (a' := ?_) #[true, true, true, true, true, true, true, true, true, true, true, true, true, false, false, false, false, false] rfl rfl (by kernel_rfl) (fun _ _ _ h => h) (Or.inl ⟨by rfl, ?_⟩) ?_ ?_
        rotate_left
        · intro w'
          go_simp
          with_reducible rfl
        rotate_left
        · simp only [Act.put, List.setIfInBounds_toArray, List.set_cons_zero, List.set_cons_succ, i64_w, i32_w]
          rfl
        refine pure_ (i := 13) (N := some 109) (v := ?_) (a' := ?_) #[true, true, true, true, true, true, true, true, true, true, true, true, true, true, false, false, false, false] rfl rfl (by kernel_rfl) (fun _ _ _ h => h) (Or.inl ⟨by rfl, ?_⟩) ?_ ?_
        rotate_left
        · intro w'
          go_simp
          with_reducible rfl
        rotate_left
        · simp only [Act.put, List.setIfInBounds_toArray, List.set_cons_zero, List.set_cons_succ, i64_w, i32_w]
          rfl
        refine pure_ (i := 14) (N := some 110) (v := ?_) (a' := ?_) #[true, true, true, true, true, true, true, true, true, true, true, true, true, true, true, false, false, false] rfl rfl (by kernel_rfl) (fun _ _ _ h => h) (Or.inl ⟨by rfl, ?_⟩) ?_ ?_
        rotate_left
        · intro w'
          go_simp
          with_reducible rfl
        rotate_left
        · simp only [Act.put, List.setIfInBounds_toArray, List.set_cons_zero, List.set_cons_succ, i64_w, i32_w]
          rfl
        refine last_ (i := 15) (N := some 111) #[true, true, true, true, true, true, true, true, true, true, true, true, true, true, true, true, false, false] rfl rfl (by kernel_rfl) (by decide) (fun K hK => ?_)
        refine goes_ Try.func15 (by kernel_rfl) rfl #[] (by rfl) rfl rfl (by simp) ?_
        with_reducible refine (known_ _).mono ?_
        rintro e w8 ⟨rfl, hb8⟩
        refine ⟨_, rfl, ?_⟩
        refine hK.out _ _ ?_
        clear hK K
        refine norm_ (a' := ?_) ?_ ?_
        rotate_left
        · show Act.put _ (some 111) _ = _
          simp only [Act.put, List.setIfInBounds_toArray, List.set_cons_zero, List.set_cons_succ, i64_w, i32_w]
          rfl
        refine pure_ (i := 16) (N := some 112) (v := ?_) (a' := ?_) #[true, true, true, true, true, true, true, true, true, true, true, true, true, true, true, true, true, false] rfl rfl (by kernel_rfl) (fun _ _ _ h => h) (Or.inl ⟨by rfl, ?_⟩) ?_ ?_
        rotate_left
        · intro w'
          go_simp
          with_reducible rfl
        rotate_left
        · simp only [Act.put, List.setIfInBounds_toArray, List.set_cons_zero, List.set_cons_succ, i64_w, i32_w]
          rfl
        refine pure_ (i := 17) (N := some 6) (v := ?_) (a' := ?_) #[true, true, true, true, true, true, true, true, true, true, true, true, true, true, true, true, true, true] rfl rfl (by kernel_rfl) (fun _ _ _ h => h) (Or.inl ⟨by rfl, ?_⟩) ?_ ?_
        rotate_left
        · intro w'
          go_simp
          with_reducible rfl
        rotate_left
        · simp only [Act.put, List.setIfInBounds_toArray, List.set_cons_zero, List.set_cons_succ, i64_w, i32_w]
          rfl
        refine done_ (by kernel_rfl) ?_
        go_wp2_with fail
        go_ret
        exact ⟨by first | rfl | (simp; done), (B8.out.below hb8).toBelow⟩
  · refine (store_out B2.out K n true (by rw [HQ.out]; show ¬ (0 ≤ K ∧ K + ((8 : Nat) : Int) ≤ ((128 : Nat) : Int)); omega)).mono ?_
    rintro e w3 ⟨rfl, hS3⟩
    have B3 := Aside0.mk hS3
    have AIN := Aside0.mk hin
    clear hS3 hK hin
    by_cases h0 : 0 ≤ K
    all_goals
      first
        | (have h1 : decide (K ≤ 120) = false := decide_eq_false (fun h => AIN.out ⟨h0, h⟩))
        | (have h1 : decide (0 ≤ K) = false := decide_eq_false h0)
      have hs0 := str_ B3.out.at2.drew
      have B7 := Aside0.mk B3.out.drew
      go_wp2_with fail
      refine start_ (n := 16) (S := fun w' => (convert 22 9 (.slice (some ⟨w.heap.size, 0, none⟩) 128 128)).run Try.prog w' = .ok (.string (strOfNums q)) w') (ds := [13]) #[false, false, false, false, false, false, false, false, false, false, false, false, false, false, false, false] (by kernel_rfl) rfl rfl (hs0) (fun hHeld => ?_)
      refine pure_ (i := 0) (N := some 42) (v := ?_) (a' := ?_) #[true, false, false, false, false, false, false, false, false, false, false, false, false, false, false, false] rfl rfl (by kernel_rfl) (fun _ _ _ h => h) (Or.inl ⟨by rfl, ?_⟩) ?_ ?_
      rotate_left
      · intro w'
        go_simp
        with_reducible rfl
      rotate_left
      · simp only [Act.put, List.setIfInBounds_toArray, List.set_cons_zero, List.set_cons_succ, i64_w, i32_w]
        rfl
      refine pure_ (i := 3) (N := some 45) (v := ?_) (a' := ?_) #[true, false, false, true, false, false, false, false, false, false, false, false, false, false, false, false] rfl rfl (by kernel_rfl) (fun _ _ _ h => h) (Or.inl ⟨by rfl, ?_⟩) ?_ ?_
      rotate_left
      · intro w'
        go_simp
        with_reducible rfl
      rotate_left
      · simp only [Act.put, List.setIfInBounds_toArray, List.set_cons_zero, List.set_cons_succ, i64_w, i32_w]
        rfl
      refine take_ (i := 4) (N := some 46) (v := ?_) (a' := ?_) #[true, false, false, true, true, false, false, false, false, false, false, false, false, false, false, false] rfl rfl (by kernel_rfl) (fun _ _ _ h => h) (Or.inl ⟨by rfl, ?_⟩) hHeld ?_ ?_
      rotate_left
      · intro w' s0
        go_simp
        with_reducible rfl
      rotate_left
      · simp only [Act.put, List.setIfInBounds_toArray, List.set_cons_zero, List.set_cons_succ, i64_w, i32_w]
        rfl
      refine one_ (i := 1) (N := some 43) #[true, true, false, true, true, false, false, false, false, false, false, false, false, false, false, false] rfl rfl (by kernel_rfl) (by decide) (fun K hK => ?_)
      refine goes_ Try.func13 (by kernel_rfl) rfl #[.pointer (some ⟨g, 0, none⟩)] (by rfl) rfl rfl (by simp only [List.map_toArray, List.map_cons, List.map_nil]; rfl) ?_
      with_reducible refine (bytes_ B7.out).mono ?_
      rintro e w7 ⟨v7, rfl, hS7⟩
      refine ⟨_, rfl, ?_⟩
      obtain ⟨A7, c7, rfl⟩ := hS7.rowN HQ.out
      have hs7 := str_ hS7
      have B8 := Aside0.mk hS7
      clear hS7
      refine hK.out _ _ (str_ B8.out.at3) (fun hHeld => ?_)
      clear hK K
      refine norm_ (a' := ?_) ?_ ?_
      rotate_left
      · show Act.put _ (some 43) _ = _
        simp only [Act.put, List.setIfInBounds_toArray, List.set_cons_zero, List.set_cons_succ, i64_w, i32_w]
        rfl
      refine one_ (i := 2) (N := some 44) #[true, true, true, true, true, false, false, false, false, false, false, false, false, false, false, false] rfl rfl (by kernel_rfl) (by decide) (fun K hK => ?_)
      refine value_ (w1 := ?_) (v := ?_) (by rfl) rfl ?_ ?_
      rotate_left 2
      · go_simp
        constructor
        · rfl
        · rfl
      refine hK.out _ _ (str_ B8.out.at3) (fun hHeld => ?_)
      clear hK K
      refine norm_ (a' := ?_) ?_ ?_
      rotate_left
      · show Act.put _ (some 44) _ = _
        simp only [Act.put, List.setIfInBounds_toArray, List.set_cons_zero, List.set_cons_succ, i64_w, i32_w]
        rfl
      refine pure_ (i := 5) (N := some 47) (v := ?_) (a' := ?_) #[true, true, true, true, true, true, false, false, false, false, false, false, false, false, false, false] rfl rfl (by kernel_rfl) (fun _ _ _ h => h) (Or.inl ⟨by rfl, ?_⟩) ?_ ?_
      rotate_left
      · intro w'
        go_simp
        with_reducible rfl
      rotate_left
      · simp only [Act.put, List.setIfInBounds_toArray, List.set_cons_zero, List.set_cons_succ, i64_w, i32_w]
        rfl
      refine pure_ (i := 6) (N := some 48) (v := ?_) (a' := ?_) #[true, true, true, true, true, true, true, false, false, false, false, false, false, false, false, false] rfl rfl (by kernel_rfl) (fun _ _ _ h => h) (Or.inl ⟨by rfl, ?_⟩) ?_ ?_
      rotate_left
      · intro w'
        go_simp
        with_reducible rfl
      rotate_left
      · simp only [Act.put, List.setIfInBounds_toArray, List.set_cons_zero, List.set_cons_succ, i64_w, i32_w]
        rfl
      refine pure_ (i := 7) (N := some 49) (v := ?_) (a' := ?_) #[true, true, true, true, true, true, true, true, false, false, false, false, false, false, false, false] rfl rfl (by kernel_rfl) (fun _ _ _ h => h) (Or.inl ⟨by rfl, ?_⟩) ?_ ?_
      rotate_left
      · intro w'
        go_simp
        with_reducible rfl
      rotate_left
      · simp only [Act.put, List.setIfInBounds_toArray, List.set_cons_zero, List.set_cons_succ, i64_w, i32_w]
        rfl
      refine one_ (i := 8) (N := some 50) #[true, true, true, true, true, true, true, true, true, false, false, false, false, false, false, false] rfl rfl (by kernel_rfl) (by decide) (fun K hK => ?_)
      refine goes_ Try.func14 (by kernel_rfl) rfl #[.pointer (some ⟨g, 0, none⟩)] (by rfl) rfl rfl (by simp only [List.map_toArray, List.map_cons, List.map_nil]; rfl) ?_
      with_reducible refine (dirty_ B8.out.at2).mono ?_
      rintro e w9 ⟨v9, rfl, hS9⟩
      refine ⟨_, rfl, ?_⟩
      rw [dirtyI_none] at hS9
      obtain ⟨A9, c9, rfl⟩ := hS9.rowN (n := 0) rfl
      have B9 := Aside0.mk hS9
      clear hS9
      refine hK.out _ _ (str_ B9.out.at4) (fun hHeld => ?_)
      clear hK K
      refine norm_ (a' := ?_) ?_ ?_
      rotate_left
      · show Act.put _ (some 50) _ = _
        simp only [Act.put, List.setIfInBounds_toArray, List.set_cons_zero, List.set_cons_succ, i64_w, i32_w]
        rfl
      refine pure_ (i := 9) (N := some 51) (v := ?_) (a' := ?_) #[true, true, true, true, true, true, true, true, true, true, false, false, false, false, false, false] rfl rfl (by kernel_rfl) (fun _ _ _ h => h) (Or.inl ⟨by rfl, ?_⟩) ?_ ?_
      rotate_left
      · intro w'
        go_simp
        with_reducible rfl
      rotate_left
      · simp only [Act.put, List.setIfInBounds_toArray, List.set_cons_zero, List.set_cons_succ, i64_w, i32_w]
        rfl
      refine pure_ (i := 10) (N := some 52) (v := ?_) (a' := ?_) #[true, true, true, true, true, true, true, true, true, true, true, false, false, false, false, false] rfl rfl (by kernel_rfl) (fun _ _ _ h => h) (Or.inl ⟨by rfl, ?_⟩) ?_ ?_
      rotate_left
      · intro w'
        go_simp
        with_reducible rfl
      rotate_left
      · simp only [Act.put, List.setIfInBounds_toArray, List.set_cons_zero, List.set_cons_succ, i64_w, i32_w]
        rfl
      refine pure_ (i := 11) (N := some 53) (v := ?_) (a' := ?_) #[true, true, true, true, true, true, true, true, true, true, true, true, false, false, false, false] rfl rfl (by kernel_rfl) (fun _ _ _ h => h) (Or.inl ⟨by rfl, ?_⟩) ?_ ?_
      rotate_left
      · intro w'
        go_simp
        with_reducible rfl
      rotate_left
      · simp only [Act.put, List.setIfInBounds_toArray, List.set_cons_zero, List.set_cons_succ, i64_w, i32_w]
        rfl
      refine pure_ (i := 12) (N := some 54) (v := ?_) (a' := ?_) #[true, true, true, true, true, true, true, true, true, true, true, true, true, false, false, false] rfl rfl (by kernel_rfl) (fun _ _ _ h => h) (Or.inl ⟨by rfl, ?_⟩) ?_ ?_
      rotate_left
      · intro w'
        go_simp
        with_reducible rfl
      rotate_left
      · simp only [Act.put, List.setIfInBounds_toArray, List.set_cons_zero, List.set_cons_succ, i64_w, i32_w]
        rfl
      refine last_ (i := 13) (N := some 55) #[true, true, true, true, true, true, true, true, true, true, true, true, true, true, false, false] rfl rfl (by kernel_rfl) (by decide) (fun K hK => ?_)
      refine goes_ Try.func15 (by kernel_rfl) rfl #[] (by rfl) rfl rfl (by simp) ?_
      with_reducible refine (known_ _).mono ?_
      rintro e w8 ⟨rfl, hb8⟩
      refine ⟨_, rfl, ?_⟩
      refine hK.out _ _ ?_
      clear hK K
      refine norm_ (a' := ?_) ?_ ?_
      rotate_left
      · show Act.put _ (some 55) _ = _
        simp only [Act.put, List.setIfInBounds_toArray, List.set_cons_zero, List.set_cons_succ, i64_w, i32_w]
        rfl
      refine pure_ (i := 14) (N := some 56) (v := ?_) (a' := ?_) #[true, true, true, true, true, true, true, true, true, true, true, true, true, true, true, false] rfl rfl (by kernel_rfl) (fun _ _ _ h => h) (Or.inl ⟨by rfl, ?_⟩) ?_ ?_
      rotate_left
      · intro w'
        go_simp
        with_reducible rfl
      rotate_left
      · simp only [Act.put, List.setIfInBounds_toArray, List.set_cons_zero, List.set_cons_succ, i64_w, i32_w]
        rfl
      refine pure_ (i := 15) (N := some 6) (v := ?_) (a' := ?_) #[true, true, true, true, true, true, true, true, true, true, true, true, true, true, true, true] rfl rfl (by kernel_rfl) (fun _ _ _ h => h) (Or.inl ⟨by rfl, ?_⟩) ?_ ?_
      rotate_left
      · intro w'
        go_simp
        with_reducible rfl
      rotate_left
      · simp only [Act.put, List.setIfInBounds_toArray, List.set_cons_zero, List.set_cons_succ, i64_w, i32_w]
        rfl
      refine done_ (by kernel_rfl) ?_
      go_wp2_with fail
      go_ret
      exact ⟨by first | rfl | (simp; done), (B9.out.below hb8).toBelow⟩
end Go.Proofs.Ytfpkhlhojjmgiaa.Cells
