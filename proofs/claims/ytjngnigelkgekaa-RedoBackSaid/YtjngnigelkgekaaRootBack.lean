/- RootBack: the walk. -/
import Derived.Test.YtjngnigelkgekaaRoot10
import Derived.Test.YtjngnigelkgekaaKM
namespace Go.Proofs.Ytjngnigelkgekaa.Root
set_option linter.unusedVariables false
set_option linter.unusedSimpArgs false
open Go.RowKit Go.Proofs.YtjngnigelkgekaaW.PrintWords Go.Proofs.YtjngnigelkgekaaW.PrintLast Go.Proofs.YtjngnigelkgekaaW.PrintMore Go.Proofs.Ytjngnigelkgekaa.Kit Go.Proofs.Ytjngnigelkgekaa.Plain Go.Proofs.Ytjngnigelkgekaa.Disk
theorem secF_same {n i : Nat} {las b : List Int} {wt : Wt} (hi : i < n) (hb : b.length = 64) : secF n las (putW n wt i b) i = b := by
  unfold secF putW
  rw [if_pos hi, if_pos ⟨hi, hb⟩]
  simp
theorem secF_other {n i j : Nat} {las b : List Int} {wt : Wt} (hj : j ≠ i) : secF n las (putW n wt i b) j = secF n las wt j := by
  unfold secF putW
  by_cases h : i < n ∧ b.length = 64
  · rw [if_pos h]; simp [hj]
  · rw [if_neg h]
theorem and32 {a m : Int} (k : Nat) (hk : k ≤ 32) (hm : m = 2 ^ k - 1) (h0 : 0 ≤ a) (h1 : a ≤ 4294967295) : Go.bits .and .u32 a m = a % 2 ^ k := by
  obtain ⟨x, rfl⟩ := Int.eq_ofNat_of_zero_le h0
  have hp : 2 ^ k ≤ 2 ^ 32 := Nat.pow_le_pow_right (by decide) hk
  have hp1 : 1 ≤ 2 ^ k := Nat.one_le_two_pow
  have e : m = ((2 ^ k - 1 : Nat) : Int) := by rw [hm, Int.ofNat_sub hp1, Int.natCast_pow]; rfl
  rw [e, (bits_nat .u32 32 (by decide) wraps_u32 x (2 ^ k - 1) (by omega) (by omega)).1, Nat.and_two_pow_sub_one_eq_mod]
  simp
theorem best_xy {n : Int} {s : Nat → List Int} {x y : List Int} {a b e f : Int} (h0 : s 0 = x) (h1 : s 1 = y) (hx : unrootF x = some (a, b, e)) (hy : unrootF y = some (a, b, f)) (rx : rightR a b e n = true) (ry : rightR a b f n = true) (hef : e < f) (he : 0 < e) : bestTo n s 2 = (a, b, f) := by
  show pickF n (pickF n (0, 0, 0) (s 0)) (s 1) = _
  rw [h0, h1, pick_yes (r := (a, b, e)) hx rx he, pick_yes (r := (a, b, f)) hy ry hef]
theorem best_yx {n : Int} {s : Nat → List Int} {x y : List Int} {a b e f : Int} (h0 : s 0 = y) (h1 : s 1 = x) (hx : unrootF x = some (a, b, e)) (hy : unrootF y = some (a, b, f)) (ry : rightR a b f n = true) (hef : e < f) (he : 0 < e) : bestTo n s 2 = (a, b, f) := by
  show pickF n (pickF n (0, 0, 0) (s 0)) (s 1) = _
  rw [h0, h1, pick_yes (r := (a, b, f)) hy ry (by show 0 < f; omega), pick_no (r := (a, b, e)) hx (fun h => by have h2 : f < e := h.2; omega)]
theorem best_xz {n : Int} {s : Nat → List Int} {x z : List Int} {a b e : Int} (h0 : s 0 = x) (h1 : s 1 = z) (hx : unrootF x = some (a, b, e)) (hz : unrootF z = none) (rx : rightR a b e n = true) (he : 0 < e) : bestTo n s 2 = (a, b, e) := by
  show pickF n (pickF n (0, 0, 0) (s 0)) (s 1) = _
  rw [h0, h1, pick_yes (r := (a, b, e)) hx rx he, pick_none hz]
theorem best_zx {n : Int} {s : Nat → List Int} {x z : List Int} {a b e : Int} (h0 : s 0 = z) (h1 : s 1 = x) (hx : unrootF x = some (a, b, e)) (hz : unrootF z = none) (rx : rightR a b e n = true) (he : 0 < e) : bestTo n s 2 = (a, b, e) := by
  show pickF n (pickF n (0, 0, 0) (s 0)) (s 1) = _
  rw [h0, h1, pick_none hz, pick_yes (r := (a, b, e)) hx rx he]
/-- What is told of the two writes: K and J are 0 and 1. -/
theorem best_kj {zz x y z : List Int} {K J : Nat} {a b e f : Int} (hKJ : K + J = 1) (lx : x.length = 64) (ly : y.length = 64) (lz : z.length = 64) (hx : unrootF x = some (a, b, e)) (hy : unrootF y = some (a, b, f)) (hz : unrootF z = none) (rx : rightR a b e (30 : Nat) = true) (ry : rightR a b f (30 : Nat) = true) (hef : e < f) (he : 0 < e) :
    bestTo (30 : Nat) (secF 30 zz (putW 30 (putW 30 (fun _ => none) K x) J y)) 2 = (a, b, f) ∧ bestTo (30 : Nat) (secF 30 zz (putW 30 (putW 30 (putW 30 (fun _ => none) K x) J y) J z)) 2 = (a, b, e) := by
  rcases (show (K = 0 ∧ J = 1) ∨ (K = 1 ∧ J = 0) by omega) with ⟨rfl, rfl⟩ | ⟨rfl, rfl⟩
  · exact ⟨best_xy ((secF_other (by decide)).trans (secF_same (by decide) lx)) (secF_same (by decide) ly) hx hy rx ry hef he,
      best_xz ((secF_other (by decide)).trans ((secF_other (by decide)).trans (secF_same (by decide) lx))) (secF_same (by decide) lz) hx hz rx he⟩
  · exact ⟨best_yx (secF_same (by decide) ly) ((secF_other (by decide)).trans (secF_same (by decide) lx)) hx hy ry hef he,
      best_zx (secF_same (by decide) lz) ((secF_other (by decide)).trans ((secF_other (by decide)).trans (secF_same (by decide) lx))) hx hz rx he⟩
theorem right30 {a b c : Int} (a0 : 1 ≤ a) (a1 : a ≤ 9) (b0 : 1 ≤ b) (b1 : b ≤ 9) (c0 : 1 ≤ c) : rightR a b c (30 : Nat) = true := by
  unfold rightR
  exact decide_eq_true (by omega)
set_option maxHeartbeats 1600000 in
set_option maxRecDepth 100000 in
theorem rootBack_ {log pages a b at_ turn : Int} {w : World} (ha : 0 ≤ a ∧ a ≤ 4294967295) (hb : 0 ≤ b ∧ b ≤ 4294967295) (hat : -9223372036854775808 ≤ at_ ∧ at_ ≤ 9223372036854775807) (htu : 0 ≤ turn ∧ turn ≤ 255) :
    Calls Try.prog 7 #[.int .i64 log, .int .i64 pages, .int .u32 a, .int .u32 b, .int .i64 at_, .int .u8 turn] w fun e w' => e = .returned (.bool true) ∧ Below w.heap.size w w' := by
  have hl := Book.withinF_in (n := log) (lo := 1) (hi := 9) (by decide)
  have hp := Book.withinF_in (n := pages) (lo := 1) (hi := 9) (by decide)
  obtain ⟨L, hL⟩ : ∃ L, Book.withinF log 1 9 = L := ⟨_, rfl⟩
  obtain ⟨P, hP⟩ : ∃ P, Book.withinF pages 1 9 = P := ⟨_, rfl⟩
  rw [hL] at hl
  rw [hP] at hp
  have HLP := Aside0.mk (And.intro hL hP)
  have m1 : Go.bits .and .u32 a 65535 = a % 65536 := and32 16 (by decide) (by decide) ha.1 ha.2
  have m2 : Go.bits .and .u32 b 255 = b % 256 := and32 8 (by decide) (by decide) hb.1 hb.2
  have m3 : Go.bits .and .u32 b 1 = b % 2 := and32 1 (by decide) (by decide) hb.1 hb.2
  obtain ⟨E1, hE1⟩ : ∃ E1, 1 + a % 65536 = E1 := ⟨_, rfl⟩
  obtain ⟨E2, hE2⟩ : ∃ E2, E1 + 1 + b % 256 = E2 := ⟨_, rfl⟩
  have hE : 1 ≤ E1 ∧ E1 < E2 ∧ E2 ≤ 100000 := by omega
  obtain ⟨K, hK⟩ := Int.eq_ofNat_of_zero_le (show 0 ≤ b % 2 by omega)
  obtain ⟨J, hJ⟩ : ∃ J : Nat, K + J = 1 := ⟨1 - K, by omega⟩
  have HKJ := Aside0.mk hJ
  have w1 : IntKind.u32.wrap (1 + a % 65536) = E1 := by rw [IntKind.wrap_u32]; omega
  have w2 : IntKind.u32.wrap (E1 + 1) = E1 + 1 := by rw [IntKind.wrap_u32]; omega
  have w3 : IntKind.u32.wrap (E1 + 1 + b % 256) = E2 := by rw [IntKind.wrap_u32]; omega
  have w4 : IntKind.i64.wrap (K : Int) = (K : Int) := by rw [IntKind.wrap_i64]; omega
  have w5 : wrap64 (1 - (K : Int)) = (J : Int) := by rw [IntWalk.wrap64_in _ (by omega)]; omega
  have w5' : (1 - (K : Int)) = (J : Int) := by omega
  obtain ⟨q, hq⟩ := Int.eq_ofNat_of_zero_le (show 0 ≤ (at_.tmod 20 + 20).tmod 20 by
    have h1 := Int.lt_tmod_of_pos at_ (show (0 : Int) < 20 by decide)
    exact Int.tmod_nonneg _ (by omega))
  have hq20 : q < 20 := by
    have := Int.tmod_lt_of_pos (at_.tmod 20 + 20) (show (0 : Int) < 20 by decide)
    omega
  have hq64 : q < 64 := by omega
  have w6 : wrap64 (at_.tmod 20 + 20) = at_.tmod 20 + 20 := by
    have h1 := Int.lt_tmod_of_pos at_ (show (0 : Int) < 20 by decide)
    have h2 := Int.tmod_lt_of_pos at_ (show (0 : Int) < 20 by decide)
    exact IntWalk.wrap64_in _ (by omega)
  have HQ := Aside0.mk hq
  have HQ2 := Aside0.mk hq20
  have HX : Aside0 (unrootF (rootF L P E1) = some (L, P, E1) ∧ (rootF L P E1).length = 64 ∧ Bytes (rootF L P E1)) := ⟨unroot_root (by omega) (by omega) (by omega) (by omega) (by omega) (by omega), rootF_len _ _ _, rootF_bytes _ _ _⟩
  have HY : Aside0 (unrootF (rootF L P E2) = some (L, P, E2) ∧ (rootF L P E2).length = 64 ∧ Bytes (rootF L P E2)) := ⟨unroot_root (by omega) (by omega) (by omega) (by omega) (by omega) (by omega), rootF_len _ _ _, rootF_bytes _ _ _⟩
  have HRX := Aside0.mk (And.intro (right30 (a := L) (b := P) (c := E1) hl.1 hl.2 hp.1 hp.2 (by omega)) (right30 (a := L) (b := P) (c := E2) hl.1 hl.2 hp.1 hp.2 (by omega)))
  have HM : Aside0 (m32 L = L ∧ m32 P = P) := ⟨⟨m32_id (by omega) (by omega), m32_id (by omega) (by omega)⟩⟩
  have HE := Aside0.mk hE
  have hyr : Aside0 (0 ≤ (rootF L P E1).getD q 0 ∧ (rootF L P E1).getD q 0 ≤ 255) := ⟨by have := (rootF_bytes L P E1).at (q : Int); unfold rd at this; rwa [Int.toNat_natCast] at this⟩
  have HT := Aside0.mk (turned hyr.out.1 hyr.out.2 htu.1 htu.2)
  have HZN : Aside0 (unrootF ((rootF L P E1).set q (Go.bits .xor .u8 ((rootF L P E1).getD q 0) (Go.bits .or .u8 turn 1))) = none) := ⟨unroot_turned hq20 HT.out.1 HT.out.2.1 (by unfold rd; rw [Int.toNat_natCast]; exact HT.out.2.2)⟩
  have HZ : Aside0 (Bytes ((rootF L P E1).set q (Go.bits .xor .u8 ((rootF L P E1).getD q 0) (Go.bits .or .u8 turn 1))) ∧ ((rootF L P E1).set q (Go.bits .xor .u8 ((rootF L P E1).getD q 0) (Go.bits .or .u8 turn 1))).length = 64) := ⟨set_bytes q (rootF_bytes _ _ _) HT.out.1 HT.out.2.1, by rw [List.length_set]; exact rootF_len _ _ _⟩
  have HEX : Aside0 (0 ≤ E1 ∧ E1 ≤ 4294967295 ∧ 0 ≤ E2 ∧ E2 ≤ 4294967295) := ⟨by omega⟩
  clear ha hb hat htu hl hp hL hP hE1 hE2 hE hJ hq20
  go_enter Try.func7, Try.ntmps7
  go_wp2_with fail
  refine (Book.within_ log 1 9 _ (by decide) (by decide) (by decide)).mono ?_
  rintro e w_ ⟨rfl, rfl⟩
  rw [HLP.out.1]
  go_wp2_with fail
  refine (Book.within_ pages 1 9 _ (by decide) (by decide) (by decide)).mono ?_
  rintro e w_ ⟨rfl, rfl⟩
  rw [HLP.out.2]
  have A1 := (((Sep.start w).newBlk 26 #[.int .i64 L, .int .i64 P, .int .u32 E1]).newBlk 26 #[.int .i64 L, .int .i64 P, .int .u32 E2]).drew
  rw [show ∀ o : Obj, (w.alloc o).heap.size = w.heap.size + 1 from fun o => by simp] at A1
  have A1' := Aside0.mk A1
  clear A1
  go_wp2_with fail
  refine start_ (n := 6) (S := fun w' => w'.cell? ⟨w.heap.size, 0, none⟩ = some (.int .i64 L) ∧ w'.cell? ⟨w.heap.size, 1, none⟩ = some (.int .i64 P) ∧ w'.cell? ⟨w.heap.size, 2, none⟩ = some (.int .u32 E1) ∧ w'.cell? ⟨(w.heap.size + 1), 0, none⟩ = some (.int .i64 L) ∧ w'.cell? ⟨(w.heap.size + 1), 1, none⟩ = some (.int .i64 P) ∧ w'.cell? ⟨(w.heap.size + 1), 2, none⟩ = some (.int .u32 E2)) (ds := [3]) #[false, false, false, false, false, false] (by kernel_rfl) rfl rfl ⟨(A1'.out.at2.cell 0).trans rfl, (A1'.out.at2.cell 1).trans rfl, (A1'.out.at2.cell 2).trans rfl, (A1'.out.cell 0).trans rfl, (A1'.out.cell 1).trans rfl, (A1'.out.cell 2).trans rfl⟩ (fun hHeld => ?_)
  refine take_ (i := 0) (N := some 44) (v := ?_) (a' := ?_) #[true, false, false, false, false, false] rfl rfl (by kernel_rfl) (fun _ _ _ h => h) (Or.inl ⟨by rfl, ?_⟩) hHeld ?_ ?_
  rotate_left
  · rintro w' ⟨s0, s1, s2, s3, s4, s5⟩
    go_simp
    with_reducible rfl
  rotate_left
  · simp only [Act.put, List.setIfInBounds_toArray, List.set_cons_zero, List.set_cons_succ, i64_w, i32_w]
    rfl
  refine take_ (i := 2) (N := some 46) (v := ?_) (a' := ?_) #[true, false, true, false, false, false] rfl rfl (by kernel_rfl) (fun _ _ _ h => h) (Or.inl ⟨by rfl, ?_⟩) hHeld ?_ ?_
  rotate_left
  · rintro w' ⟨s0, s1, s2, s3, s4, s5⟩
    go_simp
    with_reducible rfl
  rotate_left
  · simp only [Act.put, List.setIfInBounds_toArray, List.set_cons_zero, List.set_cons_succ, i64_w, i32_w]
    rfl
  refine one_ (i := 1) (N := some 45) #[true, true, true, false, false, false] rfl rfl (by kernel_rfl) (by decide) (fun K hK => ?_)
  refine goes_ Try.func43 (by kernel_rfl) rfl #[.agg #[.int .i64 L, .int .i64 P, .int .u32 E1]] (by rfl) rfl rfl (by simp only [List.map_toArray, List.map_cons, List.map_nil]; rfl) ?_
  with_reducible refine (bytes_ L P E1 ⟨HEX.out.1, HEX.out.2.1⟩ _).mono ?_
  rintro e w3 ⟨v3, rfl, hS3⟩
  refine ⟨_, rfl, ?_⟩
  rw [HM.out.1, HM.out.2] at hS3
  obtain ⟨A3, c3, rfl⟩ := hS3.rowN (n := 64) (rootF_len _ _ _)
  have B3 := Aside0.mk (A1'.out.lift1 hS3)
  clear hS3
  refine hK.out _ _ ⟨(B3.out.at3.cell 0).trans rfl, (B3.out.at3.cell 1).trans rfl, (B3.out.at3.cell 2).trans rfl, (B3.out.at2.cell 0).trans rfl, (B3.out.at2.cell 1).trans rfl, (B3.out.at2.cell 2).trans rfl⟩ (fun hHeld => ?_)
  clear hK K
  refine norm_ (a' := ?_) ?_ ?_
  rotate_left
  · show Act.put _ (some 45) _ = _
    simp only [Act.put, List.setIfInBounds_toArray, List.set_cons_zero, List.set_cons_succ, i64_w, i32_w]
    rfl
  refine last_ (i := 3) (N := some 47) #[true, true, true, true, false, false] rfl rfl (by kernel_rfl) (by decide) (fun K hK => ?_)
  refine goes_ Try.func43 (by kernel_rfl) rfl #[.agg #[.int .i64 L, .int .i64 P, .int .u32 E2]] (by rfl) rfl rfl (by simp only [List.map_toArray, List.map_cons, List.map_nil]; rfl) ?_
  with_reducible refine (bytes_ L P E2 HEX.out.2.2 _).mono ?_
  rintro e w4 ⟨v4, rfl, hS4⟩
  refine ⟨_, rfl, ?_⟩
  rw [HM.out.1, HM.out.2] at hS4
  obtain ⟨A4, c4, rfl⟩ := hS4.rowN (n := 64) (rootF_len _ _ _)
  have B4 := Aside0.mk (B3.out.lift1 hS4)
  clear hS4
  refine hK.out _ _ ?_
  clear hK K
  refine norm_ (a' := ?_) ?_ ?_
  rotate_left
  · show Act.put _ (some 47) _ = _
    simp only [Act.put, List.setIfInBounds_toArray, List.set_cons_zero, List.set_cons_succ, i64_w, i32_w]
    rfl
  refine pure_ (i := 4) (N := some 15) (v := ?_) (a' := ?_) #[true, true, true, true, true, false] rfl rfl (by kernel_rfl) (fun _ _ _ h => h) (Or.inl ⟨by rfl, ?_⟩) ?_ ?_
  rotate_left
  · intro w'
    go_simp
    with_reducible rfl
  rotate_left
  · simp only [Act.put, List.setIfInBounds_toArray, List.set_cons_zero, List.set_cons_succ, i64_w, i32_w]
    rfl
  refine pure_ (i := 5) (N := some 16) (v := ?_) (a' := ?_) #[true, true, true, true, true, true] rfl rfl (by kernel_rfl) (fun _ _ _ h => h) (Or.inl ⟨by rfl, ?_⟩) ?_ ?_
  rotate_left
  · intro w'
    go_simp
    with_reducible rfl
  rotate_left
  · simp only [Act.put, List.setIfInBounds_toArray, List.set_cons_zero, List.set_cons_succ, i64_w, i32_w]
    rfl
  refine done_ (by kernel_rfl) ?_
  generalize hxx : rootF L P E1 = x at B4 HX hyr HT HZN HZ
  generalize hyy : rootF L P E2 = y at B4 HY
  clear hxx hyy
  go_wp2_with fail
  refine (read_ B4.out.at2.rowC' B4.out.at2.rowC.2.1 HX.out.2.2).mono ?_
  rintro e w5 ⟨rfl, hb5⟩
  rw [readV_some HX.out.1]
  have B5 := Aside0.mk ((B4.out.below hb5).newBlk 26 #[.int .i64 L, .int .i64 P, .int .u32 E1])
  clear hb5
  have a0 := (B5.out.cell 0).trans rfl
  have a1 := (B5.out.cell 1).trans rfl
  have a2 := (B5.out.cell 2).trans rfl
  have b0 := (B5.out.at5.cell 0).trans rfl
  have b1 := (B5.out.at5.cell 1).trans rfl
  have b2 := (B5.out.at5.cell 2).trans rfl
  have L6 := Aside0.mk (B5.out.litRow (enc := Value.int .u8) (h1 := fun _ => rfl) (e := 5) [] (by decide))
  rw [show ∀ o : Obj, (w5.alloc o).heap.size = w5.heap.size + 1 from fun o => by simp] at L6
  have HC6 : Aside0 (U8.C (w5.alloc (.cells #[.int .i64 L, .int .i64 P, .int .u32 E1] 26)) A3 64 x ∧ 64 ≤ c3) := ⟨B5.out.at3.rowC', B5.out.at3.rowC.2.1⟩
  go_wp2_with (first | (refine gate_builtin (b := .append) (xs := #[.tmp 70, .tmp 71]) rfl ?_; go_loud (refine L6.out.appendRow rfl (.tmp 70) (.tmp 71) 30 (.int .u8 0) 1 rfl Try.underlying30 Base.infoB rfl (by decide) A3 64 c3 rfl rfl (Kd.C_alloc HC6.out.1 _) (by have := HX.out.2.1; simp only [List.length_nil]; omega) ?_; intro v7 w7 hS7; rw [List.nil_append] at hS7; obtain ⟨g7, c7, rfl⟩ := hS7.rowFormN HX.out.2.1 (by decide); obtain ⟨e1, e2⟩ := hS7.rowCell (enc := Value.int .u8) 0 q hq64; have B7 := Aside0.mk hS7.drop2; clear hS7)))
  have B8 := Aside0.mk (B7.out.putRow (enc := Value.int .u8) q (Go.bits .xor .u8 (x.getD q 0) (Go.bits .or .u8 turn 1)))
  have HKJ2 : Aside0 (∀ zz : List Int, bestTo (30 : Nat) (secF 30 zz (putW 30 (putW 30 (fun _ => none) K x) J y)) 2 = (L, P, E2) ∧ bestTo (30 : Nat) (secF 30 zz (putW 30 (putW 30 (putW 30 (fun _ => none) K x) J y) J (x.set q (Go.bits .xor .u8 (x.getD q 0) (Go.bits .or .u8 turn 1))))) 2 = (L, P, E1)) :=
    ⟨fun zz => best_kj HKJ.out HX.out.2.1 HY.out.2.1 HZ.out.2 HX.out.1 HY.out.1 HZN.out HRX.out.1 HRX.out.2 HE.out.2.1 (by have := HE.out.1; omega)⟩
  generalize x.set q (Go.bits .xor .u8 (x.getD q 0) (Go.bits .or .u8 turn 1)) = z at B8 HKJ2 HZN HZ
  refine (read_ B8.out.rowC' B8.out.rowC.2.1 HZ.out.1).mono ?_
  rintro e w9 ⟨rfl, hb9⟩
  rw [readV_none HZN.out]
  have B9 := Aside0.mk ((B8.out.below hb9).newBlk 26 #[.int .i64 0, .int .i64 0, .int .u32 0])
  clear hb9 e1 e2 a0 a1 a2 b0 b1 b2
  go_wp2_with fail
  refine (new_ok (n := 30) (by decide) (by decide)).mono ?_
  rintro e w10 ⟨g, rfl, hS10⟩
  have B10 := Aside0.mk (B9.out.lift1 hS10)
  have HZL : Aside0 ((List.replicate (30 * 64) (0 : Int)).length = 64 * 30) := ⟨by rw [List.length_replicate]⟩
  have HZB : Aside0 (Bytes (List.replicate (30 * 64) (0 : Int))) := ⟨zeros_bytes _⟩
  clear hS10
  generalize List.replicate (30 * 64) (0 : Int) = zz at B10 HZL HZB
  have HL1 := Aside0.mk (putW_len (n := 30) (i := K) (b := x) Ref.none_len)
  have HB1 := Aside0.mk (putW_bytes (n := 30) (i := K) (b := x) (zeros_none (n := 30)) HX.out.2.2)
  have HL2 := Aside0.mk (putW_len (n := 30) (i := J) (b := y) HL1.out)
  have HB2 := Aside0.mk (putW_bytes (n := 30) (i := J) (b := y) HB1.out HY.out.2.2)
  have HL3 := Aside0.mk (putW_len (n := 30) (i := J) (b := z) HL2.out)
  have HB3 := Aside0.mk (putW_bytes (n := 30) (i := J) (b := z) HB2.out HZ.out.1)
  have HBA := Aside0.mk (HKJ2.out zz).1
  have HBC := Aside0.mk (HKJ2.out zz).2
  clear HKJ2
  go_wp2_with fail
  refine (dwrite_ B10.out HZL.out (by decide) K (b := x) (B10.out.tail.at4.rowC') (B10.out.tail.at4.rowC.2.1)).mono ?_
  rintro e w11 ⟨rfl, hS11⟩
  have B11 := Aside0.mk hS11
  clear hS11
  go_wp2_with fail
  refine (dwrite_ B11.out HZL.out (by decide) J (b := y) (B11.out.at4.rowC') (B11.out.at4.rowC.2.1)).mono ?_
  rintro e w12 ⟨rfl, hS12⟩
  have B12 := Aside0.mk hS12
  clear hS12
  go_wp2_with fail
  refine (best_ B12.out HZL.out (by decide) HL2.out (secF_bytes HZB.out HB2.out)).mono ?_
  rintro e w13 ⟨rfl, hS13⟩
  rw [HBA.out]
  rw [show rootV (L, P, E2) = .agg #[.int .i64 L, .int .i64 P, .int .u32 E2] from rfl, show decide ((0 : Int) < ((L, P, E2) : R3).2.2) = true from decide_eq_true (by show 0 < E2; have := HE.out; omega)]
  have B13 := Aside0.mk ((hS13.newBlk 26 #[.int .i64 L, .int .i64 P, .int .u32 E2]).at2)
  clear hS13
  go_wp2_with fail
  refine (dwrite_ B13.out HZL.out (by decide) J (b := z) (B13.out.at4.rowC') (B13.out.at4.rowC.2.1)).mono ?_
  rintro e w14 ⟨rfl, hS14⟩
  have B14 := Aside0.mk hS14
  clear hS14
  go_wp2_with fail
  refine (best_ B14.out HZL.out (by decide) HL3.out (secF_bytes HZB.out HB3.out)).mono ?_
  rintro e w15 ⟨rfl, hS15⟩
  rw [HBC.out]
  rw [show rootV (L, P, E1) = .agg #[.int .i64 L, .int .i64 P, .int .u32 E1] from rfl, show decide ((0 : Int) < ((L, P, E1) : R3).2.2) = true from decide_eq_true (by show 0 < E1; have := HE.out; omega)]
  have B15 := Aside0.mk (hS15.newBlk 26 #[.int .i64 L, .int .i64 P, .int .u32 E1])
  clear hS15
  have a0 := (B15.out.cell 0).trans rfl
  have a1 := (B15.out.cell 1).trans rfl
  have a2 := (B15.out.cell 2).trans rfl
  have b0 := (B15.out.at3.cell 0).trans rfl
  have b1 := (B15.out.at3.cell 1).trans rfl
  have b2 := (B15.out.at3.cell 2).trans rfl
  have c0 := (B15.out.tail.tail.tail.tail.at4.cell 0).trans rfl
  have c1 := (B15.out.tail.tail.tail.tail.at4.cell 1).trans rfl
  have c2 := (B15.out.tail.tail.tail.tail.at4.cell 2).trans rfl
  have d0 := (B15.out.tail.tail.tail.tail.at5.cell 0).trans rfl
  have d1 := (B15.out.tail.tail.tail.tail.at5.cell 1).trans rfl
  have d2 := (B15.out.tail.tail.tail.tail.at5.cell 2).trans rfl
  go_wp2_with fail
  refine (known_ _).mono ?_
  rintro e w16 ⟨rfl, hb16⟩
  have B16 := Aside0.mk (B15.out.below hb16)
  clear hb16 a0 a1 a2 b0 b1 b2 c0 c1 c2 d0 d1 d2
  go_wp2_with fail
  go_ret
  exact ⟨by first | rfl | (simp; done), B16.out.toBelow⟩
end Go.Proofs.Ytjngnigelkgekaa.Root
