/- Redo13, RootTells: what RedoNumbers needs. -/
import Derived.Test.YtjngnigelkgekaaTredoNumbers13
namespace Go.Proofs.Ytjngnigelkgekaa.Redo
set_option linter.unusedVariables false
set_option linter.unusedSimpArgs false
open Go.RowKit Go.Proofs.YtjngnigelkgekaaW.PrintWords Go.Proofs.YtjngnigelkgekaaW.PrintLast Go.Proofs.YtjngnigelkgekaaW.PrintMore Go.Proofs.Ytjngnigelkgekaa.Kit Go.Proofs.Ytjngnigelkgekaa.Plain Go.Proofs.Ytjngnigelkgekaa.Disk Go.Proofs.Ytjngnigelkgekaa.Root Go.Proofs.Ytjngnigelkgekaa.Frame
open Go.Proofs.Ytjngnigelkgekaa.Home (K2 RT pair16_)
open Go.Proofs.Ytjngnigelkgekaa.Delta (Chg KC deltaF rdelta_)
open Go.Proofs.Ytjngnigelkgekaa.Tape (Tp okN good)
theorem lg_u32 {i : Nat} (h : i ≤ 10) : IntKind.u32.wrap (i : Int) = (i : Int) ∧ IntKind.u32.wrap ((i : Int) + 1) = (i : Int) + 1 := ⟨by rw [IntKind.wrap_u32]; omega, by rw [IntKind.wrap_u32]; omega⟩
set_option maxHeartbeats 3200000 in
set_option maxRecDepth 100000 in
theorem logged_ {A : Option Addr} {n c0 : Nat} {L : List Int} {w : World} (ht : I64.C w A n L) (a c at_ turn : Int) (P : Nat) (hP : P ≤ 64) (hc : 0 ≤ c ∧ c ≤ 4294967295) (h0 : 0 ≤ turn ∧ turn ≤ 255) :
    Calls Try.prog 61 #[.slice A n c0, .agg #[.int .i64 a, .int .i64 (P : Int), .int .u32 c], .int .i64 at_, .int .u8 turn] w fun e w' => e = .returned (.bool true) ∧ Below w.heap.size w w' := by
  have HT := Aside0.mk ht
  have HC := Aside0.mk hc
  have HP := Aside0.mk hP
  have hmk : ∀ W : World, (Instr.makeSlice 30 (.int .i64 1920) (.int .i64 1920)).run Try.prog W = .ok (.slice (some ⟨W.heap.size, 0, none⟩) 1920 1920) (W.alloc (.cells (madeCells #[.int .u8 0] 1920) 5)) := make_ (m := 1920) (by omega)
  have M0 := Aside0.mk (((Sep.start w).newBlk 26 #[.int .i64 a, .int .i64 (P : Int), .int .u32 c]).newBlk 46 #[.slice A n c0, .int .i64 0])
  rw [show ∀ o : Obj, (w.alloc o).heap.size = w.heap.size + 1 from fun o => by simp] at M0
  have M1 := Aside0.mk (madeB 1920 (tpx_shut (Int.le_refl 0) M0.out) (by omega))
  rw [show ∀ o o2 : Obj, ((w.alloc o).alloc o2).heap.size = w.heap.size + 2 from fun o o2 => by simp] at M1
  have HZ : Aside0 ((List.replicate 1920 (0 : Int)).length = 64 * 30 ∧ Bytes (List.replicate 1920 (0 : Int))) := ⟨List.length_replicate, zeros_bytes 1920⟩
  clear ht hc hP
  generalize List.replicate 1920 (0 : Int) = zz at M1 HZ
  go_enter Try.func61, Try.ntmps61
  go_wp2_with fail
  refine (pair16_ (n := 30) (l := zz) (m := 1920) (c := 1920) (A := some ⟨w.heap.size + 2, 0, none⟩) (by have h := M1.out.rowC.2.2; rwa [HZ.out.1] at h) (by decide) (by decide) (by decide) (by decide)).mono ?_
  rintro e w2 ⟨g, gr, rfl, hS2⟩
  have B2 : Aside0 (Sep w w2 (Row U8 5 (.slice none 0 0) [] :: TpX (w.heap.size + 1) A n c0 :: Dsk g zz (fun _ => none) :: RT gr 30 zz (fun _ => none) 0 :: Blk w.heap.size 26 #[.int .i64 a, .int .i64 (P : Int), .int .u32 c] :: [Row U8 5 (.slice (some ⟨w.heap.size + 2, 0, none⟩) 1920 1920) zz])) := ⟨by
    have h := M1.out.lift hS2
    exact ((h.at4.perm (.cons _ (.cons _ (.cons _ (.swap _ _ _))))).nilRow U8 5)⟩
  clear hS2 hmk
  go_wp2_with fail
  go_loopg [12, 13] 5 (fun k_ v p wr => ∃ (i : Nat) (bs : List Int), p = .int .u32 (i : Int) ∧ i + k_ = 5 ∧ Bytes bs ∧ bs.length ≤ i * (18 + 66 * P) ∧ Sep w wr (Row U8 5 v bs :: TpX (w.heap.size + 1) A n c0 :: Dsk g zz (fun _ => none) :: RT gr 30 zz (fun _ => none) 0 :: Blk w.heap.size 26 #[.int .i64 a, .int .i64 (P : Int), .int .u32 c] :: [Row U8 5 (.slice (some ⟨w.heap.size + 2, 0, none⟩) 1920 1920) zz]))
  case atStart => exact ⟨0, [], rfl, by omega, Bytes.nil, by simp, B2.out⟩
  case round =>
    obtain ⟨i, bs, rfl, hik, hbs, hbl, hS⟩ := hrel
    obtain ⟨w1, rfl⟩ : ∃ x, x = wr := ⟨_, rfl⟩
    have AK := Aside0.mk (And.intro hik hbl)
    have AS := Aside0.mk hS
    have HBS := Aside0.mk hbs
    obtain ⟨N, hN⟩ : ∃ N, bs.length = N := ⟨_, rfl⟩
    have HN := Aside0.mk hN
    obtain ⟨A3, c3, rfl⟩ := hS.rowN hN
    obtain ⟨hu1, hu2⟩ := lg_u32 (i := i) (by omega)
    clear hS hbs hN hbl hik
    go_wp2_with fail
    refine (nextX_ HT.out AS.out.at2 6).mono ?_
    rintro e w3 ⟨r, rfl, ho, hS3⟩
    have hr1 : 0 ≤ r ∧ r < 6 := ⟨ho.1, ho.2.1 (by decide)⟩
    have hur : IntKind.u32.wrap r = r := by rw [IntKind.wrap_u32]; omega
    have B3 := Aside0.mk hS3.at2
    clear hS3 ho
    by_cases hir : (i : Int) < r
    case pos =>
      have hird : decide ((i : Int) < r) = true := decide_eq_true hir
      have AI := Aside0.mk (show i < 5 by omega)
      have BD := Aside0.mk B3.out.drew
      clear hr1
      go_wp2_with fail
      refine start_ (n := 12) (S := fun w' => w'.cell? ⟨w.heap.size, 1, none⟩ = some (.int .i64 (P : Int)) ∧ w'.cell? ⟨w.heap.size, 2, none⟩ = some (.int .u32 c)) (ds := [10]) #[false, false, false, false, false, false, false, false, false, false, false, false] (by kernel_rfl) rfl rfl ⟨(BD.out.at5.cell 1).trans rfl, (BD.out.at5.cell 2).trans rfl⟩ (fun hHeld => ?_)
      refine pure_ (i := 0) (N := some 35) (v := ?_) (a' := ?_) #[true, false, false, false, false, false, false, false, false, false, false, false] rfl rfl (by kernel_rfl) (fun _ _ _ h => h) (Or.inl ⟨by rfl, ?_⟩) ?_ ?_
      rotate_left
      · intro w'
        go_simp
        with_reducible rfl
      rotate_left
      · simp only [Act.put, List.setIfInBounds_toArray, List.set_cons_zero, List.set_cons_succ, i64_w, i32_w]
        rfl
      refine pure_ (i := 1) (N := some 36) (v := ?_) (a' := ?_) #[true, true, false, false, false, false, false, false, false, false, false, false] rfl rfl (by kernel_rfl) (fun _ _ _ h => h) (Or.inl ⟨by rfl, ?_⟩) ?_ ?_
      rotate_left
      · intro w'
        go_simp
        with_reducible rfl
      rotate_left
      · simp only [Act.put, List.setIfInBounds_toArray, List.set_cons_zero, List.set_cons_succ, i64_w, i32_w]
        rfl
      refine pure_ (i := 3) (N := some 38) (v := ?_) (a' := ?_) #[true, true, false, true, false, false, false, false, false, false, false, false] rfl rfl (by kernel_rfl) (fun _ _ _ h => h) (Or.inl ⟨by rfl, ?_⟩) ?_ ?_
      rotate_left
      · intro w'
        go_simp
        with_reducible rfl
      rotate_left
      · simp only [Act.put, List.setIfInBounds_toArray, List.set_cons_zero, List.set_cons_succ, i64_w, i32_w]
        rfl
      refine pure_ (i := 4) (N := some 39) (v := ?_) (a' := ?_) #[true, true, false, true, true, false, false, false, false, false, false, false] rfl rfl (by kernel_rfl) (fun _ _ _ h => h) (Or.inl ⟨by rfl, ?_⟩) ?_ ?_
      rotate_left
      · intro w'
        go_simp
        with_reducible rfl
      rotate_left
      · simp only [Act.put, List.setIfInBounds_toArray, List.set_cons_zero, List.set_cons_succ, i64_w, i32_w]
        rfl
      refine pure_ (i := 5) (N := some 40) (v := ?_) (a' := ?_) #[true, true, false, true, true, true, false, false, false, false, false, false] rfl rfl (by kernel_rfl) (fun _ _ _ h => h) (Or.inl ⟨by rfl, ?_⟩) ?_ ?_
      rotate_left
      · intro w'
        go_simp
        with_reducible rfl
      rotate_left
      · simp only [Act.put, List.setIfInBounds_toArray, List.set_cons_zero, List.set_cons_succ, i64_w, i32_w]
        rfl
      refine take_ (i := 2) (N := some 37) (v := ?_) (a' := ?_) #[true, true, true, true, true, true, false, false, false, false, false, false] rfl rfl (by kernel_rfl) (fun _ _ _ h => h) (Or.inl ⟨by rfl, ?_⟩) hHeld ?_ ?_
      rotate_left
      · rintro w' ⟨s0, s1⟩
        go_simp
        with_reducible rfl
      rotate_left
      · simp only [Act.put, List.setIfInBounds_toArray, List.set_cons_zero, List.set_cons_succ, i64_w, i32_w]
        rfl
      refine take_ (i := 6) (N := some 41) (v := ?_) (a' := ?_) #[true, true, true, true, true, true, true, false, false, false, false, false] rfl rfl (by kernel_rfl) (fun _ _ _ h => h) (Or.inl ⟨by rfl, ?_⟩) hHeld ?_ ?_
      rotate_left
      · rintro w' ⟨s0, s1⟩
        go_simp
        with_reducible rfl
      rotate_left
      · simp only [Act.put, List.setIfInBounds_toArray, List.set_cons_zero, List.set_cons_succ, i64_w, i32_w]
        rfl
      refine one_ (i := 7) (N := some 42) #[true, true, true, true, true, true, true, true, false, false, false, false] rfl rfl (by kernel_rfl) (by decide) (fun K hK => ?_)
      refine goes_ Try.func28 (by kernel_rfl) rfl #[.pointer (some ⟨w.heap.size + 1, 0, none⟩), .int .i64 (P : Int)] (by rfl) rfl rfl (by simp only [List.map_toArray, List.map_cons, List.map_nil]; rfl) ?_
      with_reducible refine (changesX_ HT.out BD.out.at2 P (by have := HP.out; omega)).mono ?_
      rintro e w4 ⟨v4, l4, rfl, hg4, hS4⟩
      refine ⟨_, rfl, ?_⟩
      have HG := Aside0.mk (delta_good hg4)
      obtain ⟨K4, hK4⟩ : ∃ K, l4.length = K := ⟨_, rfl⟩
      obtain ⟨A4, c4, rfl⟩ := hS4.rowN hK4
      have B4 := Aside0.mk hS4
      clear hS4 hg4 hK4
      refine hK.out _ _ ⟨((at6 B4.out).cell 1).trans rfl, ((at6 B4.out).cell 2).trans rfl⟩ (fun hHeld => ?_)
      clear hK K
      refine norm_ (a' := ?_) ?_ ?_
      rotate_left
      · show Act.put _ (some 42) _ = _
        simp only [Act.put, List.setIfInBounds_toArray, List.set_cons_zero, List.set_cons_succ, i64_w, i32_w]
        rfl
      refine one_ (i := 8) (N := some 43) #[true, true, true, true, true, true, true, true, true, false, false, false] rfl rfl (by kernel_rfl) (by decide) (fun K hK => ?_)
      refine goes_ Try.func111 (by kernel_rfl) rfl #[.slice A4 K4 c4] (by rfl) rfl rfl (by simp only [List.map_toArray, List.map_cons, List.map_nil]; rfl) ?_
      with_reducible refine (rdelta_ B4.out.rowC' (by have := HG.out.2; have := HP.out; omega)).mono ?_
      rintro e w5 ⟨v5, rfl, hS5⟩
      refine ⟨_, rfl, ?_⟩
      obtain ⟨K5, hK5⟩ : ∃ K, (deltaF l4).length = K := ⟨_, rfl⟩
      have HK5 : Aside0 (K5 ≤ 2 + 66 * P) := ⟨by rw [← hK5]; exact HG.out.2⟩
      have HK5E := Aside0.mk hK5
      obtain ⟨A5, c5, rfl⟩ := hS5.rowN hK5
      have B5 := Aside0.mk (B4.out.tail.lift1 hS5)
      clear hS5 hK5
      refine hK.out _ _ ⟨((at6 B5.out).cell 1).trans rfl, ((at6 B5.out).cell 2).trans rfl⟩ (fun hHeld => ?_)
      clear hK K
      refine norm_ (a' := ?_) ?_ ?_
      rotate_left
      · show Act.put _ (some 43) _ = _
        simp only [Act.put, List.setIfInBounds_toArray, List.set_cons_zero, List.set_cons_succ, i64_w, i32_w]
        rfl
      refine one_ (i := 9) (N := some 44) #[true, true, true, true, true, true, true, true, true, true, false, false] rfl rfl (by kernel_rfl) (by decide) (fun K hK => ?_)
      refine goes_ Try.func110 (by kernel_rfl) rfl #[.int .u32 c, .int .u32 (i : Int), .slice A5 K5 c5] (by rfl) rfl rfl (by simp only [List.map_toArray, List.map_cons, List.map_nil]; rfl) ?_
      with_reducible refine (rframe_ B5.out.rowC' (by have := HK5.out; have := HP.out; omega) HC.out (by have := AI.out; omega)).mono ?_
      rintro e w6 ⟨v6, rfl, hS6⟩
      refine ⟨_, rfl, ?_⟩
      obtain ⟨K6, hK6⟩ : ∃ K, (frameF c (i : Int) (deltaF l4)).length = K := ⟨_, rfl⟩
      have HK6 : Aside0 (K6 ≤ 18 + 66 * P) := ⟨by rw [← hK6, frameF_len, HK5E.out]; have := HK5.out; omega⟩
      have HK6E := Aside0.mk hK6
      have HBF := Aside0.mk (frameF_bytes c (i : Int) HG.out.1)
      obtain ⟨A6, c6, rfl⟩ := hS6.rowN hK6
      have B6 := Aside0.mk (B5.out.tail.lift1 hS6)
      have B6' := Aside0.mk B6.out.at3
      clear hS6 hK6
      refine hK.out _ _ ⟨((at6 B6.out).cell 1).trans rfl, ((at6 B6.out).cell 2).trans rfl⟩ (fun hHeld => ?_)
      clear hK K
      refine norm_ (a' := ?_) ?_ ?_
      rotate_left
      · show Act.put _ (some 44) _ = _
        simp only [Act.put, List.setIfInBounds_toArray, List.set_cons_zero, List.set_cons_succ, i64_w, i32_w]
        rfl
      refine last_ (i := 10) (N := some 45) #[true, true, true, true, true, true, true, true, true, true, true, false] rfl rfl (by kernel_rfl) (by decide) (fun K hK => ?_)
      refine B6'.out.appendStep (by rfl) (.tmp 35) (.tmp 44) 30 (.int .u8 0) 1 rfl Try.underlying30 Base.infoB rfl (by decide) A6 K6 c6 (by rfl) (by rfl) B6.out.rowC' (by have := HK6.out; have := AK.out; have := HN.out; have := HP.out; have := AI.out; rw [HN.out, HK6E.out]; have h5 : i * (18 + 66 * P) ≤ 5 * (18 + 66 * P) := Nat.mul_le_mul_right _ (by omega); omega) ?_
      intro v7 w7 hS7
      have B7 := Aside0.mk hS7.drop2
      clear hS7
      refine hK.out _ _ ?_
      clear hK K
      refine norm_ (a' := ?_) ?_ ?_
      rotate_left
      · show Act.put _ (some 45) _ = _
        simp only [Act.put, List.setIfInBounds_toArray, List.set_cons_zero, List.set_cons_succ, i64_w, i32_w]
        rfl
      refine pure_ (i := 11) (N := some 12) (v := ?_) (a' := ?_) #[true, true, true, true, true, true, true, true, true, true, true, true] rfl rfl (by kernel_rfl) (fun _ _ _ h => h) (Or.inl ⟨by rfl, ?_⟩) ?_ ?_
      rotate_left
      · intro w'
        go_simp
        with_reducible rfl
      rotate_left
      · simp only [Act.put, List.setIfInBounds_toArray, List.set_cons_zero, List.set_cons_succ, i64_w, i32_w]
        rfl
      refine done_ (by kernel_rfl) ?_
      go_wp2_with fail
      go_roundg (gk - 1)
      case measure => have := AK.out.1; have := AI.out; omega
      case rel => exact ⟨i + 1, _, by go_num, by have := AK.out.1; have := AI.out; omega, HBS.out.app HBF.out, by rw [List.length_append, HK6E.out]; have h6 := HK6.out; have h7 := AK.out.2; rw [Nat.succ_mul]; omega, B7.out⟩
    case neg =>
    have hird : decide ((i : Int) < r) = false := decide_eq_false hir
    clear hr1
    have HNB : Aside0 (N ≤ 21210) := ⟨by have h1 := AK.out; have h2 := HN.out; have h3 := HP.out; have h5 : i * (18 + 66 * P) ≤ 5 * (18 + 66 * P) := Nat.mul_le_mul_right _ (by omega); omega⟩
    go_wp2_with fail
    refine (nextX_ HT.out B3.out.at2 3).mono ?_
    rintro e w4 ⟨r3, rfl, ho3, hS4⟩
    have B4 := Aside0.mk hS4
    clear hS4 ho3
    go_upto_if 48 with fail
    go_cut [12] from 14 to 58 (fun v wx => ∃ bs, Bytes bs ∧ bs.length ≤ 30000 ∧ Sep w wx (Row U8 5 v bs :: TpX (w.heap.size + 1) A n c0 :: Dsk g zz (fun _ => none) :: RT gr 30 zz (fun _ => none) 0 :: Blk w.heap.size 26 #[.int .i64 a, .int .i64 (P : Int), .int .u32 c] :: [Row U8 5 (.slice (some ⟨w.heap.size + 2, 0, none⟩) 1920 1920) zz]))
    case first =>
      by_cases hr3 : r3 = 0
      case neg =>
        have hr3d : (r3 == 0) = false := by simpa using hr3
        go_wp2_with fail
        go_meet
        case rel => exact ⟨bs, HBS.out, by rw [HN.out]; have := HNB.out; omega, B4.out.at2⟩
      case pos =>
      subst hr3
      have BD := Aside0.mk B4.out.drew
      go_wp2_with fail
      refine start_ (n := 11) (S := fun w' => w'.cell? ⟨w.heap.size, 2, none⟩ = some (.int .u32 c)) (ds := [8, 9]) #[false, false, false, false, false, false, false, false, false, false, false] (by kernel_rfl) rfl rfl ((BD.out.at5.cell 2).trans rfl) (fun hHeld => ?_)
      refine pure_ (i := 0) (N := some 49) (v := ?_) (a' := ?_) #[true, false, false, false, false, false, false, false, false, false, false] rfl rfl (by kernel_rfl) (fun _ _ _ h => h) (Or.inl ⟨by rfl, ?_⟩) ?_ ?_
      rotate_left
      · intro w'
        go_simp
        with_reducible rfl
      rotate_left
      · simp only [Act.put, List.setIfInBounds_toArray, List.set_cons_zero, List.set_cons_succ, i64_w, i32_w]
        rfl
      refine pure_ (i := 1) (N := some 50) (v := ?_) (a' := ?_) #[true, true, false, false, false, false, false, false, false, false, false] rfl rfl (by kernel_rfl) (fun _ _ _ h => h) (Or.inl ⟨by rfl, ?_⟩) ?_ ?_
      rotate_left
      · intro w'
        go_simp
        with_reducible rfl
      rotate_left
      · simp only [Act.put, List.setIfInBounds_toArray, List.set_cons_zero, List.set_cons_succ, i64_w, i32_w]
        rfl
      refine pure_ (i := 3) (N := some 52) (v := ?_) (a' := ?_) #[true, true, false, true, false, false, false, false, false, false, false] rfl rfl (by kernel_rfl) (fun _ _ _ h => h) (Or.inl ⟨by rfl, ?_⟩) ?_ ?_
      rotate_left
      · intro w'
        go_simp
        with_reducible rfl
      rotate_left
      · simp only [Act.put, List.setIfInBounds_toArray, List.set_cons_zero, List.set_cons_succ, i64_w, i32_w]
        rfl
      refine take_ (i := 2) (N := some 51) (v := ?_) (a' := ?_) #[true, true, true, true, false, false, false, false, false, false, false] rfl rfl (by kernel_rfl) (fun _ _ _ h => h) (Or.inl ⟨by rfl, ?_⟩) hHeld ?_ ?_
      rotate_left
      · intro w' s0
        go_simp
        with_reducible rfl
      rotate_left
      · simp only [Act.put, List.setIfInBounds_toArray, List.set_cons_zero, List.set_cons_succ, i64_w, i32_w]
        rfl
      refine join_ (σ := Int × Nat × Nat) 3 #[true, true, true, true, true, true, true, true, false, false, false] (fun s_ => [(53, .int .i64 s_.1), (55, .slice (some ⟨s_.2.1, 0, none⟩) 10 10), (56, .slice (some ⟨s_.2.2, 0, none⟩) 10 10), (54, .int .u32 (IntKind.u32.wrap s_.1))]) (fun s_ w' => (w'.cell? ⟨w.heap.size, 2, none⟩ = some (.int .u32 c)) ∧ Sep w w' ((Pu ((s_.1) = (s_.1))) :: (Fx (fun W' => (Kd.int .u8).C W' (some ⟨(s_.2.2), 0, none⟩) 10 nc)) :: (TpX (w.heap.size + 1) A n c0 :: Row U8 5 (.slice A3 N c3) bs :: Dsk g zz (fun _ => none) :: RT gr 30 zz (fun _ => none) 0 :: Blk w.heap.size 26 #[.int .i64 a, .int .i64 (P : Int), .int .u32 c] :: [Row U8 5 (.slice (some ⟨w.heap.size + 2, 0, none⟩) 1920 1920) zz]))) ?_ ?_
      rotate_left
      · intro hJ4_6_7
        refine join_ (σ := Int × Nat) 4 #[true, true, true, true, true, true, true, false, false, false, false] (fun s_ => [(53, .int .i64 s_.1), (55, .slice (some ⟨s_.2, 0, none⟩) 10 10), (54, .int .u32 (IntKind.u32.wrap s_.1))]) (fun s_ w' => (w'.cell? ⟨w.heap.size, 2, none⟩ = some (.int .u32 c)) ∧ Sep w w' ((Pu ((s_.1) = (s_.1))) :: (Blk (s_.2) 5 #[.int .u8 110, .int .u8 111, .int .u8 32, .int .u8 99, .int .u8 104, .int .u8 97, .int .u8 110, .int .u8 103, .int .u8 101, .int .u8 115]) :: (TpX (w.heap.size + 1) A n c0 :: Row U8 5 (.slice A3 N c3) bs :: Dsk g zz (fun _ => none) :: RT gr 30 zz (fun _ => none) 0 :: Blk w.heap.size 26 #[.int .i64 a, .int .i64 (P : Int), .int .u32 c] :: [Row U8 5 (.slice (some ⟨w.heap.size + 2, 0, none⟩) 1920 1920) zz]))) ?_ ?_
        rotate_left
        · intro hJ4_6
          refine join_ (σ := Nat × Nat) 5 #[true, true, true, true, false, false, true, true, false, false, false] (fun s_ => [(55, .slice (some ⟨s_.1, 0, none⟩) 10 10), (56, .slice (some ⟨s_.2, 0, none⟩) 10 10)]) (fun s_ w' => (w'.cell? ⟨w.heap.size, 2, none⟩ = some (.int .u32 c)) ∧ Sep w w' ((Fx (fun W' => (Kd.int .u8).C W' (some ⟨(s_.2), 0, none⟩) 10 nc)) :: (TpX (w.heap.size + 1) A n c0 :: Row U8 5 (.slice A3 N c3) bs :: Dsk g zz (fun _ => none) :: RT gr 30 zz (fun _ => none) 0 :: Blk w.heap.size 26 #[.int .i64 a, .int .i64 (P : Int), .int .u32 c] :: [Row U8 5 (.slice (some ⟨w.heap.size + 2, 0, none⟩) 1920 1920) zz]))) ?_ ?_
          rotate_left
          · intro hJ6_7
            refine join_ (σ := Int) 5 #[true, true, true, true, true, true, false, false, false, false, false] (fun s_ => [(53, .int .i64 s_), (54, .int .u32 (IntKind.u32.wrap s_))]) (fun s_ w' => (w'.cell? ⟨w.heap.size, 2, none⟩ = some (.int .u32 c)) ∧ Sep w w' ((Pu ((s_) = (s_))) :: (TpX (w.heap.size + 1) A n c0 :: Row U8 5 (.slice A3 N c3) bs :: Dsk g zz (fun _ => none) :: RT gr 30 zz (fun _ => none) 0 :: Blk w.heap.size 26 #[.int .i64 a, .int .i64 (P : Int), .int .u32 c] :: [Row U8 5 (.slice (some ⟨w.heap.size + 2, 0, none⟩) 1920 1920) zz]))) ?_ ?_
            rotate_left
            · intro hJ4
              refine join_ (σ := Nat) 6 #[true, true, true, true, false, false, true, false, false, false, false] (fun s_ => [(55, .slice (some ⟨s_, 0, none⟩) 10 10)]) (fun s_ w' => (w'.cell? ⟨w.heap.size, 2, none⟩ = some (.int .u32 c)) ∧ Sep w w' ((Blk (s_) 5 #[.int .u8 110, .int .u8 111, .int .u8 32, .int .u8 99, .int .u8 104, .int .u8 97, .int .u8 110, .int .u8 103, .int .u8 101, .int .u8 115]) :: (TpX (w.heap.size + 1) A n c0 :: Row U8 5 (.slice A3 N c3) bs :: Dsk g zz (fun _ => none) :: RT gr 30 zz (fun _ => none) 0 :: Blk w.heap.size 26 #[.int .i64 a, .int .i64 (P : Int), .int .u32 c] :: [Row U8 5 (.slice (some ⟨w.heap.size + 2, 0, none⟩) 1920 1920) zz]))) ?_ ?_
              rotate_left
              · intro hJ6
                refine two_ (i := 4) (j := 6) (Ni := some 53) (Nj := some 55) #[true, true, true, true, true, false, false, false, false, false, false] #[true, true, true, true, false, false, true, false, false, false, false] rfl rfl rfl rfl (by kernel_rfl) (by decide) (by decide) (fun K hK => ?_) (fun K hK => ?_)
                · skip
                  refine goes_ Try.func70 (by kernel_rfl) rfl #[.pointer (some ⟨w.heap.size + 1, 0, none⟩), .int .i64 4] (by rfl) rfl rfl (by simp only [List.map_toArray, List.map_cons, List.map_nil]; rfl) ?_
                  with_reducible refine (nextQ_ (w0 := w) (A := A) (n := n) (c := c0) HT.out (by first | exact (BD.out) | exact (BD.out).at2) 4).mono ?_
                  rintro e wn_ ⟨vn_, rfl, hS_⟩
                  refine ⟨_, rfl, ?_⟩
                  first | (have hN : Sep w wn_ (Pu (vn_ = vn_) :: TpX (w.heap.size + 1) A n c0 :: Row U8 5 (.slice A3 N c3) bs :: _) := hS_.unpu rfl) | (have hN := hS_.at2.unpu (rfl : vn_ = vn_))
                  clear hS_
                  refine hK.out _ _ (((hN.tail).at5.cell 2).trans rfl) (fun hHeld => ?_)
                  clear hK K
                  refine norm_ (a' := ?_) ?_ ?_
                  rotate_left
                  · show Act.put _ (some 53) _ = _
                    simp only [Act.put, List.setIfInBounds_toArray, List.set_cons_zero, List.set_cons_succ, i64_w, i32_w]
                    rfl
                  refine pure_ (i := 5) (N := some 54) (v := ?_) (a' := ?_) #[true, true, true, true, true, true, false, false, false, false, false] rfl rfl (by kernel_rfl) (fun _ _ _ h => h) (Or.inl ⟨by rfl, ?_⟩) ?_ ?_
                  rotate_left
                  · intro w'
                    go_simp
                    with_reducible rfl
                  rotate_left
                  · simp only [Act.put, List.setIfInBounds_toArray, List.set_cons_zero, List.set_cons_succ, i64_w, i32_w]
                    rfl
                  exact norm_ (by first | (simp only [putAll, Act.put, List.setIfInBounds_toArray, List.set_cons_zero, List.set_cons_succ]; done) | (simp only [putAll, Act.put, List.setIfInBounds_toArray, List.set_cons_zero, List.set_cons_succ]; rfl)) (hJ4 vn_ _ ⟨hHeld, hN⟩)
                · skip
                  refine value_ (w1 := ?_) (v := ?_) (by rfl) rfl ?_ ?_
                  rotate_left 2
                  · go_simp
                    constructor
                    · rfl
                    · rfl
                  have hN := (BD.out).newBlk 5 #[.int .u8 110, .int .u8 111, .int .u8 32, .int .u8 99, .int .u8 104, .int .u8 97, .int .u8 110, .int .u8 103, .int .u8 101, .int .u8 115]
                  refine hK.out _ _ (((hN.tail).at5.cell 2).trans rfl) (fun hHeld => ?_)
                  clear hK K
                  refine norm_ (a' := ?_) ?_ ?_
                  rotate_left
                  · show Act.put _ (some 55) _ = _
                    simp only [Act.put, List.setIfInBounds_toArray, List.set_cons_zero, List.set_cons_succ, i64_w, i32_w]
                    rfl
                  exact norm_ (by first | (simp only [putAll, Act.put, List.setIfInBounds_toArray, List.set_cons_zero, List.set_cons_succ]; done) | (simp only [putAll, Act.put, List.setIfInBounds_toArray, List.set_cons_zero, List.set_cons_succ]; rfl)) (hJ6 (w4.drew).heap.size _ ⟨hHeld, hN⟩)
              · skip
                rintro v6_ W_ ⟨hS_, hQ_⟩
                have hSep : Aside0 (Sep w W_ ((Blk (v6_) 5 #[.int .u8 110, .int .u8 111, .int .u8 32, .int .u8 99, .int .u8 104, .int .u8 97, .int .u8 110, .int .u8 103, .int .u8 101, .int .u8 115]) :: (TpX (w.heap.size + 1) A n c0 :: Row U8 5 (.slice A3 N c3) bs :: Dsk g zz (fun _ => none) :: RT gr 30 zz (fun _ => none) 0 :: Blk w.heap.size 26 #[.int .i64 a, .int .i64 (P : Int), .int .u32 c] :: [Row U8 5 (.slice (some ⟨w.heap.size + 2, 0, none⟩) 1920 1920) zz]))) := ⟨hQ_⟩
                clear hQ_
                have hHeld : W_.cell? ⟨w.heap.size, 2, none⟩ = some (.int .u32 c) := hS_
                refine norm_ (a' := ?_) ?_ ?_
                rotate_left
                · simp only [putAll, Act.put, List.setIfInBounds_toArray, List.set_cons_zero, List.set_cons_succ]
                  rfl
                refine two_ (i := 4) (j := 7) (Ni := some 53) (Nj := some 56) #[true, true, true, true, true, false, true, false, false, false, false] #[true, true, true, true, false, false, true, true, false, false, false] rfl rfl rfl rfl (by kernel_rfl) (by decide) (by decide) (fun K hK => ?_) (fun K hK => ?_)
                · skip
                  refine goes_ Try.func70 (by kernel_rfl) rfl #[.pointer (some ⟨w.heap.size + 1, 0, none⟩), .int .i64 4] (by rfl) rfl rfl (by simp only [List.map_toArray, List.map_cons, List.map_nil]; rfl) ?_
                  with_reducible refine (nextQ_ (w0 := w) (A := A) (n := n) (c := c0) HT.out (by first | exact (hSep.out) | exact (hSep.out).at2) 4).mono ?_
                  rintro e wn_ ⟨vn_, rfl, hS_⟩
                  refine ⟨_, rfl, ?_⟩
                  first | (have hN : Sep w wn_ (Pu (vn_ = vn_) :: TpX (w.heap.size + 1) A n c0 :: Row U8 5 (.slice A3 N c3) bs :: _) := hS_.unpu rfl) | (have hN := hS_.at2.unpu (rfl : vn_ = vn_))
                  clear hS_
                  refine hK.out _ _ (((hN.tail.tail).at5.cell 2).trans rfl) (fun hHeld => ?_)
                  clear hK K
                  refine norm_ (a' := ?_) ?_ ?_
                  rotate_left
                  · show Act.put _ (some 53) _ = _
                    simp only [Act.put, List.setIfInBounds_toArray, List.set_cons_zero, List.set_cons_succ, i64_w, i32_w]
                    rfl
                  refine pure_ (i := 5) (N := some 54) (v := ?_) (a' := ?_) #[true, true, true, true, true, true, true, false, false, false, false] rfl rfl (by kernel_rfl) (fun _ _ _ h => h) (Or.inl ⟨by rfl, ?_⟩) ?_ ?_
                  rotate_left
                  · intro w'
                    go_simp
                    with_reducible rfl
                  rotate_left
                  · simp only [Act.put, List.setIfInBounds_toArray, List.set_cons_zero, List.set_cons_succ, i64_w, i32_w]
                    rfl
                  exact norm_ (by first | (simp only [putAll, Act.put, List.setIfInBounds_toArray, List.set_cons_zero, List.set_cons_succ]; done) | (simp only [putAll, Act.put, List.setIfInBounds_toArray, List.set_cons_zero, List.set_cons_succ]; rfl)) (hJ4_6 (vn_, v6_) _ ⟨hHeld, hN⟩)
                · skip
                  obtain ⟨W2_, hr_, hN_⟩ := freezeRun (m := 10) (k := 10) (xs := nc) ((hSep.out)) rfl (by decide)
                  refine value_ (w1 := ?_) (v := ?_) (by rfl) rfl ?_ ?_
                  rotate_left 2
                  · go_simp
                    constructor
                    · rfl
                    · rfl
                  have hN := hN_
                  refine hK.out _ _ (((hN.tail).at5.cell 2).trans rfl) (fun hHeld => ?_)
                  clear hK K
                  refine norm_ (a' := ?_) ?_ ?_
                  rotate_left
                  · show Act.put _ (some 56) _ = _
                    simp only [Act.put, List.setIfInBounds_toArray, List.set_cons_zero, List.set_cons_succ, i64_w, i32_w]
                    rfl
                  exact norm_ (by first | (simp only [putAll, Act.put, List.setIfInBounds_toArray, List.set_cons_zero, List.set_cons_succ]; done) | (simp only [putAll, Act.put, List.setIfInBounds_toArray, List.set_cons_zero, List.set_cons_succ]; rfl)) (hJ6_7 (v6_, v6_) _ ⟨hHeld, hN⟩)
            · skip
              rintro v4_ W_ ⟨hS_, hQ_⟩
              have hSep : Aside0 (Sep w W_ ((Pu ((v4_) = (v4_))) :: (TpX (w.heap.size + 1) A n c0 :: Row U8 5 (.slice A3 N c3) bs :: Dsk g zz (fun _ => none) :: RT gr 30 zz (fun _ => none) 0 :: Blk w.heap.size 26 #[.int .i64 a, .int .i64 (P : Int), .int .u32 c] :: [Row U8 5 (.slice (some ⟨w.heap.size + 2, 0, none⟩) 1920 1920) zz]))) := ⟨hQ_⟩
              clear hQ_
              have hHeld : W_.cell? ⟨w.heap.size, 2, none⟩ = some (.int .u32 c) := hS_
              refine norm_ (a' := ?_) ?_ ?_
              rotate_left
              · simp only [putAll, Act.put, List.setIfInBounds_toArray, List.set_cons_zero, List.set_cons_succ]
                rfl
              refine one_ (i := 6) (N := some 55) #[true, true, true, true, true, true, true, false, false, false, false] rfl rfl (by kernel_rfl) (by decide) (fun K hK => ?_)
              refine value_ (w1 := ?_) (v := ?_) (by rfl) rfl ?_ ?_
              rotate_left 2
              · go_simp
                constructor
                · rfl
                · rfl
              have hN := (hSep.out).newBlk 5 #[.int .u8 110, .int .u8 111, .int .u8 32, .int .u8 99, .int .u8 104, .int .u8 97, .int .u8 110, .int .u8 103, .int .u8 101, .int .u8 115]
              refine hK.out _ _ (((hN.tail.tail).at5.cell 2).trans rfl) (fun hHeld => ?_)
              clear hK K
              refine norm_ (a' := ?_) ?_ ?_
              rotate_left
              · show Act.put _ (some 55) _ = _
                simp only [Act.put, List.setIfInBounds_toArray, List.set_cons_zero, List.set_cons_succ, i64_w, i32_w]
                rfl
              exact norm_ (by first | (simp only [putAll, Act.put, List.setIfInBounds_toArray, List.set_cons_zero, List.set_cons_succ]; done) | (simp only [putAll, Act.put, List.setIfInBounds_toArray, List.set_cons_zero, List.set_cons_succ]; rfl)) (hJ4_6 (v4_, (W_).heap.size) _ ⟨hHeld, hN.at2⟩)
          · skip
            rintro ⟨v6_, v7_⟩ W_ ⟨hS_, hQ_⟩
            have hSep : Aside0 (Sep w W_ ((Fx (fun W' => (Kd.int .u8).C W' (some ⟨(v7_), 0, none⟩) 10 nc)) :: (TpX (w.heap.size + 1) A n c0 :: Row U8 5 (.slice A3 N c3) bs :: Dsk g zz (fun _ => none) :: RT gr 30 zz (fun _ => none) 0 :: Blk w.heap.size 26 #[.int .i64 a, .int .i64 (P : Int), .int .u32 c] :: [Row U8 5 (.slice (some ⟨w.heap.size + 2, 0, none⟩) 1920 1920) zz]))) := ⟨hQ_⟩
            clear hQ_
            have hHeld : W_.cell? ⟨w.heap.size, 2, none⟩ = some (.int .u32 c) := hS_
            refine norm_ (a' := ?_) ?_ ?_
            rotate_left
            · simp only [putAll, Act.put, List.setIfInBounds_toArray, List.set_cons_zero, List.set_cons_succ]
              rfl
            refine one_ (i := 4) (N := some 53) #[true, true, true, true, true, false, true, true, false, false, false] rfl rfl (by kernel_rfl) (by decide) (fun K hK => ?_)
            refine goes_ Try.func70 (by kernel_rfl) rfl #[.pointer (some ⟨w.heap.size + 1, 0, none⟩), .int .i64 4] (by rfl) rfl rfl (by simp only [List.map_toArray, List.map_cons, List.map_nil]; rfl) ?_
            with_reducible refine (nextQ_ (w0 := w) (A := A) (n := n) (c := c0) HT.out (by first | exact (hSep.out) | exact (hSep.out).at2) 4).mono ?_
            rintro e wn_ ⟨vn_, rfl, hS_⟩
            refine ⟨_, rfl, ?_⟩
            first | (have hN : Sep w wn_ (Pu (vn_ = vn_) :: TpX (w.heap.size + 1) A n c0 :: Row U8 5 (.slice A3 N c3) bs :: _) := hS_.unpu rfl) | (have hN := hS_.at2.unpu (rfl : vn_ = vn_))
            clear hS_
            refine hK.out _ _ (((hN.tail.tail).at5.cell 2).trans rfl) (fun hHeld => ?_)
            clear hK K
            refine norm_ (a' := ?_) ?_ ?_
            rotate_left
            · show Act.put _ (some 53) _ = _
              simp only [Act.put, List.setIfInBounds_toArray, List.set_cons_zero, List.set_cons_succ, i64_w, i32_w]
              rfl
            refine pure_ (i := 5) (N := some 54) (v := ?_) (a' := ?_) #[true, true, true, true, true, true, true, true, false, false, false] rfl rfl (by kernel_rfl) (fun _ _ _ h => h) (Or.inl ⟨by rfl, ?_⟩) ?_ ?_
            rotate_left
            · intro w'
              go_simp
              with_reducible rfl
            rotate_left
            · simp only [Act.put, List.setIfInBounds_toArray, List.set_cons_zero, List.set_cons_succ, i64_w, i32_w]
              rfl
            exact norm_ (by first | (simp only [putAll, Act.put, List.setIfInBounds_toArray, List.set_cons_zero, List.set_cons_succ]; done) | (simp only [putAll, Act.put, List.setIfInBounds_toArray, List.set_cons_zero, List.set_cons_succ]; rfl)) (hJ4_6_7 (vn_, v6_, v7_) _ ⟨hHeld, hN⟩)
        · skip
          rintro ⟨v4_, v6_⟩ W_ ⟨hS_, hQ_⟩
          have hSep : Aside0 (Sep w W_ ((Pu ((v4_) = (v4_))) :: (Blk (v6_) 5 #[.int .u8 110, .int .u8 111, .int .u8 32, .int .u8 99, .int .u8 104, .int .u8 97, .int .u8 110, .int .u8 103, .int .u8 101, .int .u8 115]) :: (TpX (w.heap.size + 1) A n c0 :: Row U8 5 (.slice A3 N c3) bs :: Dsk g zz (fun _ => none) :: RT gr 30 zz (fun _ => none) 0 :: Blk w.heap.size 26 #[.int .i64 a, .int .i64 (P : Int), .int .u32 c] :: [Row U8 5 (.slice (some ⟨w.heap.size + 2, 0, none⟩) 1920 1920) zz]))) := ⟨hQ_⟩
          clear hQ_
          have hHeld : W_.cell? ⟨w.heap.size, 2, none⟩ = some (.int .u32 c) := hS_
          refine norm_ (a' := ?_) ?_ ?_
          rotate_left
          · simp only [putAll, Act.put, List.setIfInBounds_toArray, List.set_cons_zero, List.set_cons_succ]
            rfl
          refine one_ (i := 7) (N := some 56) #[true, true, true, true, true, true, true, true, false, false, false] rfl rfl (by kernel_rfl) (by decide) (fun K hK => ?_)
          obtain ⟨W2_, hr_, hN_⟩ := freezeRun (m := 10) (k := 10) (xs := nc) ((hSep.out).at2) rfl (by decide)
          refine value_ (w1 := ?_) (v := ?_) (by rfl) rfl ?_ ?_
          rotate_left 2
          · go_simp
            constructor
            · rfl
            · rfl
          have hN := hN_
          refine hK.out _ _ (((hN.tail.tail).at5.cell 2).trans rfl) (fun hHeld => ?_)
          clear hK K
          refine norm_ (a' := ?_) ?_ ?_
          rotate_left
          · show Act.put _ (some 56) _ = _
            simp only [Act.put, List.setIfInBounds_toArray, List.set_cons_zero, List.set_cons_succ, i64_w, i32_w]
            rfl
          exact norm_ (by first | (simp only [putAll, Act.put, List.setIfInBounds_toArray, List.set_cons_zero, List.set_cons_succ]; done) | (simp only [putAll, Act.put, List.setIfInBounds_toArray, List.set_cons_zero, List.set_cons_succ]; rfl)) (hJ4_6_7 (v4_, v6_, v6_) _ ⟨hHeld, hN.at2⟩)
      rintro ⟨v4_, v6_, v7_⟩ W_ ⟨hS_, hQ_⟩
      have hSep : Aside0 (Sep w W_ ((Pu ((v4_) = (v4_))) :: (Fx (fun W' => (Kd.int .u8).C W' (some ⟨(v7_), 0, none⟩) 10 nc)) :: (TpX (w.heap.size + 1) A n c0 :: Row U8 5 (.slice A3 N c3) bs :: Dsk g zz (fun _ => none) :: RT gr 30 zz (fun _ => none) 0 :: Blk w.heap.size 26 #[.int .i64 a, .int .i64 (P : Int), .int .u32 c] :: [Row U8 5 (.slice (some ⟨w.heap.size + 2, 0, none⟩) 1920 1920) zz]))) := ⟨hQ_⟩
      clear hQ_
      have hHeld : W_.cell? ⟨w.heap.size, 2, none⟩ = some (.int .u32 c) := hS_
      have B5 := Aside0.mk hSep.out.tail
      refine norm_ (a' := ?_) ?_ ?_
      rotate_left
      · simp only [putAll, Act.put, List.setIfInBounds_toArray, List.set_cons_zero, List.set_cons_succ]
        rfl
      refine last_ (i := 8) (N := some 57) #[true, true, true, true, true, true, true, true, true, false, false] rfl rfl (by kernel_rfl) (by decide) (fun K hK => ?_)
      refine goes_ Try.func110 (by kernel_rfl) rfl #[.int .u32 c, .int .u32 (IntKind.u32.wrap v4_), .slice (some ⟨v7_, 0, none⟩) 10 10] (by rfl) rfl rfl (by simp only [List.map_toArray, List.map_cons, List.map_nil]; rfl) ?_
      with_reducible refine (rframe_ B5.out.fx (by decide) HC.out (wrap32_in _)).mono ?_
      rintro e w6 ⟨v6f, rfl, hS6⟩
      refine ⟨_, rfl, ?_⟩
      have HBF := Aside0.mk (frameF_bytes c (IntKind.u32.wrap v4_) nc_bytes)
      obtain ⟨A6, c6, rfl⟩ := hS6.rowN (n := 26) (frameF_len _ _ _)
      have B6 := Aside0.mk (B5.out.tail.lift1 hS6)
      have B6' := Aside0.mk B6.out.at3
      clear hS6
      refine hK.out _ _ ?_
      clear hK K
      refine norm_ (a' := ?_) ?_ ?_
      rotate_left
      · show Act.put _ (some 57) _ = _
        simp only [Act.put, List.setIfInBounds_toArray, List.set_cons_zero, List.set_cons_succ, i64_w, i32_w]
        rfl
      refine last_ (i := 9) (N := some 58) #[true, true, true, true, true, true, true, true, true, true, false] rfl rfl (by kernel_rfl) (by decide) (fun K hK => ?_)
      refine B6'.out.appendStep (by rfl) (.tmp 49) (.tmp 57) 30 (.int .u8 0) 1 rfl Try.underlying30 Base.infoB rfl (by decide) A6 26 c6 (by rfl) (by rfl) B6.out.rowC' (by have := HNB.out; have := HN.out; rw [HN.out, frameF_len]; simp; omega) ?_
      intro v7 w7 hS7
      have B7 := Aside0.mk hS7.drop2
      clear hS7
      refine hK.out _ _ ?_
      clear hK K
      refine norm_ (a' := ?_) ?_ ?_
      rotate_left
      · show Act.put _ (some 58) _ = _
        simp only [Act.put, List.setIfInBounds_toArray, List.set_cons_zero, List.set_cons_succ, i64_w, i32_w]
        rfl
      refine pure_ (i := 10) (N := some 12) (v := ?_) (a' := ?_) #[true, true, true, true, true, true, true, true, true, true, true] rfl rfl (by kernel_rfl) (fun _ _ _ h => h) (Or.inl ⟨by rfl, ?_⟩) ?_ ?_
      rotate_left
      · intro w'
        go_simp
        with_reducible rfl
      rotate_left
      · simp only [Act.put, List.setIfInBounds_toArray, List.set_cons_zero, List.set_cons_succ, i64_w, i32_w]
        rfl
      refine done_ (by kernel_rfl) ?_
      go_wp2_with fail
      go_meet
      case rel => exact ⟨_, HBS.out.app HBF.out, by rw [List.length_append, HN.out, frameF_len]; have := HNB.out; simp; omega, B7.out⟩
    case rest =>
    obtain ⟨bs2, hbs2, hbl2, hS5⟩ := hcut
    obtain ⟨N2, hN2⟩ : ∃ N, bs2.length = N := ⟨_, rfl⟩
    rw [hN2] at hbl2
    obtain ⟨A5, c5, rfl⟩ := hS5.rowN hN2
    have B5 := Aside0.mk hS5
    have HB2 := Aside0.mk hbs2
    have HN2 := Aside0.mk hN2
    have HBL := Aside0.mk hbl2
    clear hS5 hbs2 hN2
    go_upto_if 61 with fail
    go_cut [12] from 14 to 72 (fun v wx => ∃ bs, Bytes bs ∧ bs.length = N2 ∧ Sep w wx (Row U8 5 v bs :: TpX (w.heap.size + 1) A n c0 :: Dsk g zz (fun _ => none) :: RT gr 30 zz (fun _ => none) 0 :: Blk w.heap.size 26 #[.int .i64 a, .int .i64 (P : Int), .int .u32 c] :: [Row U8 5 (.slice (some ⟨w.heap.size + 2, 0, none⟩) 1920 1920) zz]))
    case first =>
      by_cases hp : 0 < N2
      case neg =>
        have hpi : ¬ (0 : Int) < (N2 : Int) := by omega
        have hpd : decide (0 < N2) = false := decide_eq_false hp
        go_wp2_with fail
        go_meet
        case rel => exact ⟨bs2, HB2.out, HN2.out, B5.out⟩
      case pos =>
      have hpi : (0 : Int) < (N2 : Int) := by omega
      have hpd : decide (0 < N2) = true := decide_eq_true hp
      obtain ⟨g5, cc, hEq⟩ := B5.out.rowFormN HN2.out hp
      injection hEq with e1 e2 e3
      subst e1 e3
      have hin2 := Book.withinF_in (n := at_) (lo := 0) (hi := (N2 : Int) - 1) (by omega)
      obtain ⟨j, hj⟩ := Int.eq_ofNat_of_zero_le hin2.1
      have hjN : j < N2 := by omega
      have AJ := Aside0.mk hj
      have hws : wrap64 ((N2 : Int) - 1) = (N2 : Int) - 1 := IntWalk.wrap64_in _ (by omega)
      have hjl : (j : Int) < (N2 : Int) := by omega
      clear hin2 hj e2
      go_wp2_with fail
      refine (Book.within_ at_ 0 ((N2 : Int) - 1) _ (by decide) (by omega) (by omega)).mono ?_
      rintro e w6 ⟨rfl, rfl⟩
      rw [AJ.out]
      obtain ⟨f1, f2⟩ := B5.out.rowCell (0 : Int) j hjN
      obtain ⟨x0, hx0⟩ : ∃ x0, bs2.getD j 0 = x0 := ⟨_, rfl⟩
      rw [hx0] at f1
      obtain ⟨y0, hy0⟩ : ∃ y0, Go.bits .xor .u8 x0 turn = y0 := ⟨_, rfl⟩
      have HY := Aside0.mk (xor8_in x0 turn)
      rw [hy0] at HY
      have S6 := Aside0.mk (B5.out.putRow (enc := Value.int .u8) j y0)
      clear hx0
      go_wp2_with fail
      go_meet
      case rel => exact ⟨_, Tape.bytes_set HB2.out HY.out.1 HY.out.2 j, by rw [List.length_set]; exact HN2.out, S6.out⟩
    case rest =>
    obtain ⟨bs3, hbs3, hbl3, hS6⟩ := hcut
    obtain ⟨A6, c6, rfl⟩ := hS6.rowN hbl3
    have B6 := Aside0.mk hS6.drew
    have HB3 := Aside0.mk hbs3
    have HC6 := Aside0.mk hS6.rowC.2.1
    have HW4 := Aside0.mk (appR_ok (n := 30) (a := a) (b := (P : Int)) (c := c) (at_ := 0) (xs := bs3) HZ.out.1 HZ.out.2 wtOk_none hbs3)
    obtain ⟨ob, hob⟩ : ∃ o, okA 30 a (P : Int) c 0 N2 = o := ⟨_, rfl⟩
    obtain ⟨wt2, hwt2⟩ : ∃ t, appR 30 zz (fun _ => none) a (P : Int) c 0 bs3 = t := ⟨_, rfl⟩
    have HOB := Aside0.mk hob
    have HT2 := Aside0.mk hwt2
    rw [hwt2] at HW4
    have hoo : (ob == ob) = true := by simp
    clear hS6 hbs3 hbl3 hob hwt2 hbl2
    go_wp2_with fail
    refine start_ (n := 21) (S := fun w' => w'.cell? ⟨w.heap.size, 0, none⟩ = some (.int .i64 a) ∧ w'.cell? ⟨w.heap.size, 1, none⟩ = some (.int .i64 (P : Int)) ∧ w'.cell? ⟨w.heap.size, 2, none⟩ = some (.int .u32 c)) (ds := [18]) #[false, false, false, false, false, false, false, false, false, false, false, false, false, false, false, false, false, false, false, false, false] (by kernel_rfl) rfl rfl ⟨(B6.out.at5.cell 0).trans rfl, (B6.out.at5.cell 1).trans rfl, (B6.out.at5.cell 2).trans rfl⟩ (fun hHeld => ?_)
    refine pure_ (i := 0) (N := some 73) (v := ?_) (a' := ?_) #[true, false, false, false, false, false, false, false, false, false, false, false, false, false, false, false, false, false, false, false, false] rfl rfl (by kernel_rfl) (fun _ _ _ h => h) (Or.inl ⟨by rfl, ?_⟩) ?_ ?_
    rotate_left
    · intro w'
      go_simp
      with_reducible rfl
    rotate_left
    · simp only [Act.put, List.setIfInBounds_toArray, List.set_cons_zero, List.set_cons_succ, i64_w, i32_w]
      rfl
    refine pure_ (i := 2) (N := some 75) (v := ?_) (a' := ?_) #[true, false, true, false, false, false, false, false, false, false, false, false, false, false, false, false, false, false, false, false, false] rfl rfl (by kernel_rfl) (fun _ _ _ h => h) (Or.inl ⟨by rfl, ?_⟩) ?_ ?_
    rotate_left
    · intro w'
      go_simp
      with_reducible rfl
    rotate_left
    · simp only [Act.put, List.setIfInBounds_toArray, List.set_cons_zero, List.set_cons_succ, i64_w, i32_w]
      rfl
    refine pure_ (i := 4) (N := some 77) (v := ?_) (a' := ?_) #[true, false, true, false, true, false, false, false, false, false, false, false, false, false, false, false, false, false, false, false, false] rfl rfl (by kernel_rfl) (fun _ _ _ h => h) (Or.inl ⟨by rfl, ?_⟩) ?_ ?_
    rotate_left
    · intro w'
      go_simp
      with_reducible rfl
    rotate_left
    · simp only [Act.put, List.setIfInBounds_toArray, List.set_cons_zero, List.set_cons_succ, i64_w, i32_w]
      rfl
    refine pure_ (i := 6) (N := some 79) (v := ?_) (a' := ?_) #[true, false, true, false, true, false, true, false, false, false, false, false, false, false, false, false, false, false, false, false, false] rfl rfl (by kernel_rfl) (fun _ _ _ h => h) (Or.inl ⟨by rfl, ?_⟩) ?_ ?_
    rotate_left
    · intro w'
      go_simp
      with_reducible rfl
    rotate_left
    · simp only [Act.put, List.setIfInBounds_toArray, List.set_cons_zero, List.set_cons_succ, i64_w, i32_w]
      rfl
    refine take_ (i := 1) (N := some 74) (v := ?_) (a' := ?_) #[true, true, true, false, true, false, true, false, false, false, false, false, false, false, false, false, false, false, false, false, false] rfl rfl (by kernel_rfl) (fun _ _ _ h => h) (Or.inl ⟨by rfl, ?_⟩) hHeld ?_ ?_
    rotate_left
    · rintro w' ⟨s0, s1, s2⟩
      go_simp
      with_reducible rfl
    rotate_left
    · simp only [Act.put, List.setIfInBounds_toArray, List.set_cons_zero, List.set_cons_succ, i64_w, i32_w]
      rfl
    refine take_ (i := 5) (N := some 78) (v := ?_) (a' := ?_) #[true, true, true, false, true, true, true, false, false, false, false, false, false, false, false, false, false, false, false, false, false] rfl rfl (by kernel_rfl) (fun _ _ _ h => h) (Or.inl ⟨by rfl, ?_⟩) hHeld ?_ ?_
    rotate_left
    · rintro w' ⟨s0, s1, s2⟩
      go_simp
      with_reducible rfl
    rotate_left
    · simp only [Act.put, List.setIfInBounds_toArray, List.set_cons_zero, List.set_cons_succ, i64_w, i32_w]
      rfl
    refine one_ (i := 3) (N := some 76) #[true, true, true, true, true, true, true, false, false, false, false, false, false, false, false, false, false, false, false, false, false] rfl rfl (by kernel_rfl) (by decide) (fun K hK => ?_)
    refine goes_ Try.func63 (by kernel_rfl) rfl #[.pointer (some ⟨g, 0, none⟩), .agg #[.int .i64 a, .int .i64 (P : Int), .int .u32 c], .int .i64 0, .slice A6 N2 c6] (by rfl) rfl rfl (by simp only [List.map_toArray, List.map_cons, List.map_nil]; rfl) ?_
    with_reducible refine (append_ (n := 30) (xs := bs3) B6.out.at3 HZ.out.1 (by decide) Ref.none_len a (P : Int) c 0 (by decide) (fun W' hW => hW.rowC') HC6.out).mono ?_
    rintro e w7 ⟨rfl, hS7⟩
    refine ⟨_, rfl, ?_⟩
    rw [HOB.out]
    rw [HT2.out] at hS7
    have B7 := Aside0.mk hS7
    clear hS7
    refine hK.out _ _ ⟨(B7.out.at5.cell 0).trans rfl, (B7.out.at5.cell 1).trans rfl, (B7.out.at5.cell 2).trans rfl⟩ (fun hHeld => ?_)
    clear hK K
    refine norm_ (a' := ?_) ?_ ?_
    rotate_left
    · show Act.put _ (some 76) _ = _
      simp only [Act.put, List.setIfInBounds_toArray, List.set_cons_zero, List.set_cons_succ, i64_w, i32_w]
      rfl
    refine one_ (i := 7) (N := some 80) #[true, true, true, true, true, true, true, true, false, false, false, false, false, false, false, false, false, false, false, false, false] rfl rfl (by kernel_rfl) (by decide) (fun K hK => ?_)
    refine goes_ Try.func107 (by kernel_rfl) rfl #[.pointer (some ⟨gr, 0, none⟩), .agg #[.int .i64 a, .int .i64 (P : Int), .int .u32 c], .int .i64 0, .slice A6 N2 c6] (by rfl) rfl rfl (by simp only [List.map_toArray, List.map_cons, List.map_nil]; rfl) ?_
    with_reducible refine (rappend_ (n := 30) (xs := bs3) B7.out.at4 HZ.out.1 (by decide) (by decide) Ref.none_len a (P : Int) c 0 (by decide) (fun W' hW => hW.at2.rowC') HC6.out).mono ?_
    rintro e w8 ⟨rfl, d8, hd8, hS8⟩
    refine ⟨_, rfl, ?_⟩
    rw [HOB.out]
    rw [HT2.out] at hS8
    have B8 := Aside0.mk hS8.at2
    clear hS8 hd8
    refine hK.out _ _ ⟨(B8.out.at5.cell 0).trans rfl, (B8.out.at5.cell 1).trans rfl, (B8.out.at5.cell 2).trans rfl⟩ (fun hHeld => ?_)
    clear hK K
    refine norm_ (a' := ?_) ?_ ?_
    rotate_left
    · show Act.put _ (some 80) _ = _
      simp only [Act.put, List.setIfInBounds_toArray, List.set_cons_zero, List.set_cons_succ, i64_w, i32_w]
      rfl
    refine pure_ (i := 8) (N := some 81) (v := ?_) (a' := ?_) #[true, true, true, true, true, true, true, true, true, false, false, false, false, false, false, false, false, false, false, false, false] rfl rfl (by kernel_rfl) (fun _ _ _ h => h) (Or.inl ⟨by rfl, ?_⟩) ?_ ?_
    rotate_left
    · intro w'
      go_simp
      with_reducible rfl
    rotate_left
    · simp only [Act.put, List.setIfInBounds_toArray, List.set_cons_zero, List.set_cons_succ, i64_w, i32_w]
      rfl
    refine pure_ (i := 9) (N := some 82) (v := ?_) (a' := ?_) #[true, true, true, true, true, true, true, true, true, true, false, false, false, false, false, false, false, false, false, false, false] rfl rfl (by kernel_rfl) (fun _ _ _ h => h) (Or.inl ⟨by rfl, ?_⟩) ?_ ?_
    rotate_left
    · intro w'
      go_simp
      with_reducible rfl
    rotate_left
    · simp only [Act.put, List.setIfInBounds_toArray, List.set_cons_zero, List.set_cons_succ, i64_w, i32_w]
      rfl
    refine pure_ (i := 10) (N := some 83) (v := ?_) (a' := ?_) #[true, true, true, true, true, true, true, true, true, true, true, false, false, false, false, false, false, false, false, false, false] rfl rfl (by kernel_rfl) (fun _ _ _ h => h) (Or.inl ⟨by rfl, ?_⟩) ?_ ?_
    rotate_left
    · intro w'
      go_simp
      with_reducible rfl
    rotate_left
    · simp only [Act.put, List.setIfInBounds_toArray, List.set_cons_zero, List.set_cons_succ, i64_w, i32_w]
      rfl
    refine pure_ (i := 11) (N := some 84) (v := ?_) (a' := ?_) #[true, true, true, true, true, true, true, true, true, true, true, true, false, false, false, false, false, false, false, false, false] rfl rfl (by kernel_rfl) (fun _ _ _ h => h) (Or.inl ⟨by rfl, ?_⟩) ?_ ?_
    rotate_left
    · intro w'
      go_simp
      with_reducible rfl
    rotate_left
    · simp only [Act.put, List.setIfInBounds_toArray, List.set_cons_zero, List.set_cons_succ, i64_w, i32_w]
      rfl
    refine one_ (i := 12) (N := some 85) #[true, true, true, true, true, true, true, true, true, true, true, true, true, false, false, false, false, false, false, false, false] rfl rfl (by kernel_rfl) (by decide) (fun K hK => ?_)
    refine goes_ Try.func108 (by kernel_rfl) rfl #[.pointer (some ⟨g, 0, none⟩), .pointer (some ⟨gr, 0, none⟩)] (by rfl) rfl rfl (by simp only [List.map_toArray, List.map_cons, List.map_nil]; rfl) ?_
    with_reducible refine (Ref.alike16_ B8.out HZ.out.1).mono ?_
    rintro e w9 ⟨rfl, hS9⟩
    refine ⟨_, rfl, ?_⟩
    have B9 := Aside0.mk hS9
    clear hS9
    refine hK.out _ _ ⟨(B9.out.at5.cell 0).trans rfl, (B9.out.at5.cell 1).trans rfl, (B9.out.at5.cell 2).trans rfl⟩ (fun hHeld => ?_)
    clear hK K
    refine norm_ (a' := ?_) ?_ ?_
    rotate_left
    · show Act.put _ (some 85) _ = _
      simp only [Act.put, List.setIfInBounds_toArray, List.set_cons_zero, List.set_cons_succ, i64_w, i32_w]
      rfl
    refine pure_ (i := 13) (N := some 86) (v := ?_) (a' := ?_) #[true, true, true, true, true, true, true, true, true, true, true, true, true, true, false, false, false, false, false, false, false] rfl rfl (by kernel_rfl) (fun _ _ _ h => h) (Or.inl ⟨by rfl, ?_⟩) ?_ ?_
    rotate_left
    · intro w'
      go_simp
      with_reducible rfl
    rotate_left
    · simp only [Act.put, List.setIfInBounds_toArray, List.set_cons_zero, List.set_cons_succ, i64_w, i32_w]
      rfl
    refine pure_ (i := 14) (N := some 87) (v := ?_) (a' := ?_) #[true, true, true, true, true, true, true, true, true, true, true, true, true, true, true, false, false, false, false, false, false] rfl rfl (by kernel_rfl) (fun _ _ _ h => h) (Or.inl ⟨by rfl, ?_⟩) ?_ ?_
    rotate_left
    · intro w'
      go_simp
      with_reducible rfl
    rotate_left
    · simp only [Act.put, List.setIfInBounds_toArray, List.set_cons_zero, List.set_cons_succ, i64_w, i32_w]
      rfl
    refine pure_ (i := 15) (N := some 88) (v := ?_) (a' := ?_) #[true, true, true, true, true, true, true, true, true, true, true, true, true, true, true, true, false, false, false, false, false] rfl rfl (by kernel_rfl) (fun _ _ _ h => h) (Or.inl ⟨by rfl, ?_⟩) ?_ ?_
    rotate_left
    · intro w'
      go_simp
      with_reducible rfl
    rotate_left
    · simp only [Act.put, List.setIfInBounds_toArray, List.set_cons_zero, List.set_cons_succ, i64_w, i32_w]
      rfl
    refine pure_ (i := 16) (N := some 89) (v := ?_) (a' := ?_) #[true, true, true, true, true, true, true, true, true, true, true, true, true, true, true, true, true, false, false, false, false] rfl rfl (by kernel_rfl) (fun _ _ _ h => h) (Or.inl ⟨by rfl, ?_⟩) ?_ ?_
    rotate_left
    · intro w'
      go_simp
      with_reducible rfl
    rotate_left
    · simp only [Act.put, List.setIfInBounds_toArray, List.set_cons_zero, List.set_cons_succ, i64_w, i32_w]
      rfl
    refine take_ (i := 17) (N := some 90) (v := ?_) (a' := ?_) #[true, true, true, true, true, true, true, true, true, true, true, true, true, true, true, true, true, true, false, false, false] rfl rfl (by kernel_rfl) (fun _ _ _ h => h) (Or.inl ⟨by rfl, ?_⟩) hHeld ?_ ?_
    rotate_left
    · rintro w' ⟨s0, s1, s2⟩
      go_simp
      with_reducible rfl
    rotate_left
    · simp only [Act.put, List.setIfInBounds_toArray, List.set_cons_zero, List.set_cons_succ, i64_w, i32_w]
      rfl
    refine last_ (i := 18) (N := some 91) #[true, true, true, true, true, true, true, true, true, true, true, true, true, true, true, true, true, true, true, false, false] rfl rfl (by kernel_rfl) (by decide) (fun K hK => ?_)
    refine goes_ Try.func109 (by kernel_rfl) rfl #[.pointer (some ⟨g, 0, none⟩), .pointer (some ⟨gr, 0, none⟩), .agg #[.int .i64 a, .int .i64 (P : Int), .int .u32 c]] (by rfl) rfl rfl (by simp only [List.map_toArray, List.map_cons, List.map_nil]; rfl) ?_
    with_reducible refine (lrecords_ (n := 30) (d := d8) B9.out HZ.out.1 (by decide) HW4.out HZ.out.2 a (P : Int) c).mono ?_
    rintro e w10 ⟨rfl, hS10⟩
    refine ⟨_, rfl, ?_⟩
    have B10 := Aside0.mk hS10
    clear hS10
    refine hK.out _ _ ?_
    clear hK K
    refine norm_ (a' := ?_) ?_ ?_
    rotate_left
    · show Act.put _ (some 91) _ = _
      simp only [Act.put, List.setIfInBounds_toArray, List.set_cons_zero, List.set_cons_succ, i64_w, i32_w]
      rfl
    refine pure_ (i := 19) (N := some 92) (v := ?_) (a' := ?_) #[true, true, true, true, true, true, true, true, true, true, true, true, true, true, true, true, true, true, true, true, false] rfl rfl (by kernel_rfl) (fun _ _ _ h => h) (Or.inl ⟨by rfl, ?_⟩) ?_ ?_
    rotate_left
    · intro w'
      go_simp
      with_reducible rfl
    rotate_left
    · simp only [Act.put, List.setIfInBounds_toArray, List.set_cons_zero, List.set_cons_succ, i64_w, i32_w]
      rfl
    refine pure_ (i := 20) (N := some 8) (v := ?_) (a' := ?_) #[true, true, true, true, true, true, true, true, true, true, true, true, true, true, true, true, true, true, true, true, true] rfl rfl (by kernel_rfl) (fun _ _ _ h => h) (Or.inl ⟨by rfl, ?_⟩) ?_ ?_
    rotate_left
    · intro w'
      go_simp
      with_reducible rfl
    rotate_left
    · simp only [Act.put, List.setIfInBounds_toArray, List.set_cons_zero, List.set_cons_succ, i64_w, i32_w]
      rfl
    refine done_ (by kernel_rfl) ?_
    go_wp2_with fail
    go_ret
    exact ⟨by first | rfl | (simp; done), B10.out.toBelow⟩
end Go.Proofs.Ytjngnigelkgekaa.Redo
namespace Go.Proofs.Ytjngnigelkgekaa.Root
set_option linter.unusedVariables false
set_option linter.unusedSimpArgs false
open Go.RowKit Go.Proofs.YtjngnigelkgekaaW.PrintWords Go.Proofs.YtjngnigelkgekaaW.PrintLast Go.Proofs.YtjngnigelkgekaaW.PrintMore Go.Proofs.Ytjngnigelkgekaa.Kit Go.Proofs.Ytjngnigelkgekaa.Plain Go.Proofs.Ytjngnigelkgekaa.Disk
end Go.Proofs.Ytjngnigelkgekaa.Root
