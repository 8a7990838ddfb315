/- Redo11, Frame4, Tape1, Tape2, Redo12: what RedoNumbers needs. -/
import Derived.Test.YtjngnigelkgekaaTredoNumbers12
import Derived.Deep.CutRange
import Derived.Deep.QuietTactic
import Derived.Deep.RegionWith
import Derived.Deep.LoopGhost
import Derived.Lib.SlBytesConst
namespace Go.Proofs.Ytjngnigelkgekaa.Redo
set_option linter.unusedVariables false
set_option linter.unusedSimpArgs false
open Go.RowKit Go.Proofs.YtjngnigelkgekaaW.PrintWords Go.Proofs.YtjngnigelkgekaaW.PrintLast Go.Proofs.YtjngnigelkgekaaW.PrintMore Go.Proofs.Ytjngnigelkgekaa.Kit Go.Proofs.Ytjngnigelkgekaa.Plain Go.Proofs.Ytjngnigelkgekaa.Disk Go.Proofs.Ytjngnigelkgekaa.Root Go.Proofs.Ytjngnigelkgekaa.Frame
open Go.Proofs.Ytjngnigelkgekaa.Home (K2 RT pair16_)
set_option maxHeartbeats 1600000 in
set_option maxRecDepth 100000 in
theorem plays_ {A1 A2 : Option Addr} {n1 c1 n2 c2 : Nat} {ats : List Int} {ls : List (List Int)} {w : World} (h1 : I64.C w A1 n1 ats) (hb1 : ∀ x ∈ ats, -9223372036854775808 ≤ x ∧ x ≤ 9223372036854775807) (h2 : K2.C w A2 n2 ls) (hb2 : ∀ x ∈ ls, Bytes x) (a b c : Int) :
    Calls Try.prog 60 #[.agg #[.int .i64 a, .int .i64 b, .int .u32 c], .slice A1 n1 c1, .slice A2 n2 c2] w fun e w' => e = .returned (.bool true) ∧ Below w.heap.size w w' := by
  have H1 := Aside0.mk h1
  have HB1 := Aside0.mk hb1
  have H2 := Aside0.mk h2
  have HB2 := Aside0.mk hb2
  have hm1 : n1 ≤ 9223372036854775807 := h1.2.1
  have hm2 : n2 ≤ 9223372036854775807 := h2.2.1
  have hmk : ∀ W : World, (Instr.makeSlice 30 (.int .i64 768) (.int .i64 768)).run Try.prog W = .ok (.slice (some ⟨W.heap.size, 0, none⟩) 768 768) (W.alloc (.cells (madeCells #[.int .u8 0] 768) 5)) := make_ (m := 768) (by omega)
  have M1 := Aside0.mk (madeB 768 ((Sep.start w).newBlk 26 #[.int .i64 a, .int .i64 b, .int .u32 c]) (by omega))
  rw [show ∀ o : Obj, (w.alloc o).heap.size = w.heap.size + 1 from fun o => by simp] at M1
  have HZ : Aside0 ((List.replicate 768 (0 : Int)).length = 64 * 12 ∧ Bytes (List.replicate 768 (0 : Int))) := ⟨List.length_replicate, zeros_bytes 768⟩
  clear h1 hb1 h2 hb2
  go_enter Try.func60, Try.ntmps60
  generalize List.replicate 768 (0 : Int) = zz at M1 HZ
  go_wp2_with fail
  refine (pair16_ (n := 12) (l := zz) (m := 768) (c := 768) (A := some ⟨w.heap.size + 1, 0, none⟩) (by have h := M1.out.rowC.2.2; rwa [HZ.out.1] at h) (by decide) (by decide) (by decide) (by decide)).mono ?_
  rintro e w2 ⟨g, gr, rfl, hS2⟩
  have B2 := Aside0.mk (M1.out.lift hS2)
  clear hS2 hmk
  go_wp2_with fail
  go_loopg [9] 12 (fun k_ p wr => ∃ (i d : Nat) (wt : Wt), p = .int .i64 (i : Int) ∧ i + k_ = 12 ∧ d ≤ 64 * i ∧ WtOk wt ∧ Sep w wr [Dsk g zz wt, RT gr 12 zz wt d, Row U8 5 (.slice (some ⟨w.heap.size + 1, 0, none⟩) 768 768) zz, Blk w.heap.size 26 #[.int .i64 a, .int .i64 b, .int .u32 c]])
  case atStart => exact ⟨0, 0, _, rfl, by omega, by omega, wtOk_none, B2.out⟩
  case round =>
    obtain ⟨i, d, wt, rfl, hik, hd, hwt, hS⟩ := hrel
    obtain ⟨w1, rfl⟩ : ∃ x, x = wr := ⟨_, rfl⟩
    have AK := Aside0.mk hik
    have AS := Aside0.mk hS
    have HWT := Aside0.mk hwt
    have HW1 := Aside0.mk hwt.1
    have AN := Aside0.mk (show i ≤ 12 ∧ d ≤ 900 ∧ d + 64 ≤ 64 * (i + 1) by omega)
    clear hS hwt
    by_cases cq : i < n1 ∧ i < n2 ∧ i < 12
    case neg =>
      have z0 := (AS.out.at4.cell 0).trans rfl
      have z1 := (AS.out.at4.cell 1).trans rfl
      have z2 := (AS.out.at4.cell 2).trans rfl
      have hE : (¬ (i : Int) < (n1 : Int)) ∨ ((i : Int) < (n1 : Int) ∧ ¬ (i : Int) < (n2 : Int)) ∨ ((i : Int) < (n1 : Int) ∧ (i : Int) < (n2 : Int) ∧ ¬ (i : Int) < 12) := by omega
      clear hik hd cq
      rcases hE with q1 | ⟨q1, q2⟩ | ⟨q1, q2, q3⟩
      · have q1d : decide ((i : Int) < (n1 : Int)) = false := decide_eq_false q1
        go_wp2_with fail
        refine (lrecords_ AS.out HZ.out.1 (by decide) HWT.out HZ.out.2 a b c).mono ?_
        rintro e w3 ⟨rfl, hS3⟩
        have B3 := Aside0.mk hS3
        clear hS3
        go_wp2_with fail
        go_ret
        exact ⟨by first | rfl | (simp; done), B3.out.toBelow⟩
      · have q1d : decide ((i : Int) < (n1 : Int)) = true := decide_eq_true q1
        have q2d : decide ((i : Int) < (n2 : Int)) = false := decide_eq_false q2
        go_wp2_with fail
        refine (lrecords_ AS.out HZ.out.1 (by decide) HWT.out HZ.out.2 a b c).mono ?_
        rintro e w3 ⟨rfl, hS3⟩
        have B3 := Aside0.mk hS3
        clear hS3
        go_wp2_with fail
        go_ret
        exact ⟨by first | rfl | (simp; done), B3.out.toBelow⟩
      · have q1d : decide ((i : Int) < (n1 : Int)) = true := decide_eq_true q1
        have q2d : decide ((i : Int) < (n2 : Int)) = true := decide_eq_true q2
        have q3d : decide ((i : Int) < 12) = false := decide_eq_false q3
        go_wp2_with fail
        refine (lrecords_ AS.out HZ.out.1 (by decide) HWT.out HZ.out.2 a b c).mono ?_
        rintro e w3 ⟨rfl, hS3⟩
        have B3 := Aside0.mk hS3
        clear hS3
        go_wp2_with fail
        go_ret
        exact ⟨by first | rfl | (simp; done), B3.out.toBelow⟩
    case pos =>
    obtain ⟨qa, qb, qc⟩ := cq
    have q1 : (i : Int) < (n1 : Int) := by omega
    have q2 : (i : Int) < (n2 : Int) := by omega
    have q3 : (i : Int) < 12 := by omega
    have q1d : decide ((i : Int) < (n1 : Int)) = true := decide_eq_true q1
    have q2d : decide ((i : Int) < (n2 : Int)) = true := decide_eq_true q2
    have q3d : decide ((i : Int) < 12) = true := decide_eq_true q3
    obtain ⟨hx, ad, B, cB, hA2, hcell0, hlc, hCB⟩ := slice_at H2.out qb
    have hcell := cell_later AS.out.toBelow hcell0
    have hbx := HB2.out _ (List.getElem_mem hx)
    obtain ⟨XL, hXL⟩ : ∃ L, ls[i].length = L := ⟨_, rfl⟩
    rw [hXL] at hcell hlc hCB
    obtain ⟨bs, hbs⟩ : ∃ b, ls[i] = b := ⟨_, rfl⟩
    rw [hbs] at hCB hbx
    have HBS := Aside0.mk (And.intro hCB (And.intro hlc hbx))
    obtain ⟨ad1, hA1, hc1⟩ := Kd.at_int H1.out (i : Int) (by omega) (by omega)
    rw [Int.toNat_natCast] at hc1
    obtain ⟨av, hav⟩ : ∃ v, ats.getD i 0 = v := ⟨_, rfl⟩
    have hava := HB1.out av (by
      rw [← hav, List.getD_eq_getElem?_getD, List.getElem?_eq_getElem (by rw [H1.out.1]; exact qa)]
      exact List.getElem_mem _)
    have hc1' : w.cell? (ad1.add i) = some (.int .i64 av) := by rw [← hav]; exact hc1
    have HC1 := Aside0.mk hc1'
    have HAV := Aside0.mk hava
    clear hc1 hc1' hava hav hik hd qa qb qc hbs hXL hCB hbx hcell0
    subst hA1 hA2
    go_upto_if 44 with fail
    go_cut [10] from 22 to 76 (fun v wx => wx = w1 ∧ ∃ B m cB bs, v = .slice B m cB ∧ m ≤ cB ∧ U8.C w B m bs ∧ Bytes bs)
    case first =>
      by_cases hq : 200 < (XL : Int)
      · obtain ⟨hcut, hT⟩ := Base.take8 (A := B) (c := cB) (b := 200) (K := 200) rfl HBS.out.1.1 (by omega) hlc
        have HT := Aside0.mk (hT _ HBS.out.1)
        clear hT
        go_wp2_with fail
        go_meet
        case rel => exact ⟨rfl, B, 200, cB, _, rfl, by omega, HT.out, HBS.out.2.2.take _⟩
      · go_wp2_with fail
        go_meet
        case rel => exact ⟨rfl, B, XL, cB, bs, rfl, hlc, HBS.out.1, HBS.out.2.2⟩
    case rest =>
      obtain ⟨rfl, B', m, cB', bs', rfl, q4, q5, q6⟩ := hcut
      have HM := Aside0.mk (And.intro q4 (And.intro q5 q6))
      have AD := Aside0.mk AS.out.drew
      clear q4 q5 q6 hlc hcell
      have HW4 := Aside0.mk (appR_ok (n := 12) (a := a) (b := b) (c := c) (at_ := av) HZ.out.1 HZ.out.2 HWT.out HM.out.2.2)
      obtain ⟨ob, hob⟩ : ∃ o, okA 12 a b c av m = o := ⟨_, rfl⟩
      obtain ⟨wt2, hwt2⟩ : ∃ t, appR 12 zz wt a b c av bs' = t := ⟨_, rfl⟩
      have HOB := Aside0.mk hob
      have HT2 := Aside0.mk hwt2
      rw [hwt2] at HW4
      have hoo : (ob != ob) = false := by simp
      clear hob hwt2
      go_wp2_with fail
      refine start_ (n := 30) (S := fun w' => w'.cell? ⟨w.heap.size, 0, none⟩ = some (.int .i64 a) ∧ w'.cell? ⟨w.heap.size, 1, none⟩ = some (.int .i64 b) ∧ w'.cell? ⟨w.heap.size, 2, none⟩ = some (.int .u32 c) ∧ w'.cell? (ad1.add i) = some (.int .i64 av)) (ds := [27]) #[false, false, false, false, false, false, false, false, false, false, false, false, false, false, false, false, false, false, false, false, false, false, false, false, false, false, false, false, false, false] (by kernel_rfl) rfl rfl ⟨(AD.out.at4.cell 0).trans rfl, (AD.out.at4.cell 1).trans rfl, (AD.out.at4.cell 2).trans rfl, cell_later AD.out.toBelow HC1.out⟩ (fun hHeld => ?_)
      refine pure_ (i := 0) (N := some 47) (v := ?_) (a' := ?_) #[true, false, false, false, false, false, false, false, false, false, false, false, false, false, false, false, false, false, false, false, false, false, false, false, false, false, false, false, false, false] rfl rfl (by kernel_rfl) (fun _ _ _ h => h) (Or.inl ⟨by rfl, ?_⟩) ?_ ?_
      rotate_left
      · intro w'
        go_simp
        with_reducible rfl
      rotate_left
      · simp only [Act.put, List.setIfInBounds_toArray, List.set_cons_zero, List.set_cons_succ, i64_w, i32_w]
        rfl
      refine pure_ (i := 2) (N := some 49) (v := ?_) (a' := ?_) #[true, false, true, false, false, false, false, false, false, false, false, false, false, false, false, false, false, false, false, false, false, false, false, false, false, false, false, false, false, false] rfl rfl (by kernel_rfl) (fun _ _ _ h => h) (Or.inl ⟨by rfl, ?_⟩) ?_ ?_
      rotate_left
      · intro w'
        go_simp
        with_reducible rfl
      rotate_left
      · simp only [Act.put, List.setIfInBounds_toArray, List.set_cons_zero, List.set_cons_succ, i64_w, i32_w]
        rfl
      refine pure_ (i := 3) (N := some 50) (v := ?_) (a' := ?_) #[true, false, true, true, false, false, false, false, false, false, false, false, false, false, false, false, false, false, false, false, false, false, false, false, false, false, false, false, false, false] rfl rfl (by kernel_rfl) (fun _ _ _ h => h) (Or.inl ⟨by rfl, ?_⟩) ?_ ?_
      rotate_left
      · intro w'
        go_simp
        with_reducible rfl
      rotate_left
      · simp only [Act.put, List.setIfInBounds_toArray, List.set_cons_zero, List.set_cons_succ, i64_w, i32_w]
        rfl
      refine pure_ (i := 4) (N := some 51) (v := ?_) (a' := ?_) #[true, false, true, true, true, false, false, false, false, false, false, false, false, false, false, false, false, false, false, false, false, false, false, false, false, false, false, false, false, false] rfl rfl (by kernel_rfl) (fun _ _ _ h => h) (Or.inl ⟨by rfl, ?_⟩) ?_ ?_
      rotate_left
      · intro w'
        go_simp
        with_reducible rfl
      rotate_left
      · simp only [Act.put, List.setIfInBounds_toArray, List.set_cons_zero, List.set_cons_succ, i64_w, i32_w]
        rfl
      refine pure_ (i := 6) (N := some 53) (v := ?_) (a' := ?_) #[true, false, true, true, true, false, true, false, false, false, false, false, false, false, false, false, false, false, false, false, false, false, false, false, false, false, false, false, false, false] rfl rfl (by kernel_rfl) (fun _ _ _ h => h) (Or.inl ⟨by rfl, ?_⟩) ?_ ?_
      rotate_left
      · intro w'
        go_simp
        with_reducible rfl
      rotate_left
      · simp only [Act.put, List.setIfInBounds_toArray, List.set_cons_zero, List.set_cons_succ, i64_w, i32_w]
        rfl
      refine pure_ (i := 8) (N := some 55) (v := ?_) (a' := ?_) #[true, false, true, true, true, false, true, false, true, false, false, false, false, false, false, false, false, false, false, false, false, false, false, false, false, false, false, false, false, false] rfl rfl (by kernel_rfl) (fun _ _ _ h => h) (Or.inl ⟨by rfl, ?_⟩) ?_ ?_
      rotate_left
      · intro w'
        go_simp
        with_reducible rfl
      rotate_left
      · simp only [Act.put, List.setIfInBounds_toArray, List.set_cons_zero, List.set_cons_succ, i64_w, i32_w]
        rfl
      refine pure_ (i := 10) (N := some 57) (v := ?_) (a' := ?_) #[true, false, true, true, true, false, true, false, true, false, true, false, false, false, false, false, false, false, false, false, false, false, false, false, false, false, false, false, false, false] rfl rfl (by kernel_rfl) (fun _ _ _ h => h) (Or.inl ⟨by rfl, ?_⟩) ?_ ?_
      rotate_left
      · intro w'
        go_simp
        with_reducible rfl
      rotate_left
      · simp only [Act.put, List.setIfInBounds_toArray, List.set_cons_zero, List.set_cons_succ, i64_w, i32_w]
        rfl
      refine pure_ (i := 11) (N := some 58) (v := ?_) (a' := ?_) #[true, false, true, true, true, false, true, false, true, false, true, true, false, false, false, false, false, false, false, false, false, false, false, false, false, false, false, false, false, false] rfl rfl (by kernel_rfl) (fun _ _ _ h => h) (Or.inl ⟨by rfl, ?_⟩) ?_ ?_
      rotate_left
      · intro w'
        go_simp
        with_reducible rfl
      rotate_left
      · simp only [Act.put, List.setIfInBounds_toArray, List.set_cons_zero, List.set_cons_succ, i64_w, i32_w]
        rfl
      refine pure_ (i := 12) (N := some 59) (v := ?_) (a' := ?_) #[true, false, true, true, true, false, true, false, true, false, true, true, true, false, false, false, false, false, false, false, false, false, false, false, false, false, false, false, false, false] rfl rfl (by kernel_rfl) (fun _ _ _ h => h) (Or.inl ⟨by rfl, ?_⟩) ?_ ?_
      rotate_left
      · intro w'
        go_simp
        with_reducible rfl
      rotate_left
      · simp only [Act.put, List.setIfInBounds_toArray, List.set_cons_zero, List.set_cons_succ, i64_w, i32_w]
        rfl
      refine pure_ (i := 14) (N := some 61) (v := ?_) (a' := ?_) #[true, false, true, true, true, false, true, false, true, false, true, true, true, false, true, false, false, false, false, false, false, false, false, false, false, false, false, false, false, false] rfl rfl (by kernel_rfl) (fun _ _ _ h => h) (Or.inl ⟨by rfl, ?_⟩) ?_ ?_
      rotate_left
      · intro w'
        go_simp
        with_reducible rfl
      rotate_left
      · simp only [Act.put, List.setIfInBounds_toArray, List.set_cons_zero, List.set_cons_succ, i64_w, i32_w]
        rfl
      refine take_ (i := 1) (N := some 48) (v := ?_) (a' := ?_) #[true, true, true, true, true, false, true, false, true, false, true, true, true, false, true, false, false, false, false, false, false, false, false, false, false, false, false, false, false, false] rfl rfl (by kernel_rfl) (fun _ _ _ h => h) (Or.inl ⟨by rfl, ?_⟩) hHeld ?_ ?_
      rotate_left
      · rintro w' ⟨s0, s1, s2, s3⟩
        go_simp
        with_reducible rfl
      rotate_left
      · simp only [Act.put, List.setIfInBounds_toArray, List.set_cons_zero, List.set_cons_succ, i64_w, i32_w]
        rfl
      refine take_ (i := 5) (N := some 52) (v := ?_) (a' := ?_) #[true, true, true, true, true, true, true, false, true, false, true, true, true, false, true, false, false, false, false, false, false, false, false, false, false, false, false, false, false, false] rfl rfl (by kernel_rfl) (fun _ _ _ h => h) (Or.inl ⟨by rfl, ?_⟩) hHeld ?_ ?_
      rotate_left
      · rintro w' ⟨s0, s1, s2, s3⟩
        go_simp
        with_reducible rfl
      rotate_left
      · simp only [Act.put, List.setIfInBounds_toArray, List.set_cons_zero, List.set_cons_succ, i64_w, i32_w]
        rfl
      refine take_ (i := 9) (N := some 56) (v := ?_) (a' := ?_) #[true, true, true, true, true, true, true, false, true, true, true, true, true, false, true, false, false, false, false, false, false, false, false, false, false, false, false, false, false, false] rfl rfl (by kernel_rfl) (fun _ _ _ h => h) (Or.inl ⟨by rfl, ?_⟩) hHeld ?_ ?_
      rotate_left
      · rintro w' ⟨s0, s1, s2, s3⟩
        go_simp
        with_reducible rfl
      rotate_left
      · simp only [Act.put, List.setIfInBounds_toArray, List.set_cons_zero, List.set_cons_succ, i64_w, i32_w]
        rfl
      refine take_ (i := 13) (N := some 60) (v := ?_) (a' := ?_) #[true, true, true, true, true, true, true, false, true, true, true, true, true, true, true, false, false, false, false, false, false, false, false, false, false, false, false, false, false, false] rfl rfl (by kernel_rfl) (fun _ _ _ h => h) (Or.inl ⟨by rfl, ?_⟩) hHeld ?_ ?_
      rotate_left
      · rintro w' ⟨s0, s1, s2, s3⟩
        go_simp
        with_reducible rfl
      rotate_left
      · simp only [Act.put, List.setIfInBounds_toArray, List.set_cons_zero, List.set_cons_succ, i64_w, i32_w]
        rfl
      refine one_ (i := 7) (N := some 54) #[true, true, true, true, true, true, true, true, true, true, true, true, true, true, true, false, false, false, false, false, false, false, false, false, false, false, false, false, false, false] rfl rfl (by kernel_rfl) (by decide) (fun K hK => ?_)
      refine goes_ Try.func63 (by kernel_rfl) rfl #[.pointer (some ⟨g, 0, none⟩), .agg #[.int .i64 a, .int .i64 b, .int .u32 c], .int .i64 av, .slice B' m cB'] (by rfl) rfl rfl (by simp only [List.map_toArray, List.map_cons, List.map_nil]; rfl) ?_
      with_reducible refine (append_ (n := 12) AD.out HZ.out.1 (by decide) HW1.out a b c av HAV.out (fun W' hW => Kd.C_below HM.out.2.1 hW.toBelow) HM.out.1).mono ?_
      rintro e w3 ⟨rfl, hS3⟩
      refine ⟨_, rfl, ?_⟩
      rw [HOB.out]
      rw [HT2.out] at hS3
      have B3 := Aside0.mk hS3
      clear hS3
      refine hK.out _ _ ⟨(B3.out.at4.cell 0).trans rfl, (B3.out.at4.cell 1).trans rfl, (B3.out.at4.cell 2).trans rfl, cell_later B3.out.toBelow HC1.out⟩ (fun hHeld => ?_)
      clear hK K
      refine norm_ (a' := ?_) ?_ ?_
      rotate_left
      · show Act.put _ (some 54) _ = _
        simp only [Act.put, List.setIfInBounds_toArray, List.set_cons_zero, List.set_cons_succ, i64_w, i32_w]
        rfl
      refine one_ (i := 15) (N := some 62) #[true, true, true, true, true, true, true, true, true, true, true, true, true, true, true, true, false, false, false, false, false, false, false, false, false, false, false, false, false, false] rfl rfl (by kernel_rfl) (by decide) (fun K hK => ?_)
      refine goes_ Try.func107 (by kernel_rfl) rfl #[.pointer (some ⟨gr, 0, none⟩), .agg #[.int .i64 a, .int .i64 b, .int .u32 c], .int .i64 av, .slice B' m cB'] (by rfl) rfl rfl (by simp only [List.map_toArray, List.map_cons, List.map_nil]; rfl) ?_
      with_reducible refine (rappend_ (n := 12) B3.out.at2 HZ.out.1 (by decide) AN.out.2.1 HW1.out a b c av HAV.out (fun W' hW => Kd.C_below HM.out.2.1 hW.toBelow) HM.out.1).mono ?_
      rintro e w4 ⟨rfl, d4, hd4, hS4⟩
      refine ⟨_, rfl, ?_⟩
      rw [HOB.out]
      rw [HT2.out] at hS4
      have B4 := Aside0.mk hS4.at2
      have HD4 := Aside0.mk hd4
      clear hS4 hd4
      refine hK.out _ _ ⟨(B4.out.at4.cell 0).trans rfl, (B4.out.at4.cell 1).trans rfl, (B4.out.at4.cell 2).trans rfl, cell_later B4.out.toBelow HC1.out⟩ (fun hHeld => ?_)
      clear hK K
      refine norm_ (a' := ?_) ?_ ?_
      rotate_left
      · show Act.put _ (some 62) _ = _
        simp only [Act.put, List.setIfInBounds_toArray, List.set_cons_zero, List.set_cons_succ, i64_w, i32_w]
        rfl
      refine pure_ (i := 16) (N := some 63) (v := ?_) (a' := ?_) #[true, true, true, true, true, true, true, true, true, true, true, true, true, true, true, true, true, false, false, false, false, false, false, false, false, false, false, false, false, false] rfl rfl (by kernel_rfl) (fun _ _ _ h => h) (Or.inl ⟨by rfl, ?_⟩) ?_ ?_
      rotate_left
      · intro w'
        go_simp
        with_reducible rfl
      rotate_left
      · simp only [Act.put, List.setIfInBounds_toArray, List.set_cons_zero, List.set_cons_succ, i64_w, i32_w]
        rfl
      refine pure_ (i := 17) (N := some 64) (v := ?_) (a' := ?_) #[true, true, true, true, true, true, true, true, true, true, true, true, true, true, true, true, true, true, false, false, false, false, false, false, false, false, false, false, false, false] rfl rfl (by kernel_rfl) (fun _ _ _ h => h) (Or.inl ⟨by rfl, ?_⟩) ?_ ?_
      rotate_left
      · intro w'
        go_simp
        with_reducible rfl
      rotate_left
      · simp only [Act.put, List.setIfInBounds_toArray, List.set_cons_zero, List.set_cons_succ, i64_w, i32_w]
        rfl
      refine pure_ (i := 18) (N := some 65) (v := ?_) (a' := ?_) #[true, true, true, true, true, true, true, true, true, true, true, true, true, true, true, true, true, true, true, false, false, false, false, false, false, false, false, false, false, false] rfl rfl (by kernel_rfl) (fun _ _ _ h => h) (Or.inl ⟨by rfl, ?_⟩) ?_ ?_
      rotate_left
      · intro w'
        go_simp
        with_reducible rfl
      rotate_left
      · simp only [Act.put, List.setIfInBounds_toArray, List.set_cons_zero, List.set_cons_succ, i64_w, i32_w]
        rfl
      refine pure_ (i := 19) (N := some 66) (v := ?_) (a' := ?_) #[true, true, true, true, true, true, true, true, true, true, true, true, true, true, true, true, true, true, true, true, false, false, false, false, false, false, false, false, false, false] rfl rfl (by kernel_rfl) (fun _ _ _ h => h) (Or.inl ⟨by rfl, ?_⟩) ?_ ?_
      rotate_left
      · intro w'
        go_simp
        with_reducible rfl
      rotate_left
      · simp only [Act.put, List.setIfInBounds_toArray, List.set_cons_zero, List.set_cons_succ, i64_w, i32_w]
        rfl
      refine one_ (i := 20) (N := some 67) #[true, true, true, true, true, true, true, true, true, true, true, true, true, true, true, true, true, true, true, true, true, false, false, false, false, false, false, false, false, false] rfl rfl (by kernel_rfl) (by decide) (fun K hK => ?_)
      refine goes_ Try.func108 (by kernel_rfl) rfl #[.pointer (some ⟨g, 0, none⟩), .pointer (some ⟨gr, 0, none⟩)] (by rfl) rfl rfl (by simp only [List.map_toArray, List.map_cons, List.map_nil]; rfl) ?_
      with_reducible refine (Ref.alike16_ B4.out HZ.out.1).mono ?_
      rintro e w5 ⟨rfl, hS5⟩
      refine ⟨_, rfl, ?_⟩
      have B5 := Aside0.mk hS5
      clear hS5
      refine hK.out _ _ ⟨(B5.out.at4.cell 0).trans rfl, (B5.out.at4.cell 1).trans rfl, (B5.out.at4.cell 2).trans rfl, cell_later B5.out.toBelow HC1.out⟩ (fun hHeld => ?_)
      clear hK K
      refine norm_ (a' := ?_) ?_ ?_
      rotate_left
      · show Act.put _ (some 67) _ = _
        simp only [Act.put, List.setIfInBounds_toArray, List.set_cons_zero, List.set_cons_succ, i64_w, i32_w]
        rfl
      refine pure_ (i := 21) (N := some 68) (v := ?_) (a' := ?_) #[true, true, true, true, true, true, true, true, true, true, true, true, true, true, true, true, true, true, true, true, true, true, false, false, false, false, false, false, false, false] rfl rfl (by kernel_rfl) (fun _ _ _ h => h) (Or.inl ⟨by rfl, ?_⟩) ?_ ?_
      rotate_left
      · intro w'
        go_simp
        with_reducible rfl
      rotate_left
      · simp only [Act.put, List.setIfInBounds_toArray, List.set_cons_zero, List.set_cons_succ, i64_w, i32_w]
        rfl
      refine pure_ (i := 22) (N := some 69) (v := ?_) (a' := ?_) #[true, true, true, true, true, true, true, true, true, true, true, true, true, true, true, true, true, true, true, true, true, true, true, false, false, false, false, false, false, false] rfl rfl (by kernel_rfl) (fun _ _ _ h => h) (Or.inl ⟨by rfl, ?_⟩) ?_ ?_
      rotate_left
      · intro w'
        go_simp
        with_reducible rfl
      rotate_left
      · simp only [Act.put, List.setIfInBounds_toArray, List.set_cons_zero, List.set_cons_succ, i64_w, i32_w]
        rfl
      refine pure_ (i := 23) (N := some 70) (v := ?_) (a' := ?_) #[true, true, true, true, true, true, true, true, true, true, true, true, true, true, true, true, true, true, true, true, true, true, true, true, false, false, false, false, false, false] rfl rfl (by kernel_rfl) (fun _ _ _ h => h) (Or.inl ⟨by rfl, ?_⟩) ?_ ?_
      rotate_left
      · intro w'
        go_simp
        with_reducible rfl
      rotate_left
      · simp only [Act.put, List.setIfInBounds_toArray, List.set_cons_zero, List.set_cons_succ, i64_w, i32_w]
        rfl
      refine pure_ (i := 24) (N := some 71) (v := ?_) (a' := ?_) #[true, true, true, true, true, true, true, true, true, true, true, true, true, true, true, true, true, true, true, true, true, true, true, true, true, false, false, false, false, false] rfl rfl (by kernel_rfl) (fun _ _ _ h => h) (Or.inl ⟨by rfl, ?_⟩) ?_ ?_
      rotate_left
      · intro w'
        go_simp
        with_reducible rfl
      rotate_left
      · simp only [Act.put, List.setIfInBounds_toArray, List.set_cons_zero, List.set_cons_succ, i64_w, i32_w]
        rfl
      refine pure_ (i := 25) (N := some 72) (v := ?_) (a' := ?_) #[true, true, true, true, true, true, true, true, true, true, true, true, true, true, true, true, true, true, true, true, true, true, true, true, true, true, false, false, false, false] rfl rfl (by kernel_rfl) (fun _ _ _ h => h) (Or.inl ⟨by rfl, ?_⟩) ?_ ?_
      rotate_left
      · intro w'
        go_simp
        with_reducible rfl
      rotate_left
      · simp only [Act.put, List.setIfInBounds_toArray, List.set_cons_zero, List.set_cons_succ, i64_w, i32_w]
        rfl
      refine take_ (i := 26) (N := some 73) (v := ?_) (a' := ?_) #[true, true, true, true, true, true, true, true, true, true, true, true, true, true, true, true, true, true, true, true, true, true, true, true, true, true, true, false, false, false] rfl rfl (by kernel_rfl) (fun _ _ _ h => h) (Or.inl ⟨by rfl, ?_⟩) hHeld ?_ ?_
      rotate_left
      · rintro w' ⟨s0, s1, s2, s3⟩
        go_simp
        with_reducible rfl
      rotate_left
      · simp only [Act.put, List.setIfInBounds_toArray, List.set_cons_zero, List.set_cons_succ, i64_w, i32_w]
        rfl
      refine last_ (i := 27) (N := some 74) #[true, true, true, true, true, true, true, true, true, true, true, true, true, true, true, true, true, true, true, true, true, true, true, true, true, true, true, true, false, false] rfl rfl (by kernel_rfl) (by decide) (fun K hK => ?_)
      refine goes_ Try.func109 (by kernel_rfl) rfl #[.pointer (some ⟨g, 0, none⟩), .pointer (some ⟨gr, 0, none⟩), .agg #[.int .i64 a, .int .i64 b, .int .u32 c]] (by rfl) rfl rfl (by simp only [List.map_toArray, List.map_cons, List.map_nil]; rfl) ?_
      with_reducible refine (lrecords_ (n := 12) (d := d4) B5.out HZ.out.1 (by decide) HW4.out HZ.out.2 a b c).mono ?_
      rintro e w6 ⟨rfl, hS6⟩
      refine ⟨_, rfl, ?_⟩
      have B6 := Aside0.mk hS6
      clear hS6
      refine hK.out _ _ ?_
      clear hK K
      refine norm_ (a' := ?_) ?_ ?_
      rotate_left
      · show Act.put _ (some 74) _ = _
        simp only [Act.put, List.setIfInBounds_toArray, List.set_cons_zero, List.set_cons_succ, i64_w, i32_w]
        rfl
      refine pure_ (i := 28) (N := some 75) (v := ?_) (a' := ?_) #[true, true, true, true, true, true, true, true, true, true, true, true, true, true, true, true, true, true, true, true, true, true, true, true, true, true, true, true, true, false] rfl rfl (by kernel_rfl) (fun _ _ _ h => h) (Or.inl ⟨by rfl, ?_⟩) ?_ ?_
      rotate_left
      · intro w'
        go_simp
        with_reducible rfl
      rotate_left
      · simp only [Act.put, List.setIfInBounds_toArray, List.set_cons_zero, List.set_cons_succ, i64_w, i32_w]
        rfl
      refine pure_ (i := 29) (N := some 76) (v := ?_) (a' := ?_) #[true, true, true, true, true, true, true, true, true, true, true, true, true, true, true, true, true, true, true, true, true, true, true, true, true, true, true, true, true, true] rfl rfl (by kernel_rfl) (fun _ _ _ h => h) (Or.inl ⟨by rfl, ?_⟩) ?_ ?_
      rotate_left
      · intro w'
        go_simp
        with_reducible rfl
      rotate_left
      · simp only [Act.put, List.setIfInBounds_toArray, List.set_cons_zero, List.set_cons_succ, i64_w, i32_w]
        rfl
      refine done_ (by kernel_rfl) ?_
      go_wp2_with fail
      go_roundg (gk - 1)
      case measure => have := AK.out; omega
      case rel => exact ⟨i + 1, d4, wt2, by go_num, by have := AK.out; omega, Nat.le_trans HD4.out AN.out.2.2, HW4.out, B6.out⟩
end Go.Proofs.Ytjngnigelkgekaa.Redo
namespace Go.Proofs.Ytjngnigelkgekaa.Frame
set_option linter.unusedVariables false
set_option linter.unusedSimpArgs false
open Go.RowKit Go.Proofs.YtjngnigelkgekaaW.PrintWords Go.Proofs.YtjngnigelkgekaaW.PrintLast Go.Proofs.YtjngnigelkgekaaW.PrintMore Go.Proofs.Ytjngnigelkgekaa.Kit Go.Proofs.Ytjngnigelkgekaa.Base Go.Proofs.Ytjngnigelkgekaa.Plain Go.Proofs.Ytjngnigelkgekaa.Root
def frameF (ep sq : Int) (b : List Int) : List Int :=
  let h := put4 ep ++ put4 sq ++ put4 (b.length : Int) ++ b
  h ++ put4 (sumF h)
theorem put4_len (n : Int) : (put4 n).length = 4 := rfl
theorem frameF_len (ep sq : Int) (b : List Int) : (frameF ep sq b).length = 16 + b.length := by
  simp only [frameF, List.length_append, put4_len]; omega
theorem frameF_bytes (ep sq : Int) {b : List Int} (hb : Bytes b) : Bytes (frameF ep sq b) := by
  unfold frameF
  exact ((((put4_bytes _).app (put4_bytes _)).app (put4_bytes _)).app hb).app (put4_bytes _)
set_option maxHeartbeats 1600000 in
set_option maxRecDepth 100000 in
theorem rframe_ {A : Option Addr} {n c : Nat} {b : List Int} {w : World} (hr : U8.C w A n b) (hn : n ≤ 1000000) {ep sq : Int} (he : 0 ≤ ep ∧ ep ≤ 4294967295) (hs : 0 ≤ sq ∧ sq ≤ 4294967295) :
    Calls Try.prog 110 #[.int .u32 ep, .int .u32 sq, .slice A n c] w fun e w' => ∃ v, e = .returned v ∧ Sep w w' [Row U8 5 v (frameF ep sq b)] := by
  have hbl := hr.1
  have HR := Aside0.mk hr
  have HS := Aside0.mk hs
  have HE := Aside0.mk he
  have HBL := Aside0.mk hbl
  have HN := Aside0.mk hn
  have hu : IntKind.u32.wrap (n : Int) = (n : Int) := by rw [IntKind.wrap_u32]; omega
  have HU : Aside0 (0 ≤ (n : Int) ∧ (n : Int) ≤ 4294967295) := ⟨by omega⟩
  clear hr hs he hbl hn
  go_enter Try.func110, Try.ntmps110
  go_wp2_with fail
  refine (rput_ (n := 0) (c := 0) (l := []) (m := ep) (Kd.C_nil _ _) HE.out (by decide)).mono ?_
  rintro e w1 ⟨v1, rfl, hS1⟩
  obtain ⟨A1, c1, rfl⟩ := hS1.rowN (n := 4) rfl
  have B1 := Aside0.mk hS1
  clear hS1
  go_wp2_with fail
  refine (rput_ (m := sq) B1.out.rowC' HS.out (by decide)).mono ?_
  rintro e w2 ⟨v2, rfl, hS2⟩
  have B2 := Aside0.mk (B1.out.lift1 hS2)
  obtain ⟨A2, c2, rfl⟩ := hS2.rowN (n := 8) rfl
  clear hS2
  go_wp2_with fail
  refine (rput_ (m := (n : Int)) B2.out.rowC' HU.out (by decide)).mono ?_
  rintro e w3 ⟨v3, rfl, hS3⟩
  have B3 := Aside0.mk (B2.out.lift1 hS3)
  obtain ⟨A3, c3, rfl⟩ := hS3.rowN (n := 12) rfl
  clear hS3
  go_wp2_with (first | (refine gate_builtin (b := .append) (xs := #[.tmp 15, .tmp 16]) rfl ?_; go_loud (refine B3.out.appendRow rfl (.tmp 15) (.tmp 16) 30 (.int .u8 0) 1 rfl Try.underlying30 Base.infoB rfl (by decide) A n c rfl rfl (Kd.C_below HR.out B3.out.toBelow) (by have := HN.out; have := HBL.out; simp only [List.length_append, put4_len, List.length_nil]; omega) ?_; intro v4 w4 hS4; have B4 := Aside0.mk hS4; clear hS4)))
  obtain ⟨h, hh⟩ : ∃ h, ([] ++ put4 ep ++ put4 sq ++ put4 (n : Int)) ++ b = h := ⟨_, rfl⟩
  have HH : Aside0 (frameF ep sq b = h ++ put4 (sumF h)) := ⟨by rw [← hh]; unfold frameF; rw [HBL.out]; rfl⟩
  have HHL : Aside0 (h.length = 12 + n) := ⟨by rw [← hh]; simp only [List.length_append, put4_len, List.length_nil, HBL.out]⟩
  rw [hh] at B4
  obtain ⟨N, hN⟩ : ∃ N, 12 + n = N := ⟨_, rfl⟩
  rw [hN] at HHL
  have HN2 : Aside0 (N ≤ 1000012) := ⟨by have := HN.out; omega⟩
  obtain ⟨A4, c4, rfl⟩ := B4.out.rowN HHL.out
  have B5 := Aside0.mk B4.out
  clear hh hN hu
  go_wp2_with fail
  refine (rsum_ (l := h) B4.out.rowC').mono ?_
  rintro e w5 ⟨rfl, rfl⟩
  go_wp2_with fail
  refine (rput_ (m := sumF h) B4.out.rowC' (Sum.sumF_in _) (by have := HN2.out; omega)).mono ?_
  rintro e w6 ⟨v6, rfl, hS6⟩
  have B6 := Aside0.mk (B4.out.lift1 hS6)
  clear hS6
  go_wp2_with fail
  go_ret
  exact ⟨_, by first | rfl | (simp; done), by rw [HH.out]; exact B6.out.drop2.drop2.drop2⟩
end Go.Proofs.Ytjngnigelkgekaa.Frame
namespace Go.Proofs.Ytjngnigelkgekaa.Tape
set_option linter.unusedVariables false
set_option linter.unusedSimpArgs false
open Go.RowKit Go.Proofs.YtjngnigelkgekaaW.PrintWords Go.Proofs.YtjngnigelkgekaaW.PrintLast Go.Proofs.YtjngnigelkgekaaW.PrintMore Go.Proofs.Ytjngnigelkgekaa.Kit
abbrev I64 : Kd Int := Kd.int .i64
/-- What Next says of its number. -/
def okN (n r : Int) : Prop := 0 ≤ r ∧ (1 ≤ n → r < n) ∧ (n < 1 → r = 0)
/-- The tape in its block. -/
abbrev Tp (g : Nat) (A : Option Addr) (n c : Nat) (at_ : Int) : HP := Blk g 46 #[.slice A n c, .int .i64 at_]
set_option maxHeartbeats 1600000 in
set_option maxRecDepth 100000 in
theorem next_ {w0 W : World} {F : List HP} {g : Nat} {A : Option Addr} {n c : Nat} {L : List Int} {p : Int} (ht : I64.C w0 A n L) (hp : 0 ≤ p) (h : Sep w0 W (Tp g A n c p :: F)) (k : Int) :
    Calls Try.prog 70 #[.pointer (some ⟨g, 0, none⟩), .int .i64 k] W fun e w' => ∃ r p', e = .returned (.int .i64 r) ∧ okN k r ∧ 0 ≤ p' ∧ Sep w0 w' (Tp g A n c p' :: F) := by
  obtain rfl : L.length = n := ht.1
  have hm : L.length ≤ 9223372036854775807 := ht.2.1
  have AH := Aside0.mk h
  have AT := Aside0.mk ht
  have c0 : ∀ q, (W.drewN q).cell? ⟨g, 0, none⟩ = some (.slice A L.length c) := fun q => ((h.drewN q).cell 0).trans rfl
  have c1 : ∀ q, (W.drewN q).cell? ⟨g, 1, none⟩ = some (.int .i64 p) := fun q => ((h.drewN q).cell 1).trans rfl
  clear h ht
  by_cases h1 : (L.length : Int) ≤ p
  · go_enter Try.func70, Try.ntmps70
    go_wp2_with fail
    go_quiet (fail)
    go_wp2_with fail
    go_ret
    exact ⟨0, p, by first | rfl | (simp; done), ⟨by decide, fun h => by omega, fun _ => rfl⟩, hp, AH.out.drewN _⟩
  · have h1' : decide ((L.length : Int) ≤ p) = false := decide_eq_false h1
    by_cases h2 : k < 1
    · go_enter Try.func70, Try.ntmps70
      go_wp2_with fail
      go_quiet (fail)
      go_wp2_with fail
      go_ret
      exact ⟨0, p, by first | rfl | (simp; done), ⟨by decide, fun h => by omega, fun _ => rfl⟩, hp, AH.out.drewN _⟩
    · have h2' : decide (k < 1) = false := decide_eq_false h2
      obtain ⟨N, rfl⟩ := Int.eq_ofNat_of_zero_le hp
      have hN : N < L.length := by omega
      obtain ⟨ad, hA, hc⟩ := Kd.at_int AT.out (N : Int) (by omega) (by omega)
      subst hA
      rw [Int.toNat_natCast] at hc
      have HX := Aside0.mk hc
      generalize rd L (N : Int) = x at *
      go_enter Try.func70, Try.ntmps70
      go_wp2_with fail
      go_quiet (fail)
      have hcell1 := c1 nq
      have hfr : (W.drewN nq).frozen? ⟨g, 1, none⟩ = false := (AH.out.drewN nq).frozen 1
      have hNl : (N : Int) < (L.length : Int) := by omega
      have hw1 : wrap64 ((N : Int) + 1) = (N : Int) + 1 := IntWalk.wrap64_in _ (by omega)
      clear c0 c1 hc
      go_wp2_with fail
      have S3 := (AH.out.drewN nq).setBlk 1 (.int .i64 ((N : Int) + 1))
      obtain ⟨w3, hw3⟩ : ∃ w3, (W.drewN nq).setCell ⟨g, 1, none⟩ (.int .i64 ((N : Int) + 1)) = w3 := ⟨_, rfl⟩
      rw [hw3] at S3 ⊢
      replace S3 : Sep w0 w3 (Tp g (some ad) L.length c ((N : Int) + 1) :: F) := S3
      have d0 : w3.drew.cell? ⟨g, 0, none⟩ = some (.slice (some ad) L.length c) := (S3.drew.cell 0).trans rfl
      have d1 : w3.drew.cell? ⟨g, 1, none⟩ = some (.int .i64 ((N : Int) + 1)) := (S3.drew.cell 1).trans rfl
      have d2 : w3.drew.cell? (ad.add N) = some (.int .i64 x) := cell_later S3.drew.toBelow HX.out
      have A3 := Aside0.mk S3.drew
      have hws : wrap64 (N : Int) = (N : Int) := IntWalk.wrap64_in _ (by omega)
      have hin := Book.withinF_in (n := x) (lo := 0) (hi := 1073741824) (by decide)
      have hr : okN k ((Book.withinF x 0 1073741824).tmod k) := ⟨Int.tmod_nonneg _ hin.1, fun _ => Int.tmod_lt_of_pos _ (by omega), fun h => by omega⟩
      have AR := Aside0.mk hr
      have hk0 : ¬ k = 0 := by omega
      have hb := hin.2
      have ha := hin.1
      clear hin hr hw3 S3 hcell1 hfr hw1
      refine start_ (n := 15) (S := fun w' => w'.cell? ⟨g, 0, none⟩ = some (.slice (some ad) L.length c) ∧ w'.cell? ⟨g, 1, none⟩ = some (.int .i64 ((N : Int) + 1)) ∧ w'.cell? (ad.add N) = some (.int .i64 x)) (ds := [11]) #[false, false, false, false, false, false, false, false, false, false, false, false, false, false, false] (by kernel_rfl) rfl rfl ⟨d0, d1, d2⟩ (fun hHeld => ?_)
      refine pure_ (i := 0) (N := some 26) (v := ?_) (a' := ?_) #[true, false, false, false, false, false, false, false, false, false, false, false, false, false, false] rfl rfl (by kernel_rfl) (fun _ _ _ h => h) (Or.inl ⟨by rfl, ?_⟩) ?_ ?_
      rotate_left
      · intro w'
        go_simp
        with_reducible rfl
      rotate_left
      · simp only [Act.put, List.setIfInBounds_toArray, List.set_cons_zero, List.set_cons_succ, i64_w, i32_w]
        rfl
      refine pure_ (i := 1) (N := some 27) (v := ?_) (a' := ?_) #[true, true, false, false, false, false, false, false, false, false, false, false, false, false, false] rfl rfl (by kernel_rfl) (fun _ _ _ h => h) (Or.inl ⟨by rfl, ?_⟩) ?_ ?_
      rotate_left
      · intro w'
        go_simp
        with_reducible rfl
      rotate_left
      · simp only [Act.put, List.setIfInBounds_toArray, List.set_cons_zero, List.set_cons_succ, i64_w, i32_w]
        rfl
      refine pure_ (i := 2) (N := some 28) (v := ?_) (a' := ?_) #[true, true, true, false, false, false, false, false, false, false, false, false, false, false, false] rfl rfl (by kernel_rfl) (fun _ _ _ h => h) (Or.inl ⟨by rfl, ?_⟩) ?_ ?_
      rotate_left
      · intro w'
        go_simp
        with_reducible rfl
      rotate_left
      · simp only [Act.put, List.setIfInBounds_toArray, List.set_cons_zero, List.set_cons_succ, i64_w, i32_w]
        rfl
      refine pure_ (i := 4) (N := some 30) (v := ?_) (a' := ?_) #[true, true, true, false, true, false, false, false, false, false, false, false, false, false, false] rfl rfl (by kernel_rfl) (fun _ _ _ h => h) (Or.inl ⟨by rfl, ?_⟩) ?_ ?_
      rotate_left
      · intro w'
        go_simp
        with_reducible rfl
      rotate_left
      · simp only [Act.put, List.setIfInBounds_toArray, List.set_cons_zero, List.set_cons_succ, i64_w, i32_w]
        rfl
      refine pure_ (i := 5) (N := some 31) (v := ?_) (a' := ?_) #[true, true, true, false, true, true, false, false, false, false, false, false, false, false, false] rfl rfl (by kernel_rfl) (fun _ _ _ h => h) (Or.inl ⟨by rfl, ?_⟩) ?_ ?_
      rotate_left
      · intro w'
        go_simp
        with_reducible rfl
      rotate_left
      · simp only [Act.put, List.setIfInBounds_toArray, List.set_cons_zero, List.set_cons_succ, i64_w, i32_w]
        rfl
      refine pure_ (i := 6) (N := some 32) (v := ?_) (a' := ?_) #[true, true, true, false, true, true, true, false, false, false, false, false, false, false, false] rfl rfl (by kernel_rfl) (fun _ _ _ h => h) (Or.inl ⟨by rfl, ?_⟩) ?_ ?_
      rotate_left
      · intro w'
        go_simp
        with_reducible rfl
      rotate_left
      · simp only [Act.put, List.setIfInBounds_toArray, List.set_cons_zero, List.set_cons_succ, i64_w, i32_w]
        rfl
      refine pure_ (i := 12) (N := some 38) (v := ?_) (a' := ?_) #[true, true, true, false, true, true, true, false, false, false, false, false, true, false, false] rfl rfl (by kernel_rfl) (fun _ _ _ h => h) (Or.inl ⟨by rfl, ?_⟩) ?_ ?_
      rotate_left
      · intro w'
        go_simp
        with_reducible rfl
      rotate_left
      · simp only [Act.put, List.setIfInBounds_toArray, List.set_cons_zero, List.set_cons_succ, i64_w, i32_w]
        rfl
      refine take_ (i := 3) (N := some 29) (v := ?_) (a' := ?_) #[true, true, true, true, true, true, true, false, false, false, false, false, true, false, false] rfl rfl (by kernel_rfl) (fun _ _ _ h => h) (Or.inl ⟨by rfl, ?_⟩) hHeld ?_ ?_
      rotate_left
      · rintro w' ⟨s0, s1, s2⟩
        go_simp
        with_reducible rfl
      rotate_left
      · simp only [Act.put, List.setIfInBounds_toArray, List.set_cons_zero, List.set_cons_succ, i64_w, i32_w]
        rfl
      refine take_ (i := 7) (N := some 33) (v := ?_) (a' := ?_) #[true, true, true, true, true, true, true, true, false, false, false, false, true, false, false] rfl rfl (by kernel_rfl) (fun _ _ _ h => h) (Or.inl ⟨by rfl, ?_⟩) hHeld ?_ ?_
      rotate_left
      · rintro w' ⟨s0, s1, s2⟩
        go_simp
        with_reducible rfl
      rotate_left
      · simp only [Act.put, List.setIfInBounds_toArray, List.set_cons_zero, List.set_cons_succ, i64_w, i32_w]
        rfl
      refine pure_ (i := 8) (N := some 34) (v := ?_) (a' := ?_) #[true, true, true, true, true, true, true, true, true, false, false, false, true, false, false] rfl rfl (by kernel_rfl) (fun _ _ _ h => h) (Or.inl ⟨by rfl, ?_⟩) ?_ ?_
      rotate_left
      · intro w'
        go_simp
        with_reducible rfl
      rotate_left
      · simp only [Act.put, List.setIfInBounds_toArray, List.set_cons_zero, List.set_cons_succ, i64_w, i32_w]
        rfl
      refine pure_ (i := 9) (N := some 35) (v := ?_) (a' := ?_) #[true, true, true, true, true, true, true, true, true, true, false, false, true, false, false] rfl rfl (by kernel_rfl) (fun _ _ _ h => h) (Or.inl ⟨by rfl, ?_⟩) ?_ ?_
      rotate_left
      · intro w'
        go_simp
        with_reducible rfl
      rotate_left
      · simp only [Act.put, List.setIfInBounds_toArray, List.set_cons_zero, List.set_cons_succ, i64_w, i32_w]
        rfl
      refine take_ (i := 10) (N := some 36) (v := ?_) (a' := ?_) #[true, true, true, true, true, true, true, true, true, true, true, false, true, false, false] rfl rfl (by kernel_rfl) (fun _ _ _ h => h) (Or.inl ⟨by rfl, ?_⟩) hHeld ?_ ?_
      rotate_left
      · rintro w' ⟨s0, s1, s2⟩
        go_simp
        with_reducible rfl
      rotate_left
      · simp only [Act.put, List.setIfInBounds_toArray, List.set_cons_zero, List.set_cons_succ, i64_w, i32_w]
        rfl
      refine last_ (i := 11) (N := some 37) #[true, true, true, true, true, true, true, true, true, true, true, true, true, false, false] rfl rfl (by kernel_rfl) (by decide) (fun K hK => ?_)
      refine goes_ Try.func19 (by kernel_rfl) rfl #[.int .i64 x, .int .i64 0, .int .i64 1073741824] (by rfl) rfl rfl (by simp only [List.map_toArray, List.map_cons, List.map_nil]; rfl) ?_
      with_reducible refine (Book.within_ _ _ _ _ (by decide) (by decide) (by decide)).mono ?_
      rintro e w4 ⟨rfl, rfl⟩
      refine ⟨_, rfl, ?_⟩
      refine hK.out _ _ ?_
      clear hK K
      refine norm_ (a' := ?_) ?_ ?_
      rotate_left
      · show Act.put _ (some 37) _ = _
        simp only [Act.put, List.setIfInBounds_toArray, List.set_cons_zero, List.set_cons_succ, i64_w, i32_w]
        rfl
      refine pure_ (i := 13) (N := some 39) (v := ?_) (a' := ?_) #[true, true, true, true, true, true, true, true, true, true, true, true, true, true, false] rfl rfl (by kernel_rfl) (fun _ _ _ h => h) (Or.inl ⟨by rfl, ?_⟩) ?_ ?_
      rotate_left
      · intro w'
        go_simp
        with_reducible rfl
      rotate_left
      · simp only [Act.put, List.setIfInBounds_toArray, List.set_cons_zero, List.set_cons_succ, i64_w, i32_w]
        rfl
      refine pure_ (i := 14) (N := some 4) (v := ?_) (a' := ?_) #[true, true, true, true, true, true, true, true, true, true, true, true, true, true, true] rfl rfl (by kernel_rfl) (fun _ _ _ h => h) (Or.inl ⟨by rfl, ?_⟩) ?_ ?_
      rotate_left
      · intro w'
        go_simp
        with_reducible rfl
      rotate_left
      · simp only [Act.put, List.setIfInBounds_toArray, List.set_cons_zero, List.set_cons_succ, i64_w, i32_w]
        rfl
      refine done_ (by kernel_rfl) ?_
      go_wp2_with fail
      go_ret
      exact ⟨_, _, by first | rfl | (simp; done), AR.out, by omega, A3.out⟩
end Go.Proofs.Ytjngnigelkgekaa.Tape
namespace Go.Proofs.Ytjngnigelkgekaa.Tape
set_option linter.unusedVariables false
set_option linter.unusedSimpArgs false
open Go.RowKit Go.Proofs.YtjngnigelkgekaaW.PrintWords Go.Proofs.YtjngnigelkgekaaW.PrintLast Go.Proofs.YtjngnigelkgekaaW.PrintMore Go.Proofs.Ytjngnigelkgekaa.Kit Go.Proofs.Ytjngnigelkgekaa.Base Go.Proofs.Ytjngnigelkgekaa.Plain Go.Proofs.Ytjngnigelkgekaa.Delta
theorem okF_more {a b : Int} (h : a ≤ b) : ∀ {l : List Chg} {last : Int}, okF a last l = true → okF b last l = true
  | [], _, _ => rfl
  | c :: r, last, hk => by
    unfold okF at hk ⊢
    rw [Bool.and_eq_true, decide_eq_true_eq] at hk ⊢
    exact ⟨⟨hk.1.1, by omega, hk.1.2.2⟩, okF_more h hk.2⟩
theorem okF_snoc {a : Int} {x : Chg} (hx : x.1 = a) (hb : x.2.length = 64) : ∀ {l : List Chg} {last : Int}, last < a → okF a last l = true → okF (a + 1) last (l ++ [x]) = true
  | [], last, hl, _ => by
    show (decide _ && true) = true
    rw [Bool.and_true, decide_eq_true_eq]
    omega
  | c :: r, last, hl, hk => by
    rw [List.cons_append]
    unfold okF at hk ⊢
    rw [Bool.and_eq_true, decide_eq_true_eq] at hk ⊢
    exact ⟨⟨hk.1.1, by omega, hk.1.2.2⟩, okF_snoc hx hb (by omega) hk.2⟩
theorem bytes_set {l : List Int} (h : Bytes l) {x : Int} (h0 : 0 ≤ x) (h1 : x ≤ 255) (i : Nat) : Bytes (l.set i x) := by
  intro y hy
  rcases List.mem_or_eq_of_mem_set hy with h2 | rfl
  · exact h y h2
  · exact ⟨h0, h1⟩
/-- What is said of changes that a tape made. -/
def good (m : Nat) (l : List Chg) : Prop := okF (m : Int) (-1) l = true ∧ (∀ c ∈ l, Bytes c.2) ∧ l.length ≤ m
theorem good.more {j : Nat} {l : List Chg} (h : good j l) : good (j + 1) l := ⟨okF_more (by omega) h.1, h.2.1, by have := h.2.2; omega⟩
theorem good.snoc {j : Nat} {l : List Chg} (h : good j l) {bs : List Int} (hb : Bytes bs) (hl : bs.length = 64) : good (j + 1) (l ++ [((j : Int), bs)]) :=
  ⟨by have := okF_snoc (x := ((j : Int), bs)) rfl hl (by omega) h.1; rwa [show ((j + 1 : Nat) : Int) = (j : Int) + 1 by omega], fun c hc => by
    rcases List.mem_append.1 hc with h1 | h1
    · exact h.2.1 c h1
    · obtain rfl := List.mem_singleton.1 h1; exact hb, by rw [List.length_append, List.length_singleton]; have := h.2.2; omega⟩
set_option maxHeartbeats 3200000 in
set_option maxRecDepth 100000 in
theorem changes_ {w0 W : World} {F : List HP} {g : Nat} {A : Option Addr} {n c : Nat} {L : List Int} {p : Int} (ht : I64.C w0 A n L) (hp : 0 ≤ p) (h : Sep w0 W (Tp g A n c p :: F)) (m : Nat) (hm : m ≤ 1000) :
    Calls Try.prog 28 #[.pointer (some ⟨g, 0, none⟩), .int .i64 (m : Int)] W fun e w' => ∃ v l p', e = .returned v ∧ good m l ∧ 0 ≤ p' ∧ Sep w0 w' (Row KC 106 v l :: Tp g A n c p' :: F) := by
  have A0 := Aside0.mk (h.nilRow KC 106)
  have AT := Aside0.mk ht
  have hmk := make_ (m := 64) (by omega)
  rw [show ((64 : Nat) : Int) = 64 from rfl] at hmk
  clear h ht
  go_enter Try.func28, Try.ntmps28
  go_wp2_with fail
  go_loopg [5, 6] m (fun k v s wr => ∃ (j : Nat) (l : List Chg) (p : Int), s = .int .i64 (j : Int) ∧ j + k = m ∧ good j l ∧ 0 ≤ p ∧ Sep w0 wr (Row KC 106 v l :: Tp g A n c p :: F))
  case atStart => exact ⟨0, [], p, rfl, by omega, ⟨rfl, (fun _ h => by cases h), Nat.le_refl _⟩, hp, A0.out⟩
  case round =>
    obtain ⟨j, l, p1, rfl, hjm, hg, hp1, hS⟩ := hrel
    obtain ⟨A3, c3, rfl⟩ := hS.rowV
    obtain ⟨G, rfl⟩ : ∃ G, G = gk := ⟨_, rfl⟩
    have AK := Aside0.mk hjm
    have AG := Aside0.mk (And.intro hg hp1)
    have AS := Aside0.mk hS
    clear hS hg hp1 hp
    by_cases hj : j < m
    · clear hjm
      go_wp2_with fail
      refine (next_ AT.out AG.out.2 AS.out.at2 3).mono ?_
      rintro e w1 ⟨r1, p2, rfl, hr1, hp2, hS1⟩
      have A1 := Aside0.mk hS1
      have AP := Aside0.mk hp2
      clear hS1 hp2 hr1
      by_cases hz : r1 = 0
      · subst hz
        have M0 := Aside0.mk (A1.out.madeRow (enc := Value.int .u8) (h1 := fun _ => rfl) (e := 5) (0 : Int) 64 (by omega))
        go_wp2_with fail
        go_loopg [8] 4 (fun k s wx => ∃ (i : Nat) (bs : List Int) (p : Int), s = .int .i64 (i : Int) ∧ i + k = 4 ∧ bs.length = 64 ∧ Bytes bs ∧ 0 ≤ p ∧ Sep w0 wx (Row U8 5 (.slice (some ⟨w1.heap.size, 0, none⟩) 64 64) bs :: Tp g A n c p :: Row KC 106 (.slice A3 l.length c3) l :: F))
        case atStart => exact ⟨0, _, p2, rfl, by omega, List.length_replicate, fun x hx => by rw [(List.mem_replicate.1 hx).2]; decide, AP.out, M0.out⟩
        case round =>
          obtain ⟨i, bs, p3, rfl, hik, hbl, hbs, hp3, hS3⟩ := hrel
          have AI := Aside0.mk hik
          have A3' := Aside0.mk hS3
          have AB := Aside0.mk (And.intro hbl (And.intro hbs hp3))
          clear hS3 hbl hbs hp3
          by_cases hi : i < 4
          · clear hik
            go_wp2_with fail
            refine (next_ AT.out AB.out.2.2 A3'.out.at2 64).mono ?_
            rintro e w4 ⟨r4, p4, rfl, hr4, hp4, hS4⟩
            have A4 := Aside0.mk hS4
            have AP4 := Aside0.mk hp4
            obtain ⟨R, rfl⟩ := Int.eq_ofNat_of_zero_le hr4.1
            have hR : R < 64 := by have := hr4.2.1 (by decide); omega
            clear hS4 hp4 hr4
            go_wp2_with fail
            refine (next_ AT.out AP4.out A4.out 256).mono ?_
            rintro e w5 ⟨r5, p5, rfl, hr5, hp5, hS5⟩
            have hu0 := hr5.1
            have hu1 := hr5.2.1 (by decide)
            have hwu : IntKind.u8.wrap r5 = r5 := by rw [IntKind.wrap_u8]; omega
            obtain ⟨f1, f2⟩ := hS5.at2.rowCell (0 : Int) R hR
            have A5 := Aside0.mk hS5
            have AP5 := Aside0.mk hp5
            have hR2 : (R : Int) < 64 := by omega
            clear hS5 hp5 hr5
            go_wp2
            go_roundg (gk - 1)
            case measure => have := AI.out; omega
            case rel => exact ⟨i + 1, bs.set R r5, p5, by go_num, by have := AI.out; omega, by rw [List.length_set]; exact AB.out.1, bytes_set AB.out.2.1 hu0 (by omega) R, AP5.out, A5.out.at2.putRow (enc := Value.int .u8) R r5⟩
          · have hi4 : i = 4 := by omega
            subst hi4
            have E5 := Aside0.mk ((A3'.out.elSlice.elPair (a := Kd.int .i64) (x := (j : Int)) (p := [.int .i64 (j : Int)]) (fun _ _ _ => rfl)).at3)
            have hll : l.length ≤ 1000 := by have := AG.out.1.2.2; omega
            clear hik
            go_wp2_with (first | (refine gate_builtin (b := .append) (xs := #[.tmp 29, .tmp 33]) rfl ?_; go_loud (refine E5.out.appendDeep rfl (.tmp 29) (.tmp 33) 47 _ 32 rfl Try.underlying47 infoCh rfl (by decide) (by decide) rfl rfl (by omega) ?_; intro v6 w6 hs6 hS6; have A6 := Aside0.mk hS6; clear hS6)))
            go_roundg (G - 1)
            case measure => have := AK.out; omega
            case rel => exact ⟨j + 1, l ++ [((j : Int), bs)], p3, by go_num, by have := AK.out; omega, AG.out.1.snoc AB.out.2.1 AB.out.1, AB.out.2.2, A6.out⟩
      · go_wp2_with fail
        go_roundg (G - 1)
        case measure => have := AK.out; omega
        case rel => exact ⟨j + 1, l, p2, by go_num, by have := AK.out; omega, AG.out.1.more, AP.out, A1.out.at2⟩
    · have hjm2 : j = m := by omega
      subst hjm2
      clear hjm
      go_wp2_with fail
      go_ret
      exact ⟨_, l, p1, by first | rfl | (simp; done), AG.out.1, AG.out.2, AS.out⟩
end Go.Proofs.Ytjngnigelkgekaa.Tape
namespace Go.Proofs.Ytjngnigelkgekaa.Redo
set_option linter.unusedVariables false
set_option linter.unusedSimpArgs false
open Go.RowKit Go.Proofs.YtjngnigelkgekaaW.PrintWords Go.Proofs.YtjngnigelkgekaaW.PrintLast Go.Proofs.YtjngnigelkgekaaW.PrintMore Go.Proofs.Ytjngnigelkgekaa.Kit Go.Proofs.Ytjngnigelkgekaa.Plain Go.Proofs.Ytjngnigelkgekaa.Disk Go.Proofs.Ytjngnigelkgekaa.Root Go.Proofs.Ytjngnigelkgekaa.Frame
open Go.Proofs.Ytjngnigelkgekaa.Home (K2 RT)
open Go.Proofs.Ytjngnigelkgekaa.Delta (Chg KC deltaF oneF two okF)
open Go.Proofs.Ytjngnigelkgekaa.Tape (Tp okN good)
/-- A tape, wherever it is read. -/
def TpX (g : Nat) (A : Option Addr) (n c : Nat) : HP := Ex fun p : Int => Star [Pu (0 ≤ p), Tp g A n c p]
section
variable {w0 W : World} {F : List HP} {g n c : Nat} {A : Option Addr} {L : List Int}
theorem tpx_open (h : Sep w0 W (TpX g A n c :: F)) : ∃ p : Int, 0 ≤ p ∧ Sep w0 W (Tp g A n c p :: F) := by
  obtain ⟨p, h1⟩ := h.ex
  obtain ⟨h2, h3⟩ := h1.star.pu
  exact ⟨p, h2, h3⟩
theorem tpx_shut {p : Int} (hp : 0 ≤ p) (h : Sep w0 W (Tp g A n c p :: F)) : Sep w0 W (TpX g A n c :: F) := Sep.unex p (Sep.unstar (L := [_, _]) (h.unpu hp))
theorem nextX_ (ht : I64.C w0 A n L) (h : Sep w0 W (TpX g A n c :: F)) (k : Int) :
    Calls Try.prog 70 #[.pointer (some ⟨g, 0, none⟩), .int .i64 k] W fun e w' => ∃ r, e = .returned (.int .i64 r) ∧ okN k r ∧ Sep w0 w' (TpX g A n c :: F) := by
  obtain ⟨p, hp, h2⟩ := tpx_open h
  refine (Tape.next_ ht hp h2 k).mono ?_
  rintro e w' ⟨r, p', rfl, ho, hp', hS⟩
  exact ⟨r, rfl, ho, tpx_shut hp' hS⟩
/-- As a call of open order is told. -/
theorem nextQ_ (ht : I64.C w0 A n L) (h : Sep w0 W (TpX g A n c :: F)) (k : Int) :
    Calls Try.prog 70 #[.pointer (some ⟨g, 0, none⟩), .int .i64 k] W fun e w' => ∃ r, e = .returned (.int .i64 r) ∧ Sep w0 w' (TpX g A n c :: F) := by
  refine (nextX_ ht h k).mono ?_
  rintro e w' ⟨r, rfl, ho, hS⟩
  exact ⟨r, rfl, hS⟩
theorem changesX_ (ht : I64.C w0 A n L) (h : Sep w0 W (TpX g A n c :: F)) (m : Nat) (hm : m ≤ 1000) :
    Calls Try.prog 28 #[.pointer (some ⟨g, 0, none⟩), .int .i64 (m : Int)] W fun e w' => ∃ v l, e = .returned v ∧ good m l ∧ Sep w0 w' (Row KC 106 v l :: TpX g A n c :: F) := by
  obtain ⟨p, hp, h2⟩ := tpx_open h
  refine (Tape.changes_ ht hp h2 m hm).mono ?_
  rintro e w' ⟨v, l, p', rfl, hg, hp', hS⟩
  exact ⟨v, l, rfl, hg, (tpx_shut hp' hS.at2).at2⟩
theorem modify_at (a : Array Obj) (g : Nat) (f : Obj → Obj) (k : Nat) (h : k ≠ g) : (a.modify g f)[k]? = a[k]? := by
  rw [Array.getElem?_modify, if_neg (fun h2 => h h2.symm)]
/-- A literal's block is marked: it reads so for good. -/
theorem freezeRun {C : Array Value} {m k : Nat} {xs : List Int} (h : Sep w0 W (Blk g 5 C :: F)) (hC : C = (xs.map (Value.int .u8)).toArray) (hn : xs.length ≤ 9223372036854775807) :
    ∃ W', (convert 30 30 (.slice (some ⟨g, 0, none⟩) m k)).run Try.prog W = .ok (.slice (some ⟨g, 0, none⟩) m k) W' ∧ Sep w0 W' (Fx (fun W' => (Kd.int .u8).C W' (some ⟨g, 0, none⟩) xs.length xs) :: F) := by
  have hb := h.blk
  have hlt := blk_lt hb
  have hsh : W.shape? g = some (5, C.size) := by
    unfold World.shape?
    rw [hb]
  have hrun : (convert 30 30 (.slice (some ⟨g, 0, none⟩) m k)).run Try.prog W = .ok (.slice (some ⟨g, 0, none⟩) m k) (W.freeze ⟨g, C.size, none⟩ 1) := by
    simp [convert, run_underlying Try.underlying30, run_underlying Try.underlying5, markStringish, hsh]
  have hfz : ∃ f : Obj → Obj, (∀ c t, f (.cells c t (0, 0)) = .cells c t (C.size, C.size + 1)) ∧ W.freeze ⟨g, C.size, none⟩ 1 = { W with heap := W.heap.modify g f } := by
    unfold World.freeze
    rw [if_neg (by decide)]
    exact ⟨_, fun _ _ => rfl, rfl⟩
  obtain ⟨f, hf, hfz⟩ := hfz
  refine ⟨_, hrun, ?_⟩
  rw [hfz]
  have hnew : (W.heap.modify g f)[g]? = some (.cells C 5 (C.size, C.size + 1)) := by
    rw [Array.getElem?_modify, if_pos rfl, hb]
    exact congrArg some (hf _ _)
  refine h.step ⟨rfl, rfl, rfl, by simp⟩ (fun ok hp => ⟨fun j _ hn' => modify_at _ _ _ _ (fun he => hn' ((hp.1 j).2 he)), fun j => j = g, ⟨fun W2 hm => ?_, fun j hj => by rw [hj]; simpa using hlt⟩, fun j hj => .inl ((hp.1 j).2 hj)⟩)
  refine Kd.C_of_reads (enc := Value.int .u8) (d := 0) (h1 := fun _ => rfl) ⟨rfl, hn, fun _ => ⟨_, rfl, fun j hj => ?_⟩⟩
  have h3 := (hm g rfl).trans hnew
  rw [add_plain]
  unfold World.cell?
  simp only [h3]
  subst hC
  simp [List.getD_eq_getElem?_getD, hj]
end
/-- "no changes". -/
abbrev nc : List Int := [110, 111, 32, 99, 104, 97, 110, 103, 101, 115]
theorem nc_bytes : Bytes nc := fun x hx => by
  simp at hx
  omega
theorem wrap32_in (z : Int) : 0 ≤ IntKind.u32.wrap z ∧ IntKind.u32.wrap z ≤ 4294967295 := by rw [IntKind.wrap_u32]; omega
theorem two_bytes {n : Int} : Bytes (two n) := fun x hx => by
  simp [two] at hx
  omega
theorem flat_bytes : ∀ {l : List Chg}, (∀ c ∈ l, Bytes c.2) → Bytes (l.flatMap oneF)
  | [], _ => Bytes.nil
  | c :: r, h => by
    rw [List.flatMap_cons]
    exact (two_bytes.app (h c (List.mem_cons_self ..))).app (flat_bytes (fun x hx => h x (List.mem_cons_of_mem _ hx)))
theorem okF_len : ∀ {l : List Chg} {pages last : Int}, okF pages last l = true → (l.flatMap oneF).length = 66 * l.length
  | [], _, _, _ => rfl
  | c :: r, pages, last, h => by
    unfold okF at h
    rw [Bool.and_eq_true, decide_eq_true_eq] at h
    rw [List.flatMap_cons, List.length_append, okF_len h.2, oneF, List.length_append, h.1.2.2, List.length_cons]
    simp [two]; omega
theorem delta_good {m : Nat} {l : List Chg} (h : good m l) : Bytes (deltaF l) ∧ (deltaF l).length ≤ 2 + 66 * m := by
  refine ⟨two_bytes.app (flat_bytes h.2.1), ?_⟩
  unfold deltaF
  rw [List.length_append, okF_len h.1]
  have := h.2.2
  simp [two]; omega
theorem xor8_in (x t : Int) : 0 ≤ Go.bits .xor .u8 x t ∧ Go.bits .xor .u8 x t ≤ 255 := by
  have e : ∀ z, 0 ≤ IntKind.u8.wrap z ∧ IntKind.u8.wrap z ≤ 255 := fun z => by rw [IntKind.wrap_u8]; omega
  show 0 ≤ IntKind.u8.wrap ((BitVec.ofInt 8 x ^^^ BitVec.ofInt 8 t).toNat : Int) ∧ _
  exact e _
end Go.Proofs.Ytjngnigelkgekaa.Redo
