/- Root7, Root9, Deep: what HealTwice needs. -/
import Derived.Test.YtjngnigelkgekaaGreatThealTwice9
set_option linter.unusedVariables false
set_option linter.unusedSimpArgs false
namespace Go.Proofs.YtjngnigelkgekaaGreat.Root
open Go.RowKit Go.Proofs.YtjngnigelkgekaaGreatW.PrintWords Go.Proofs.YtjngnigelkgekaaGreatW.PrintLast Go.Proofs.YtjngnigelkgekaaGreatW.PrintMore Go.Proofs.YtjngnigelkgekaaGreat.Kit Go.Proofs.YtjngnigelkgekaaGreat.Plain Go.Proofs.YtjngnigelkgekaaGreat.Disk Go.Proofs.YtjngnigelkgekaaGreat.Ref
section
variable {w0 W : World} {F : List HP} {g n : Nat} {las : List Int} {wt : Wt} {left done : Int}
theorem rdread_ (h : Sep w0 W (RD g n las (flushed las wt) (waitL n wt) left done :: F)) (hl : las.length = 64 * n) (hw : ∀ i b, wt i = some b → b.length = 64) (j : Nat) :
    Calls Tryz.prog 109 #[.pointer (some ⟨g, 0, none⟩), .int .i64 (j : Int)] W fun e w' => ∃ A m c ok, e = .returned (.tuple #[.slice A m c, .bool ok]) ∧ m ≤ c ∧ U8.C w' A m (secF n las wt j) ∧ Sep w0 w' (RD g n las (flushed las wt) (waitL n wt) left done :: F) := by
  by_cases hj : j < n
  · refine (rread_ h hl hw j hj).mono ?_
    rintro e w' ⟨v, rfl, hS⟩
    obtain ⟨A, c, rfl⟩ := hS.rowV
    have hC := hS.rowC
    exact ⟨A, _, c, true, rfl, hC.2.1, by unfold secF; rw [if_pos hj]; exact hC.2.2, hS.tail⟩
  · refine (Ref.read_out h (j : Int) (by omega)).mono ?_
    rintro e w' ⟨rfl, rfl⟩
    exact ⟨none, 0, 0, false, rfl, Nat.le_refl _, by unfold secF; rw [if_neg hj]; exact Kd.C_nil _ _, h⟩
theorem right_epoch {x y z n : Int} (h : rightR x y z n = true) : 1 ≤ z := by
  unfold rightR at h
  exact (of_decide_eq_true h).2.2.2.2.2
set_option maxHeartbeats 1600000 in
set_option maxRecDepth 100000 in
theorem rbest_ (h : Sep w0 W (RD g n las (flushed las wt) (waitL n wt) left done :: F)) (hl : las.length = 64 * n) (hw : ∀ i b, wt i = some b → b.length = 64) (hb : ∀ j, Bytes (secF n las wt j)) :
    Calls Tryz.prog 74 #[.pointer (some ⟨g, 0, none⟩)] W fun e w' => e = .returned (.tuple #[rootV (bestTo n (secF n las wt) 2), .bool (decide (0 < (bestTo n (secF n las wt) 2).2.2))]) ∧ Sep w0 w' (RD g n las (flushed las wt) (waitL n wt) left done :: F) := by
  have A0 := (h.newBlk 80 #[.int .i64 0, .int .i64 0, .int .u32 0]).newBlk 80 #[.int .i64 0, .int .i64 0, .int .u32 0]
  rw [show ∀ o : Obj, (W.alloc o).heap.size = W.heap.size + 1 from fun o => by simp] at A0
  have A0' := Aside0.mk A0
  have HB := Aside0.mk hb
  have HW := Aside0.mk hw
  have HL := Aside0.mk hl
  clear h A0 hb hw hl
  obtain ⟨s, hs⟩ : ∃ s, secF n las wt = s := ⟨_, rfl⟩
  have HS := Aside0.mk hs
  rw [hs]
  rw [hs] at HB
  clear hs
  go_enter Tryz.func74, Tryz.ntmps74
  go_wp2_with fail
  go_loopg [5, 6] 2 (fun m v p wr => ∃ (j : Nat) (x y z : Int), p = .int .i64 (j : Int) ∧ j + m = 2 ∧ bestTo n s j = (x, y, z) ∧ 0 ≤ z ∧ v = .bool (decide (0 < z)) ∧ Sep w0 wr (Blk (W.heap.size + 1) 80 #[.int .i64 x, .int .i64 y, .int .u32 z] :: Blk W.heap.size 80 #[.int .i64 0, .int .i64 0, .int .u32 0] :: RD g n las (flushed las wt) (waitL n wt) left done :: F))
  case atStart => exact ⟨0, 0, 0, 0, rfl, rfl, rfl, by decide, rfl, A0'.out⟩
  case round =>
    obtain ⟨j, bx, by_, bz, rfl, hjm, hbt, hz0, rfl, hS⟩ := hrel
    have AK := Aside0.mk hjm
    have HBT := Aside0.mk hbt
    have AS := Aside0.mk hS
    have HZ := Aside0.mk hz0
    clear hS hbt
    by_cases hj : j < 2
    · have hj2 : (j : Int) < 2 := by omega
      have HST : Aside0 (bestTo n s (j + 1) = pickF n (bestTo n s j) (s j)) := ⟨rfl⟩
      clear hjm hz0
      go_wp2_with fail
      refine (rdread_ AS.out.at3 HL.out HW.out j).mono ?_
      rintro e w1 ⟨A1, m1, c1, ok, rfl, hmc, hC1, hS1⟩
      rw [HS.out] at hC1
      have HBj := Aside0.mk (HB.out j)
      have B1 := Aside0.mk hS1
      have HC1 := Aside0.mk (And.intro hC1 hmc)
      obtain ⟨l, hlj⟩ : ∃ l, s j = l := ⟨_, rfl⟩
      rw [hlj] at HC1 HST HBj
      clear hS1 hC1 hmc hlj
      go_wp2_with fail
      refine (unroot_ HC1.out.1 HC1.out.2 HBj.out).mono ?_
      rintro e w2 ⟨rfl, hb2⟩
      have B2 := Aside0.mk (B1.out.below hb2)
      clear hb2
      cases hu : unrootF l with
      | none =>
        rw [readV_none hu]
        have HST2 := Aside0.mk (HST.out.trans (pick_none hu))
        have B3 := Aside0.mk (B2.out.newBlk 80 #[.int .i64 0, .int .i64 0, .int .u32 0])
        clear hu
        go_wp2_with fail
        go_quiet (fail)
        have B4 := Aside0.mk ((B3.out.drewN nq).tail.at2.at3)
        go_wp2_with fail
        go_roundg (gk - 1)
        case measure => have := AK.out; omega
        case rel => exact ⟨j + 1, bx, by_, bz, by go_num, by have := AK.out; omega, by rw [HST2.out, HBT.out], HZ.out, rfl, B4.out.at2⟩
      | some r =>
        obtain ⟨x, y, z⟩ := r
        rw [readV_some hu]
        have HU := Aside0.mk hu
        have B3 := Aside0.mk (B2.out.newBlk 80 #[.int .i64 x, .int .i64 y, .int .u32 z]).drew
        clear hu
        cases hrt : rightR x y z n with
        | false =>
            have HRT := Aside0.mk hrt
            clear hrt
            go_wp2_with fail
            refine start_ (n := 18) (S := fun w' => w'.cell? ⟨w2.heap.size, 0, none⟩ = some (.int .i64 x) ∧ w'.cell? ⟨w2.heap.size, 1, none⟩ = some (.int .i64 y) ∧ w'.cell? ⟨w2.heap.size, 2, none⟩ = some (.int .u32 z) ∧ w'.cell? ⟨W.heap.size + 1, 2, none⟩ = some (.int .u32 bz)) (ds := []) #[Z,Z,Z,Z,Z,Z,Z,Z,Z,Z,Z,Z,Z,Z,Z,Z,Z,Z] (by kernel_rfl) rfl rfl ⟨(B3.out.cell 0).trans rfl, (B3.out.cell 1).trans rfl, (B3.out.cell 2).trans rfl, (B3.out.at3.cell 2).trans rfl⟩ (fun hHeld => ?_)
            refine pu_ 0 26 ?_ #[J,Z,Z,Z,Z,Z,Z,Z,Z,Z,Z,Z,Z,Z,Z,Z,Z,Z] rfl rfl ?_ ?_ ?_ ?_
            rotate_left
            · intro w'
              go_simp
              with_reducible rfl
            rotate_left
            · simp only [aP]
              rfl
            refine pu_ 1 27 ?_ #[J,J,Z,Z,Z,Z,Z,Z,Z,Z,Z,Z,Z,Z,Z,Z,Z,Z] rfl rfl ?_ ?_ ?_ ?_
            rotate_left
            · intro w'
              go_simp
              with_reducible rfl
            rotate_left
            · simp only [aP]
              rfl
            refine pu_ 3 29 ?_ #[J,J,Z,J,Z,Z,Z,Z,Z,Z,Z,Z,Z,Z,Z,Z,Z,Z] rfl rfl ?_ ?_ ?_ ?_
            rotate_left
            · intro w'
              go_simp
              with_reducible rfl
            rotate_left
            · simp only [aP]
              rfl
            refine ta_ 2 28 ?_ #[J,J,J,J,Z,Z,Z,Z,Z,Z,Z,Z,Z,Z,Z,Z,Z,Z] rfl rfl ?_ hHeld ?_ ?_ ?_
            rotate_left
            · rintro w' ⟨s0, s1, s2, s3⟩
              go_simp
              with_reducible rfl
            rotate_left
            · simp only [aP]
              rfl
            refine one_ (i := 4) (N := some 30) #[J,J,J,J,J,Z,Z,Z,Z,Z,Z,Z,Z,Z,Z,Z,Z,Z] rfl rfl (by kernel_rfl) (by decide) (fun K hK => ?_)
            refine goes_ Tryz.func78 (by kernel_rfl) rfl #[.pointer (some ⟨g, 0, none⟩)] (by rfl) rfl rfl (by simp only [List.map_toArray, List.map_cons, List.map_nil]; rfl) ?_
            with_reducible refine (Ref.len_ B3.out.at2).mono ?_
            rintro e w4 ⟨rfl, rfl⟩
            refine ⟨_, rfl, ?_⟩
            refine hK.out _ _ ⟨(B3.out.cell 0).trans rfl, (B3.out.cell 1).trans rfl, (B3.out.cell 2).trans rfl, (B3.out.at3.cell 2).trans rfl⟩ (fun hHeld => ?_)
            clear hK K
            refine norm_ (a' := ?_) ?_ ?_
            rotate_left
            · show Act.put _ (some 30) _ = _
              simp only [aP]
              rfl
            refine one_ (i := 5) (N := some 31) #[J,J,J,J,J,J,Z,Z,Z,Z,Z,Z,Z,Z,Z,Z,Z,Z] rfl rfl (by kernel_rfl) (by decide) (fun K hK => ?_)
            refine goes_ Tryz.func77 (by kernel_rfl) rfl #[.agg #[.int .i64 x, .int .i64 y, .int .u32 z], .int .i64 (n : Int)] (by rfl) rfl rfl (by simp only [List.map_toArray, List.map_cons, List.map_nil]; rfl) ?_
            with_reducible refine (rright_ x y z (n : Int) _).mono ?_
            rintro e w5 ⟨rfl, hb5⟩
            refine ⟨_, rfl, ?_⟩
            rw [HRT.out]
            have B5 := Aside0.mk (B3.out.below hb5)
            clear hb5
            refine hK.out _ _ ⟨(B5.out.cell 0).trans rfl, (B5.out.cell 1).trans rfl, (B5.out.cell 2).trans rfl, (B5.out.at3.cell 2).trans rfl⟩ (fun hHeld => ?_)
            clear hK K
            refine norm_ (a' := ?_) ?_ ?_
            rotate_left
            · show Act.put _ (some 31) _ = _
              simp only [aP]
              rfl
            refine pu_ 6 32 ?_ #[J,J,J,J,J,J,J,Z,Z,Z,Z,Z,Z,Z,Z,Z,Z,Z] rfl rfl ?_ ?_ ?_ ?_
            rotate_left
            · intro w'
              go_simp
              with_reducible rfl
            rotate_left
            · simp only [aP]
              rfl
            refine pu_ 7 33 ?_ #[J,J,J,J,J,J,J,J,Z,Z,Z,Z,Z,Z,Z,Z,Z,Z] rfl rfl ?_ ?_ ?_ ?_
            rotate_left
            · intro w'
              go_simp
              with_reducible rfl
            rotate_left
            · simp only [aP]
              rfl
            refine pure_ (i := 8) (N := some 34) (v := undef) (a' := ?_) #[J,J,J,J,J,J,J,J,J,Z,Z,Z,Z,Z,Z,Z,Z,Z] rfl rfl (by kernel_rfl) (fun _ _ _ h => h) (Or.inr ⟨by rfl, rfl⟩) ?_ ?_
            rotate_left
            · simp only [aP]
              rfl
            refine pure_ (i := 9) (N := some 35) (v := undef) (a' := ?_) #[J,J,J,J,J,J,J,J,J,J,Z,Z,Z,Z,Z,Z,Z,Z] rfl rfl (by kernel_rfl) (fun _ _ _ h => h) (Or.inr ⟨by rfl, rfl⟩) ?_ ?_
            rotate_left
            · simp only [aP]
              rfl
            refine pure_ (i := 10) (N := some 36) (v := undef) (a' := ?_) #[J,J,J,J,J,J,J,J,J,J,J,Z,Z,Z,Z,Z,Z,Z] rfl rfl (by kernel_rfl) (fun _ _ _ h => h) (Or.inr ⟨by rfl, rfl⟩) ?_ ?_
            rotate_left
            · simp only [aP]
              rfl
            refine pure_ (i := 11) (N := some 37) (v := undef) (a' := ?_) #[J,J,J,J,J,J,J,J,J,J,J,J,Z,Z,Z,Z,Z,Z] rfl rfl (by kernel_rfl) (fun _ _ _ h => h) (Or.inr ⟨by rfl, rfl⟩) ?_ ?_
            rotate_left
            · simp only [aP]
              rfl
            refine pure_ (i := 12) (N := some 38) (v := undef) (a' := ?_) #[J,J,J,J,J,J,J,J,J,J,J,J,J,Z,Z,Z,Z,Z] rfl rfl (by kernel_rfl) (fun _ _ _ h => h) (Or.inr ⟨by rfl, rfl⟩) ?_ ?_
            rotate_left
            · simp only [aP]
              rfl
            refine pure_ (i := 13) (N := some 39) (v := undef) (a' := ?_) #[J,J,J,J,J,J,J,J,J,J,J,J,J,J,Z,Z,Z,Z] rfl rfl (by kernel_rfl) (fun _ _ _ h => h) (Or.inr ⟨by rfl, rfl⟩) ?_ ?_
            rotate_left
            · simp only [aP]
              rfl
            refine pure_ (i := 14) (N := some 40) (v := undef) (a' := ?_) #[J,J,J,J,J,J,J,J,J,J,J,J,J,J,J,Z,Z,Z] rfl rfl (by kernel_rfl) (fun _ _ _ h => h) (Or.inr ⟨by rfl, rfl⟩) ?_ ?_
            rotate_left
            · simp only [aP]
              rfl
            refine pure_ (i := 15) (N := some 41) (v := undef) (a' := ?_) #[J,J,J,J,J,J,J,J,J,J,J,J,J,J,J,J,Z,Z] rfl rfl (by kernel_rfl) (fun _ _ _ h => h) (Or.inr ⟨by rfl, rfl⟩) ?_ ?_
            rotate_left
            · simp only [aP]
              rfl
            refine pure_ (i := 16) (N := some 42) (v := undef) (a' := ?_) #[J,J,J,J,J,J,J,J,J,J,J,J,J,J,J,J,J,Z] rfl rfl (by kernel_rfl) (fun _ _ _ h => h) (Or.inr ⟨by rfl, rfl⟩) ?_ ?_
            rotate_left
            · simp only [aP]
              rfl
            refine pu_ 17 43 ?_ #[J,J,J,J,J,J,J,J,J,J,J,J,J,J,J,J,J,J] rfl rfl ?_ ?_ ?_ ?_
            rotate_left
            · intro w'
              go_simp
              with_reducible rfl
            rotate_left
            · simp only [aP]
              rfl
            refine done_ (by kernel_rfl) ?_
            have HST2 := Aside0.mk (HST.out.trans (pick_no HU.out (fun h => by have := HRT.out.symm.trans h.1; cases this)))
            go_wp2_with fail
            go_roundg (gk - 1)
            case measure => have := AK.out; omega
            case rel => exact ⟨j + 1, bx, by_, bz, by go_num, by have := AK.out; omega, by rw [HST2.out, HBT.out], HZ.out, rfl, B5.out.at3.drop2.sw23⟩
        | true =>
          have HRT := Aside0.mk hrt
          have HZ1 := Aside0.mk (right_epoch hrt)
          clear hrt
          by_cases hin : 0 < bz
          case neg =>
            have hin' : decide (0 < bz) = false := decide_eq_false hin
            rw [hin']
            go_wp2_with fail
            refine start_ (n := 18) (S := fun w' => w'.cell? ⟨w2.heap.size, 0, none⟩ = some (.int .i64 x) ∧ w'.cell? ⟨w2.heap.size, 1, none⟩ = some (.int .i64 y) ∧ w'.cell? ⟨w2.heap.size, 2, none⟩ = some (.int .u32 z) ∧ w'.cell? ⟨W.heap.size + 1, 2, none⟩ = some (.int .u32 bz)) (ds := []) #[Z,Z,Z,Z,Z,Z,Z,Z,Z,Z,Z,Z,Z,Z,Z,Z,Z,Z] (by kernel_rfl) rfl rfl ⟨(B3.out.cell 0).trans rfl, (B3.out.cell 1).trans rfl, (B3.out.cell 2).trans rfl, (B3.out.at3.cell 2).trans rfl⟩ (fun hHeld => ?_)
            refine pu_ 0 26 ?_ #[J,Z,Z,Z,Z,Z,Z,Z,Z,Z,Z,Z,Z,Z,Z,Z,Z,Z] rfl rfl ?_ ?_ ?_ ?_
            rotate_left
            · intro w'
              go_simp
              with_reducible rfl
            rotate_left
            · simp only [aP]
              rfl
            refine pu_ 1 27 ?_ #[J,J,Z,Z,Z,Z,Z,Z,Z,Z,Z,Z,Z,Z,Z,Z,Z,Z] rfl rfl ?_ ?_ ?_ ?_
            rotate_left
            · intro w'
              go_simp
              with_reducible rfl
            rotate_left
            · simp only [aP]
              rfl
            refine pu_ 3 29 ?_ #[J,J,Z,J,Z,Z,Z,Z,Z,Z,Z,Z,Z,Z,Z,Z,Z,Z] rfl rfl ?_ ?_ ?_ ?_
            rotate_left
            · intro w'
              go_simp
              with_reducible rfl
            rotate_left
            · simp only [aP]
              rfl
            refine ta_ 2 28 ?_ #[J,J,J,J,Z,Z,Z,Z,Z,Z,Z,Z,Z,Z,Z,Z,Z,Z] rfl rfl ?_ hHeld ?_ ?_ ?_
            rotate_left
            · rintro w' ⟨s0, s1, s2, s3⟩
              go_simp
              with_reducible rfl
            rotate_left
            · simp only [aP]
              rfl
            refine one_ (i := 4) (N := some 30) #[J,J,J,J,J,Z,Z,Z,Z,Z,Z,Z,Z,Z,Z,Z,Z,Z] rfl rfl (by kernel_rfl) (by decide) (fun K hK => ?_)
            refine goes_ Tryz.func78 (by kernel_rfl) rfl #[.pointer (some ⟨g, 0, none⟩)] (by rfl) rfl rfl (by simp only [List.map_toArray, List.map_cons, List.map_nil]; rfl) ?_
            with_reducible refine (Ref.len_ B3.out.at2).mono ?_
            rintro e w4 ⟨rfl, rfl⟩
            refine ⟨_, rfl, ?_⟩
            refine hK.out _ _ ⟨(B3.out.cell 0).trans rfl, (B3.out.cell 1).trans rfl, (B3.out.cell 2).trans rfl, (B3.out.at3.cell 2).trans rfl⟩ (fun hHeld => ?_)
            clear hK K
            refine norm_ (a' := ?_) ?_ ?_
            rotate_left
            · show Act.put _ (some 30) _ = _
              simp only [aP]
              rfl
            refine one_ (i := 5) (N := some 31) #[J,J,J,J,J,J,Z,Z,Z,Z,Z,Z,Z,Z,Z,Z,Z,Z] rfl rfl (by kernel_rfl) (by decide) (fun K hK => ?_)
            refine goes_ Tryz.func77 (by kernel_rfl) rfl #[.agg #[.int .i64 x, .int .i64 y, .int .u32 z], .int .i64 (n : Int)] (by rfl) rfl rfl (by simp only [List.map_toArray, List.map_cons, List.map_nil]; rfl) ?_
            with_reducible refine (rright_ x y z (n : Int) _).mono ?_
            rintro e w5 ⟨rfl, hb5⟩
            refine ⟨_, rfl, ?_⟩
            rw [HRT.out]
            have B5 := Aside0.mk (B3.out.below hb5)
            clear hb5
            refine hK.out _ _ ⟨(B5.out.cell 0).trans rfl, (B5.out.cell 1).trans rfl, (B5.out.cell 2).trans rfl, (B5.out.at3.cell 2).trans rfl⟩ (fun hHeld => ?_)
            clear hK K
            refine norm_ (a' := ?_) ?_ ?_
            rotate_left
            · show Act.put _ (some 31) _ = _
              simp only [aP]
              rfl
            refine pu_ 6 32 ?_ #[J,J,J,J,J,J,J,Z,Z,Z,Z,Z,Z,Z,Z,Z,Z,Z] rfl rfl ?_ ?_ ?_ ?_
            rotate_left
            · intro w'
              go_simp
              with_reducible rfl
            rotate_left
            · simp only [aP]
              rfl
            refine pu_ 7 33 ?_ #[J,J,J,J,J,J,J,J,Z,Z,Z,Z,Z,Z,Z,Z,Z,Z] rfl rfl ?_ ?_ ?_ ?_
            rotate_left
            · intro w'
              go_simp
              with_reducible rfl
            rotate_left
            · simp only [aP]
              rfl
            refine pu_ 8 34 ?_ #[J,J,J,J,J,J,J,J,J,Z,Z,Z,Z,Z,Z,Z,Z,Z] rfl rfl ?_ ?_ ?_ ?_
            rotate_left
            · intro w'
              go_simp
              with_reducible rfl
            rotate_left
            · simp only [aP]
              rfl
            refine pu_ 9 35 ?_ #[J,J,J,J,J,J,J,J,J,J,Z,Z,Z,Z,Z,Z,Z,Z] rfl rfl ?_ ?_ ?_ ?_
            rotate_left
            · intro w'
              go_simp
              with_reducible rfl
            rotate_left
            · simp only [aP]
              rfl
            refine pu_ 10 36 ?_ #[J,J,J,J,J,J,J,J,J,J,J,Z,Z,Z,Z,Z,Z,Z] rfl rfl ?_ ?_ ?_ ?_
            rotate_left
            · intro w'
              go_simp
              with_reducible rfl
            rotate_left
            · simp only [aP]
              rfl
            refine pure_ (i := 11) (N := some 37) (v := undef) (a' := ?_) #[J,J,J,J,J,J,J,J,J,J,J,J,Z,Z,Z,Z,Z,Z] rfl rfl (by kernel_rfl) (fun _ _ _ h => h) (Or.inr ⟨by rfl, rfl⟩) ?_ ?_
            rotate_left
            · simp only [aP]
              rfl
            refine pure_ (i := 12) (N := some 38) (v := undef) (a' := ?_) #[J,J,J,J,J,J,J,J,J,J,J,J,J,Z,Z,Z,Z,Z] rfl rfl (by kernel_rfl) (fun _ _ _ h => h) (Or.inr ⟨by rfl, rfl⟩) ?_ ?_
            rotate_left
            · simp only [aP]
              rfl
            refine pure_ (i := 13) (N := some 39) (v := undef) (a' := ?_) #[J,J,J,J,J,J,J,J,J,J,J,J,J,J,Z,Z,Z,Z] rfl rfl (by kernel_rfl) (fun _ _ _ h => h) (Or.inr ⟨by rfl, rfl⟩) ?_ ?_
            rotate_left
            · simp only [aP]
              rfl
            refine pure_ (i := 14) (N := some 40) (v := undef) (a' := ?_) #[J,J,J,J,J,J,J,J,J,J,J,J,J,J,J,Z,Z,Z] rfl rfl (by kernel_rfl) (fun _ _ _ h => h) (Or.inr ⟨by rfl, rfl⟩) ?_ ?_
            rotate_left
            · simp only [aP]
              rfl
            refine pure_ (i := 15) (N := some 41) (v := undef) (a' := ?_) #[J,J,J,J,J,J,J,J,J,J,J,J,J,J,J,J,Z,Z] rfl rfl (by kernel_rfl) (fun _ _ _ h => h) (Or.inr ⟨by rfl, rfl⟩) ?_ ?_
            rotate_left
            · simp only [aP]
              rfl
            refine pu_ 16 42 ?_ #[J,J,J,J,J,J,J,J,J,J,J,J,J,J,J,J,J,Z] rfl rfl ?_ ?_ ?_ ?_
            rotate_left
            · intro w'
              go_simp
              with_reducible rfl
            rotate_left
            · simp only [aP]
              rfl
            refine pu_ 17 43 ?_ #[J,J,J,J,J,J,J,J,J,J,J,J,J,J,J,J,J,J] rfl rfl ?_ ?_ ?_ ?_
            rotate_left
            · intro w'
              go_simp
              with_reducible rfl
            rotate_left
            · simp only [aP]
              rfl
            refine done_ (by kernel_rfl) ?_
            have HST2 := Aside0.mk (HST.out.trans (pick_yes (r := (x, y, z)) HU.out HRT.out (by rw [HBT.out]; show bz < z; have := HZ1.out; have := HZ.out; have := hin'; simp at this; omega)))
            have l0 := (B5.out.cell 0).trans rfl
            have l1 := (B5.out.cell 1).trans rfl
            have l2 := (B5.out.cell 2).trans rfl
            obtain ⟨d0, f0, d1, f1, d2, f2, hS6⟩ := store3 (.int .i64 x) (.int .i64 y) (.int .u32 z) B5.out.at3
            have B6 := Aside0.mk hS6
            clear hS6
            have HZ3 : Aside0 (true = decide (0 < z) ∧ 0 ≤ z) := ⟨⟨(decide_eq_true (by have := HZ1.out; omega)).symm, by have := HZ1.out; omega⟩⟩
            go_wp2_with fail
            go_roundg (gk - 1)
            case measure => have := AK.out; omega
            case rel => exact ⟨j + 1, x, y, z, by go_num, by have := AK.out; omega, HST2.out, HZ3.out.2, by rw [HZ3.out.1], B6.out.drop2.sw23⟩
          case pos =>
          have hin' : decide (0 < bz) = true := decide_eq_true hin
          have HIN := Aside0.mk hin'
          rw [hin']
          clear hin'
          by_cases hz : bz < z
          case neg =>
            have hzd : decide (bz < z) = false := decide_eq_false hz
            go_wp2_with fail
            refine start_ (n := 18) (S := fun w' => w'.cell? ⟨w2.heap.size, 0, none⟩ = some (.int .i64 x) ∧ w'.cell? ⟨w2.heap.size, 1, none⟩ = some (.int .i64 y) ∧ w'.cell? ⟨w2.heap.size, 2, none⟩ = some (.int .u32 z) ∧ w'.cell? ⟨W.heap.size + 1, 2, none⟩ = some (.int .u32 bz)) (ds := []) #[Z,Z,Z,Z,Z,Z,Z,Z,Z,Z,Z,Z,Z,Z,Z,Z,Z,Z] (by kernel_rfl) rfl rfl ⟨(B3.out.cell 0).trans rfl, (B3.out.cell 1).trans rfl, (B3.out.cell 2).trans rfl, (B3.out.at3.cell 2).trans rfl⟩ (fun hHeld => ?_)
            refine pu_ 0 26 ?_ #[J,Z,Z,Z,Z,Z,Z,Z,Z,Z,Z,Z,Z,Z,Z,Z,Z,Z] rfl rfl ?_ ?_ ?_ ?_
            rotate_left
            · intro w'
              go_simp
              with_reducible rfl
            rotate_left
            · simp only [aP]
              rfl
            refine pu_ 1 27 ?_ #[J,J,Z,Z,Z,Z,Z,Z,Z,Z,Z,Z,Z,Z,Z,Z,Z,Z] rfl rfl ?_ ?_ ?_ ?_
            rotate_left
            · intro w'
              go_simp
              with_reducible rfl
            rotate_left
            · simp only [aP]
              rfl
            refine pu_ 3 29 ?_ #[J,J,Z,J,Z,Z,Z,Z,Z,Z,Z,Z,Z,Z,Z,Z,Z,Z] rfl rfl ?_ ?_ ?_ ?_
            rotate_left
            · intro w'
              go_simp
              with_reducible rfl
            rotate_left
            · simp only [aP]
              rfl
            refine ta_ 2 28 ?_ #[J,J,J,J,Z,Z,Z,Z,Z,Z,Z,Z,Z,Z,Z,Z,Z,Z] rfl rfl ?_ hHeld ?_ ?_ ?_
            rotate_left
            · rintro w' ⟨s0, s1, s2, s3⟩
              go_simp
              with_reducible rfl
            rotate_left
            · simp only [aP]
              rfl
            refine one_ (i := 4) (N := some 30) #[J,J,J,J,J,Z,Z,Z,Z,Z,Z,Z,Z,Z,Z,Z,Z,Z] rfl rfl (by kernel_rfl) (by decide) (fun K hK => ?_)
            refine goes_ Tryz.func78 (by kernel_rfl) rfl #[.pointer (some ⟨g, 0, none⟩)] (by rfl) rfl rfl (by simp only [List.map_toArray, List.map_cons, List.map_nil]; rfl) ?_
            with_reducible refine (Ref.len_ B3.out.at2).mono ?_
            rintro e w4 ⟨rfl, rfl⟩
            refine ⟨_, rfl, ?_⟩
            refine hK.out _ _ ⟨(B3.out.cell 0).trans rfl, (B3.out.cell 1).trans rfl, (B3.out.cell 2).trans rfl, (B3.out.at3.cell 2).trans rfl⟩ (fun hHeld => ?_)
            clear hK K
            refine norm_ (a' := ?_) ?_ ?_
            rotate_left
            · show Act.put _ (some 30) _ = _
              simp only [aP]
              rfl
            refine one_ (i := 5) (N := some 31) #[J,J,J,J,J,J,Z,Z,Z,Z,Z,Z,Z,Z,Z,Z,Z,Z] rfl rfl (by kernel_rfl) (by decide) (fun K hK => ?_)
            refine goes_ Tryz.func77 (by kernel_rfl) rfl #[.agg #[.int .i64 x, .int .i64 y, .int .u32 z], .int .i64 (n : Int)] (by rfl) rfl rfl (by simp only [List.map_toArray, List.map_cons, List.map_nil]; rfl) ?_
            with_reducible refine (rright_ x y z (n : Int) _).mono ?_
            rintro e w5 ⟨rfl, hb5⟩
            refine ⟨_, rfl, ?_⟩
            rw [HRT.out]
            have B5 := Aside0.mk (B3.out.below hb5)
            clear hb5
            refine hK.out _ _ ⟨(B5.out.cell 0).trans rfl, (B5.out.cell 1).trans rfl, (B5.out.cell 2).trans rfl, (B5.out.at3.cell 2).trans rfl⟩ (fun hHeld => ?_)
            clear hK K
            refine norm_ (a' := ?_) ?_ ?_
            rotate_left
            · show Act.put _ (some 31) _ = _
              simp only [aP]
              rfl
            refine pu_ 6 32 ?_ #[J,J,J,J,J,J,J,Z,Z,Z,Z,Z,Z,Z,Z,Z,Z,Z] rfl rfl ?_ ?_ ?_ ?_
            rotate_left
            · intro w'
              go_simp
              with_reducible rfl
            rotate_left
            · simp only [aP]
              rfl
            refine pu_ 7 33 ?_ #[J,J,J,J,J,J,J,J,Z,Z,Z,Z,Z,Z,Z,Z,Z,Z] rfl rfl ?_ ?_ ?_ ?_
            rotate_left
            · intro w'
              go_simp
              with_reducible rfl
            rotate_left
            · simp only [aP]
              rfl
            refine pu_ 8 34 ?_ #[J,J,J,J,J,J,J,J,J,Z,Z,Z,Z,Z,Z,Z,Z,Z] rfl rfl ?_ ?_ ?_ ?_
            rotate_left
            · intro w'
              go_simp
              with_reducible rfl
            rotate_left
            · simp only [aP]
              rfl
            refine pu_ 9 35 ?_ #[J,J,J,J,J,J,J,J,J,J,Z,Z,Z,Z,Z,Z,Z,Z] rfl rfl ?_ ?_ ?_ ?_
            rotate_left
            · intro w'
              go_simp
              with_reducible rfl
            rotate_left
            · simp only [aP]
              rfl
            refine pu_ 10 36 ?_ #[J,J,J,J,J,J,J,J,J,J,J,Z,Z,Z,Z,Z,Z,Z] rfl rfl ?_ ?_ ?_ ?_
            rotate_left
            · intro w'
              go_simp
              with_reducible rfl
            rotate_left
            · simp only [aP]
              rfl
            refine pu_ 11 37 ?_ #[J,J,J,J,J,J,J,J,J,J,J,J,Z,Z,Z,Z,Z,Z] rfl rfl ?_ ?_ ?_ ?_
            rotate_left
            · intro w'
              go_simp
              with_reducible rfl
            rotate_left
            · simp only [aP]
              rfl
            refine pu_ 13 39 ?_ #[J,J,J,J,J,J,J,J,J,J,J,J,Z,J,Z,Z,Z,Z] rfl rfl ?_ ?_ ?_ ?_
            rotate_left
            · intro w'
              go_simp
              with_reducible rfl
            rotate_left
            · simp only [aP]
              rfl
            refine ta_ 12 38 ?_ #[J,J,J,J,J,J,J,J,J,J,J,J,J,J,Z,Z,Z,Z] rfl rfl ?_ hHeld ?_ ?_ ?_
            rotate_left
            · rintro w' ⟨s0, s1, s2, s3⟩
              go_simp
              with_reducible rfl
            rotate_left
            · simp only [aP]
              rfl
            refine ta_ 14 40 ?_ #[J,J,J,J,J,J,J,J,J,J,J,J,J,J,J,Z,Z,Z] rfl rfl ?_ hHeld ?_ ?_ ?_
            rotate_left
            · rintro w' ⟨s0, s1, s2, s3⟩
              go_simp
              with_reducible rfl
            rotate_left
            · simp only [aP]
              rfl
            refine pu_ 15 41 ?_ #[J,J,J,J,J,J,J,J,J,J,J,J,J,J,J,J,Z,Z] rfl rfl ?_ ?_ ?_ ?_
            rotate_left
            · intro w'
              go_simp
              with_reducible rfl
            rotate_left
            · simp only [aP]
              rfl
            refine pu_ 16 42 ?_ #[J,J,J,J,J,J,J,J,J,J,J,J,J,J,J,J,J,Z] rfl rfl ?_ ?_ ?_ ?_
            rotate_left
            · intro w'
              go_simp
              with_reducible rfl
            rotate_left
            · simp only [aP]
              rfl
            refine pu_ 17 43 ?_ #[J,J,J,J,J,J,J,J,J,J,J,J,J,J,J,J,J,J] rfl rfl ?_ ?_ ?_ ?_
            rotate_left
            · intro w'
              go_simp
              with_reducible rfl
            rotate_left
            · simp only [aP]
              rfl
            refine done_ (by kernel_rfl) ?_
            have HST2 := Aside0.mk (HST.out.trans (pick_no HU.out (fun h => by rw [HBT.out] at h; have h2 : bz < z := h.2; omega)))
            go_wp2_with fail
            go_roundg (gk - 1)
            case measure => have := AK.out; omega
            case rel => exact ⟨j + 1, bx, by_, bz, by go_num, by have := AK.out; omega, by rw [HST2.out, HBT.out], HZ.out, by rw [HIN.out], B5.out.at3.drop2.sw23⟩
          case pos =>
            have hzd : decide (bz < z) = true := decide_eq_true hz
            have HZZ := Aside0.mk hz
            go_wp2_with fail
            refine start_ (n := 18) (S := fun w' => w'.cell? ⟨w2.heap.size, 0, none⟩ = some (.int .i64 x) ∧ w'.cell? ⟨w2.heap.size, 1, none⟩ = some (.int .i64 y) ∧ w'.cell? ⟨w2.heap.size, 2, none⟩ = some (.int .u32 z) ∧ w'.cell? ⟨W.heap.size + 1, 2, none⟩ = some (.int .u32 bz)) (ds := []) #[Z,Z,Z,Z,Z,Z,Z,Z,Z,Z,Z,Z,Z,Z,Z,Z,Z,Z] (by kernel_rfl) rfl rfl ⟨(B3.out.cell 0).trans rfl, (B3.out.cell 1).trans rfl, (B3.out.cell 2).trans rfl, (B3.out.at3.cell 2).trans rfl⟩ (fun hHeld => ?_)
            refine pu_ 0 26 ?_ #[J,Z,Z,Z,Z,Z,Z,Z,Z,Z,Z,Z,Z,Z,Z,Z,Z,Z] rfl rfl ?_ ?_ ?_ ?_
            rotate_left
            · intro w'
              go_simp
              with_reducible rfl
            rotate_left
            · simp only [aP]
              rfl
            refine pu_ 1 27 ?_ #[J,J,Z,Z,Z,Z,Z,Z,Z,Z,Z,Z,Z,Z,Z,Z,Z,Z] rfl rfl ?_ ?_ ?_ ?_
            rotate_left
            · intro w'
              go_simp
              with_reducible rfl
            rotate_left
            · simp only [aP]
              rfl
            refine pu_ 3 29 ?_ #[J,J,Z,J,Z,Z,Z,Z,Z,Z,Z,Z,Z,Z,Z,Z,Z,Z] rfl rfl ?_ ?_ ?_ ?_
            rotate_left
            · intro w'
              go_simp
              with_reducible rfl
            rotate_left
            · simp only [aP]
              rfl
            refine ta_ 2 28 ?_ #[J,J,J,J,Z,Z,Z,Z,Z,Z,Z,Z,Z,Z,Z,Z,Z,Z] rfl rfl ?_ hHeld ?_ ?_ ?_
            rotate_left
            · rintro w' ⟨s0, s1, s2, s3⟩
              go_simp
              with_reducible rfl
            rotate_left
            · simp only [aP]
              rfl
            refine one_ (i := 4) (N := some 30) #[J,J,J,J,J,Z,Z,Z,Z,Z,Z,Z,Z,Z,Z,Z,Z,Z] rfl rfl (by kernel_rfl) (by decide) (fun K hK => ?_)
            refine goes_ Tryz.func78 (by kernel_rfl) rfl #[.pointer (some ⟨g, 0, none⟩)] (by rfl) rfl rfl (by simp only [List.map_toArray, List.map_cons, List.map_nil]; rfl) ?_
            with_reducible refine (Ref.len_ B3.out.at2).mono ?_
            rintro e w4 ⟨rfl, rfl⟩
            refine ⟨_, rfl, ?_⟩
            refine hK.out _ _ ⟨(B3.out.cell 0).trans rfl, (B3.out.cell 1).trans rfl, (B3.out.cell 2).trans rfl, (B3.out.at3.cell 2).trans rfl⟩ (fun hHeld => ?_)
            clear hK K
            refine norm_ (a' := ?_) ?_ ?_
            rotate_left
            · show Act.put _ (some 30) _ = _
              simp only [aP]
              rfl
            refine one_ (i := 5) (N := some 31) #[J,J,J,J,J,J,Z,Z,Z,Z,Z,Z,Z,Z,Z,Z,Z,Z] rfl rfl (by kernel_rfl) (by decide) (fun K hK => ?_)
            refine goes_ Tryz.func77 (by kernel_rfl) rfl #[.agg #[.int .i64 x, .int .i64 y, .int .u32 z], .int .i64 (n : Int)] (by rfl) rfl rfl (by simp only [List.map_toArray, List.map_cons, List.map_nil]; rfl) ?_
            with_reducible refine (rright_ x y z (n : Int) _).mono ?_
            rintro e w5 ⟨rfl, hb5⟩
            refine ⟨_, rfl, ?_⟩
            rw [HRT.out]
            have B5 := Aside0.mk (B3.out.below hb5)
            clear hb5
            refine hK.out _ _ ⟨(B5.out.cell 0).trans rfl, (B5.out.cell 1).trans rfl, (B5.out.cell 2).trans rfl, (B5.out.at3.cell 2).trans rfl⟩ (fun hHeld => ?_)
            clear hK K
            refine norm_ (a' := ?_) ?_ ?_
            rotate_left
            · show Act.put _ (some 31) _ = _
              simp only [aP]
              rfl
            refine pu_ 6 32 ?_ #[J,J,J,J,J,J,J,Z,Z,Z,Z,Z,Z,Z,Z,Z,Z,Z] rfl rfl ?_ ?_ ?_ ?_
            rotate_left
            · intro w'
              go_simp
              with_reducible rfl
            rotate_left
            · simp only [aP]
              rfl
            refine pu_ 7 33 ?_ #[J,J,J,J,J,J,J,J,Z,Z,Z,Z,Z,Z,Z,Z,Z,Z] rfl rfl ?_ ?_ ?_ ?_
            rotate_left
            · intro w'
              go_simp
              with_reducible rfl
            rotate_left
            · simp only [aP]
              rfl
            refine pu_ 8 34 ?_ #[J,J,J,J,J,J,J,J,J,Z,Z,Z,Z,Z,Z,Z,Z,Z] rfl rfl ?_ ?_ ?_ ?_
            rotate_left
            · intro w'
              go_simp
              with_reducible rfl
            rotate_left
            · simp only [aP]
              rfl
            refine pu_ 9 35 ?_ #[J,J,J,J,J,J,J,J,J,J,Z,Z,Z,Z,Z,Z,Z,Z] rfl rfl ?_ ?_ ?_ ?_
            rotate_left
            · intro w'
              go_simp
              with_reducible rfl
            rotate_left
            · simp only [aP]
              rfl
            refine pu_ 10 36 ?_ #[J,J,J,J,J,J,J,J,J,J,J,Z,Z,Z,Z,Z,Z,Z] rfl rfl ?_ ?_ ?_ ?_
            rotate_left
            · intro w'
              go_simp
              with_reducible rfl
            rotate_left
            · simp only [aP]
              rfl
            refine pu_ 11 37 ?_ #[J,J,J,J,J,J,J,J,J,J,J,J,Z,Z,Z,Z,Z,Z] rfl rfl ?_ ?_ ?_ ?_
            rotate_left
            · intro w'
              go_simp
              with_reducible rfl
            rotate_left
            · simp only [aP]
              rfl
            refine pu_ 13 39 ?_ #[J,J,J,J,J,J,J,J,J,J,J,J,Z,J,Z,Z,Z,Z] rfl rfl ?_ ?_ ?_ ?_
            rotate_left
            · intro w'
              go_simp
              with_reducible rfl
            rotate_left
            · simp only [aP]
              rfl
            refine ta_ 12 38 ?_ #[J,J,J,J,J,J,J,J,J,J,J,J,J,J,Z,Z,Z,Z] rfl rfl ?_ hHeld ?_ ?_ ?_
            rotate_left
            · rintro w' ⟨s0, s1, s2, s3⟩
              go_simp
              with_reducible rfl
            rotate_left
            · simp only [aP]
              rfl
            refine ta_ 14 40 ?_ #[J,J,J,J,J,J,J,J,J,J,J,J,J,J,J,Z,Z,Z] rfl rfl ?_ hHeld ?_ ?_ ?_
            rotate_left
            · rintro w' ⟨s0, s1, s2, s3⟩
              go_simp
              with_reducible rfl
            rotate_left
            · simp only [aP]
              rfl
            refine pu_ 15 41 ?_ #[J,J,J,J,J,J,J,J,J,J,J,J,J,J,J,J,Z,Z] rfl rfl ?_ ?_ ?_ ?_
            rotate_left
            · intro w'
              go_simp
              with_reducible rfl
            rotate_left
            · simp only [aP]
              rfl
            refine pu_ 16 42 ?_ #[J,J,J,J,J,J,J,J,J,J,J,J,J,J,J,J,J,Z] rfl rfl ?_ ?_ ?_ ?_
            rotate_left
            · intro w'
              go_simp
              with_reducible rfl
            rotate_left
            · simp only [aP]
              rfl
            refine pu_ 17 43 ?_ #[J,J,J,J,J,J,J,J,J,J,J,J,J,J,J,J,J,J] rfl rfl ?_ ?_ ?_ ?_
            rotate_left
            · intro w'
              go_simp
              with_reducible rfl
            rotate_left
            · simp only [aP]
              rfl
            refine done_ (by kernel_rfl) ?_
            have HST2 := Aside0.mk (HST.out.trans (pick_yes (r := (x, y, z)) HU.out HRT.out (by rw [HBT.out]; exact HZZ.out)))
            have l0 := (B5.out.cell 0).trans rfl
            have l1 := (B5.out.cell 1).trans rfl
            have l2 := (B5.out.cell 2).trans rfl
            obtain ⟨d0, f0, d1, f1, d2, f2, hS6⟩ := store3 (.int .i64 x) (.int .i64 y) (.int .u32 z) B5.out.at3
            have B6 := Aside0.mk hS6
            clear hS6
            have HZ3 : Aside0 (true = decide (0 < z) ∧ 0 ≤ z) := ⟨⟨(decide_eq_true (by have := HZ1.out; omega)).symm, by have := HZ1.out; omega⟩⟩
            go_wp2_with fail
            go_roundg (gk - 1)
            case measure => have := AK.out; omega
            case rel => exact ⟨j + 1, x, y, z, by go_num, by have := AK.out; omega, HST2.out, HZ3.out.2, by rw [HZ3.out.1], B6.out.drop2.sw23⟩
    · obtain rfl : j = 2 := by omega
      have r0 := (AS.out.cell 0).trans rfl
      have r1 := (AS.out.cell 1).trans rfl
      have r2 := (AS.out.cell 2).trans rfl
      obtain ⟨d0, f0, d1, f1, d2, f2, hS6⟩ := store3 (.int .i64 bx) (.int .i64 by_) (.int .u32 bz) AS.out.at2
      obtain ⟨w6, hw6⟩ : ∃ w6, (((wr.setCell ⟨W.heap.size, 0, none⟩ (.int .i64 bx)).setCell ⟨W.heap.size, 1, none⟩ (.int .i64 by_)).setCell ⟨W.heap.size, 2, none⟩ (.int .u32 bz)) = w6 := ⟨_, rfl⟩
      rw [hw6] at hS6
      have q0 : w6.cell? ⟨W.heap.size, 0, none⟩ = some (.int .i64 bx) := (hS6.cell 0).trans rfl
      have q1 : w6.cell? ⟨W.heap.size, 1, none⟩ = some (.int .i64 by_) := (hS6.cell 1).trans rfl
      have q2 : w6.cell? ⟨W.heap.size, 2, none⟩ = some (.int .u32 bz) := (hS6.cell 2).trans rfl
      have B6 := Aside0.mk hS6
      clear hS6 hjm hz0
      go_wp2_with fail
      go_retc (.tuple #[.agg #[.int .i64 bx, .int .i64 by_, .int .u32 bz], .bool (decide (0 < bz))])
      exact ⟨by rw [HBT.out]; rfl, B6.out.tail.tail⟩
end
end Go.Proofs.YtjngnigelkgekaaGreat.Root
namespace Go.Proofs.YtjngnigelkgekaaGreat.Root
open Go.RowKit Go.Proofs.YtjngnigelkgekaaGreatW.PrintWords Go.Proofs.YtjngnigelkgekaaGreatW.PrintLast Go.Proofs.YtjngnigelkgekaaGreatW.PrintMore Go.Proofs.YtjngnigelkgekaaGreat.Kit Go.Proofs.YtjngnigelkgekaaGreat.Plain Go.Proofs.YtjngnigelkgekaaGreat.Disk
def putW (n : Nat) (wt : Wt) (i : Nat) (b : List Int) : Wt := if i < n ∧ b.length = 64 then (fun j => if j = i then some b else wt j) else wt
theorem putW_len {n : Nat} {wt : Wt} {i : Nat} {b : List Int} (hw : ∀ i b, wt i = some b → b.length = 64) : ∀ k c, putW n wt i b k = some c → c.length = 64 := by
  unfold putW
  by_cases h : i < n ∧ b.length = 64
  · rw [if_pos h]; exact Ref.upd_len hw h.2
  · rw [if_neg h]; exact hw
theorem putW_bytes {n : Nat} {wt : Wt} {i : Nat} {b : List Int} (hw : ∀ i b, wt i = some b → Bytes b) (hb : Bytes b) : ∀ k c, putW n wt i b k = some c → Bytes c := by
  unfold putW
  by_cases h : i < n ∧ b.length = 64
  · rw [if_pos h]
    intro k c hk
    by_cases hki : k = i
    · simp only [if_pos hki] at hk; injection hk with hk; rw [← hk]; exact hb
    · simp only [if_neg hki] at hk; exact hw k c hk
  · rw [if_neg h]; exact hw
theorem secF_bytes {n : Nat} {las : List Int} {wt : Wt} (hl : Bytes las) (hw : ∀ i b, wt i = some b → Bytes b) (j : Nat) : Bytes (secF n las wt j) := by
  unfold secF
  by_cases h : j < n
  · rw [if_pos h]
    cases hj : wt j with
    | none => exact (hl.drop _).take _
    | some b => exact hw j b hj
  · rw [if_neg h]; exact Bytes.nil
section
variable {w0 W : World} {F : List HP} {g n : Nat} {las : List Int} {wt : Wt}
theorem dwrite_ (h : Sep w0 W (Dsk g las wt :: F)) (hl : las.length = 64 * n) (hn : n ≤ 160) (i : Nat) {A : Option Addr} {m c : Nat} {b : List Int} (hb : U8.C W A m b) (hc : m ≤ c) :
    Calls Tryz.prog 66 #[.pointer (some ⟨g, 0, none⟩), .int .i64 (i : Int), .slice A m c] W fun e w' => e = .returned (.bool (decide (i < n ∧ b.length = 64))) ∧ Sep w0 w' (Dsk g las (putW n wt i b) :: F) := by
  obtain rfl : b.length = m := hb.1
  by_cases hi : i < n ∧ b.length = 64
  · rw [decide_eq_true hi]
    obtain ⟨h1, h2⟩ := hi
    have hp : putW n wt i b = (fun j => if j = i then some b else wt j) := if_pos ⟨h1, h2⟩
    rw [hp]
    rw [h2] at hb hc ⊢
    exact write_in h i (by omega) hb hc
  · rw [decide_eq_false hi]
    refine (write_out h (i : Int) hb.2.1 (by omega)).mono ?_
    rintro e w' ⟨rfl, rfl⟩
    rw [show putW n wt i b = wt from if_neg hi]
    exact ⟨rfl, h⟩
end
end Go.Proofs.YtjngnigelkgekaaGreat.Root
namespace Go.Proofs.YtjngnigelkgekaaGreat.Kit
open Go.RowKit Go.Proofs.YtjngnigelkgekaaGreatW.PrintWords Go.Proofs.YtjngnigelkgekaaGreatW.PrintLast Go.Proofs.YtjngnigelkgekaaGreatW.PrintMore
def El {α : Type} (d : Kd α) (x : α) (cs : List Value) : HP where
  P W ok := d.M W 0 ok x cs ∧ ∀ k, ok k → k < W.heap.size
  loc := fun {W W' ok} h hm => ⟨d.M_move hm h.1, fun k hk => by
      have := hm k hk
      rw [Array.getElem?_eq_getElem (h.2 k hk)] at this
      exact (Array.getElem?_eq_some_iff.1 this).1⟩
  bnd := fun h => h.2
namespace Sep
variable {w0 W W' : World} {F : List HP}
theorem elSlice {α : Type} {d : Kd α} {e : Nat} {v : Value} {xs : List α} (h : Sep w0 W (Row d e v xs :: F)) : Sep w0 W (El (Kd.slice e d) xs [v] :: F) := h.imp (fun ok hp => ⟨⟨v, rfl, hp.1⟩, hp.2⟩)
theorem elPair {α β : Type} {a : Kd α} {b : Kd β} {x : α} {y : β} {p q : List Value} (h : Sep w0 W (El b y q :: F)) (hp : ∀ W base ok, a.M W base ok x p) : Sep w0 W (El (Kd.pair a b) (x, y) (p ++ q) :: F) :=
  h.imp (fun ok hq => ⟨⟨p, q, rfl, hp _ _ _, hq.1⟩, hq.2⟩)
section
variable {P : Program} {ops : Array Oper} {rest : List Oper} {o : Oper} {a : Act} {Q : Exit → Act → World → Prop} {α : Type} {d : Kd α}
theorem appendDeep {e : Nat} {v : Value} {xs : List α} {x : α} {cs : List Value} (h : Sep w0 W (Row d e v xs :: El d x cs :: F)) (hgd : o.guard = none) (s y : Operand) (t : TypeId) (z : Value) (bytes : Nat)
    (ho : o.op = .call { callee := .builtin .append, args := #[s, y], argTypes := #[t, t] })
    (ht : P.underlying t = some (.slice e)) (hinfo : (P.info? e).map (fun i => (i.zero, i.size, i.bytes)) = some (some z, d.sz, bytes)) (hz : z.cells.size = d.sz) (hs0 : 0 < d.sz) (hb0 : 0 < bytes)
    (hs : a.eval s = v) (hx : a.eval y = .slice (some ⟨W.heap.size, 0, none⟩) 1 1) (hl : (xs.length + 1) * bytes ≤ 140737488355328)
    (k : ∀ v1 w1, W.heap.size ≤ w1.heap.size → Sep w0 w1 (Row d e v1 (xs ++ [x]) :: F) → wpList P ops Q rest (a.put o.dst v1) w1) : wpList P ops Q (o :: rest) a (W.alloc (.cells cs.toArray e)) := by
  obtain ⟨ok1, hp, hd1, ok2, hq, hd2, hF⟩ := h.sep
  refine Kd.R_append d (w0 := W) 0 hgd s y t e z bytes ho ht hinfo hz hs0 hb0 v xs x cs (fun k => (ok1 k ∨ ok2 k) ∨ W.heap.size ≤ k) ok2 hs hx hq.1 (fun k hk => ⟨.inl (.inr hk), fun he => hd2 k hk (.inr (hp.1.1 k he.symm))⟩) (fun k hk => .inr hk)
    (Kd.R_mono hp.1 (fun k hk => .inl (.inl hk))) (Below.refl 0 W) (Nat.zero_le _) hl (fun v1 w1 hr hb hg hat => k v1 w1 hb.size ?_)
  refine h.stepOk (ok := fun k => ok1 k ∨ ok2 k) (ok' := fun k => ((ok1 k ∨ ok2 k) ∨ W.heap.size ≤ k) ∧ k < w1.heap.size) (fun k hk => hk.elim (hd1 k) (fun h2 h3 => hd2 k h2 (.inl h3))) (hF.weaken (fun k hk => ?_)) ⟨hg.os, hg.tape, hg.output, hg.size⟩ (fun k hlt hn => hg.block k hlt (fun he => hn (.inl (hp.1.1 k he.symm))))
    ⟨Kd.R_mono (Kd.R_bound hr) (fun k hk => ⟨hk.1, hk.2.2.1⟩), fun k hk => hk.2⟩ (fun k hk => hk.1)
  rcases hk with h3 | h3 | h3
  · exact .inl (.inl h3)
  · exact .inl (.inr h3)
  · exact .inr h3
theorem appendDeepStep {Kc : Act → World → Prop} {e : Nat} {v : Value} {xs : List α} {x : α} {cs : List Value} (h : Sep w0 W (Row d e v xs :: El d x cs :: F)) (hw : Region.wanted o (yielded ops a.tmps) = true) (s y : Operand) (t : TypeId) (z : Value) (bytes : Nat)
    (ho : o.op = .call { callee := .builtin .append, args := #[s, y], argTypes := #[t, t] })
    (ht : P.underlying t = some (.slice e)) (hinfo : (P.info? e).map (fun i => (i.zero, i.size, i.bytes)) = some (some z, d.sz, bytes)) (hz : z.cells.size = d.sz) (hs0 : 0 < d.sz) (hb0 : 0 < bytes)
    (hs : a.eval s = v) (hx : a.eval y = .slice (some ⟨W.heap.size, 0, none⟩) 1 1) (hl : (xs.length + 1) * bytes ≤ 140737488355328)
    (k : ∀ v1 w1, W.heap.size ≤ w1.heap.size → Sep w0 w1 (Row d e v1 (xs ++ [x]) :: F) → Kc (a.put o.dst v1) w1) : if Region.wanted o (yielded ops a.tmps) = true then Oper.wp P o a (W.alloc (.cells cs.toArray e)) Kc Q else Kc (a.put o.dst undef) (W.alloc (.cells cs.toArray e)) := by
  obtain ⟨ok1, hp, hd1, ok2, hq, hd2, hF⟩ := h.sep
  refine Kd.R_append_step d (w0 := W) 0 hw s y t e z bytes ho ht hinfo hz hs0 hb0 v xs x cs (fun k => (ok1 k ∨ ok2 k) ∨ W.heap.size ≤ k) ok2 hs hx hq.1 (fun k hk => ⟨.inl (.inr hk), fun he => hd2 k hk (.inr (hp.1.1 k he.symm))⟩) (fun k hk => .inr hk)
    (Kd.R_mono hp.1 (fun k hk => .inl (.inl hk))) (Below.refl 0 W) (Nat.zero_le _) hl (fun v1 w1 hr hb hg hat => k v1 w1 hb.size ?_)
  refine h.stepOk (ok := fun k => ok1 k ∨ ok2 k) (ok' := fun k => ((ok1 k ∨ ok2 k) ∨ W.heap.size ≤ k) ∧ k < w1.heap.size) (fun k hk => hk.elim (hd1 k) (fun h2 h3 => hd2 k h2 (.inl h3))) (hF.weaken (fun k hk => ?_)) ⟨hg.os, hg.tape, hg.output, hg.size⟩ (fun k hlt hn => hg.block k hlt (fun he => hn (.inl (hp.1.1 k he.symm))))
    ⟨Kd.R_mono (Kd.R_bound hr) (fun k hk => ⟨hk.1, hk.2.2.1⟩), fun k hk => hk.2⟩ (fun k hk => hk.1)
  rcases hk with h3 | h3 | h3
  · exact .inl (.inl h3)
  · exact .inl (.inr h3)
  · exact .inr h3
end
end Sep
end Go.Proofs.YtjngnigelkgekaaGreat.Kit
