/- Root6, Root7, Root8, Root9, Root10, RootBack, Deep: what StoreOpens needs. -/
import Derived.Test.YtjngnigelkgekaaTstoreOpens6
namespace Go.Proofs.Ytjngnigelkgekaa.Root
set_option linter.unusedVariables false
set_option linter.unusedSimpArgs false
open Go.RowKit Go.Proofs.YtjngnigelkgekaaW.PrintWords Go.Proofs.YtjngnigelkgekaaW.PrintLast Go.Proofs.YtjngnigelkgekaaW.PrintMore Go.Proofs.Ytjngnigelkgekaa.Kit Go.Proofs.Ytjngnigelkgekaa.Plain Go.Proofs.Ytjngnigelkgekaa.Disk
/-- What a sector reads as: nothing, where there is none. -/
def secF (n : Nat) (las : List Int) (wt : Wt) (j : Nat) : List Int := if j < n then (wt j).getD (sec las j) else []
/-- The best root of the first j sectors. -/
def bestTo (n : Int) (s : Nat → List Int) : Nat → R3
  | 0 => (0, 0, 0)
  | j + 1 => pickF n (bestTo n s j) (s j)
theorem secF_len {n : Nat} {las : List Int} {wt : Wt} (hl : las.length = 64 * n) (hw : ∀ i b, wt i = some b → b.length = 64) (j : Nat) : (secF n las wt j).length = if j < n then 64 else 0 := by
  unfold secF
  by_cases h : j < n
  · rw [if_pos h, if_pos h]; exact Ref.got_len hl hw h
  · rw [if_neg h, if_neg h]; rfl
section
variable {w0 W : World} {F : List HP} {g n : Nat} {las : List Int} {wt : Wt}
theorem dread_ (h : Sep w0 W (Dsk g las wt :: F)) (hl : las.length = 64 * n) (hw : ∀ i b, wt i = some b → b.length = 64) (j : Nat) :
    Calls Try.prog 56 #[.pointer (some ⟨g, 0, none⟩), .int .i64 (j : Int)] W fun e w' => ∃ A m c ok, e = .returned (.tuple #[.slice A m c, .bool ok]) ∧ m ≤ c ∧ U8.C w' A m (secF n las wt j) ∧ Sep w0 w' (Dsk g las wt :: F) := by
  by_cases hj : j < n
  · refine (read_in h j (by omega)).mono ?_
    rintro e w' ⟨v, rfl, hS⟩
    obtain ⟨A, c, rfl⟩ := hS.rowV
    have hC := hS.rowC
    exact ⟨A, _, c, true, rfl, hC.2.1, by unfold secF; rw [if_pos hj]; exact hC.2.2, hS.tail⟩
  · refine (read_out h (j : Int) (by omega)).mono ?_
    rintro e w' ⟨rfl, rfl⟩
    exact ⟨none, 0, 0, false, rfl, Nat.le_refl _, by unfold secF; rw [if_neg hj]; exact Kd.C_nil _ _, h⟩
theorem pick_none {m : Int} {b : R3} {l : List Int} (h : unrootF l = none) : pickF m b l = b := by unfold pickF; rw [h]
theorem pick_no {m : Int} {b r : R3} {l : List Int} (h : unrootF l = some r) (h2 : ¬ (rightR r.1 r.2.1 r.2.2 m = true ∧ b.2.2 < r.2.2)) : pickF m b l = b := by unfold pickF; rw [h]; exact if_neg h2
theorem pick_yes {m : Int} {b r : R3} {l : List Int} (h : unrootF l = some r) (h2 : rightR r.1 r.2.1 r.2.2 m = true) (h3 : b.2.2 < r.2.2) : pickF m b l = r := by unfold pickF; rw [h]; exact if_pos ⟨h2, h3⟩
theorem readV_none {l : List Int} (h : unrootF l = none) : readV l = .tuple #[.agg #[.int .i64 0, .int .i64 0, .int .u32 0], .bool false] := by unfold readV; rw [h]; rfl
theorem readV_some {l : List Int} {x y z : Int} (h : unrootF l = some (x, y, z)) : readV l = .tuple #[.agg #[.int .i64 x, .int .i64 y, .int .u32 z], .bool true] := by unfold readV; rw [h]; rfl
set_option maxHeartbeats 1600000 in
set_option maxRecDepth 100000 in
theorem best_ (h : Sep w0 W (Dsk g las wt :: F)) (hl : las.length = 64 * n) (hn : n ≤ 160) (hw : ∀ i b, wt i = some b → b.length = 64) (hb : ∀ j, Bytes (secF n las wt j)) :
    Calls Try.prog 46 #[.pointer (some ⟨g, 0, none⟩)] W fun e w' => e = .returned (.tuple #[rootV (bestTo n (secF n las wt) 2), .bool (decide (0 < (bestTo n (secF n las wt) 2).2.2))]) ∧ Sep w0 w' (Dsk g las wt :: F) := by
  have A0 := (h.newBlk 26 #[.int .i64 0, .int .i64 0, .int .u32 0]).newBlk 26 #[.int .i64 0, .int .i64 0, .int .u32 0]
  rw [show ∀ o : Obj, (W.alloc o).heap.size = W.heap.size + 1 from fun o => by simp] at A0
  have A0' := Aside0.mk A0
  have HLN : Aside0 ((las.length : Int) / 64 = (n : Int)) := ⟨by omega⟩
  have HB := Aside0.mk hb
  have HW := Aside0.mk hw
  have HL := Aside0.mk hl
  clear h A0 hb hw hl
  obtain ⟨s, hs⟩ : ∃ s, secF n las wt = s := ⟨_, rfl⟩
  have HS := Aside0.mk hs
  rw [hs]
  rw [hs] at HB
  clear hs
  go_enter Try.func46, Try.ntmps46
  go_wp2_with fail
  go_loopg [13] 2 (fun m p wr => ∃ (j : Nat) (x y z : Int), p = .int .i64 (j : Int) ∧ j + m = 2 ∧ bestTo n s j = (x, y, z) ∧ Sep w0 wr (Blk (W.heap.size + 1) 26 #[.int .i64 x, .int .i64 y, .int .u32 z] :: Blk W.heap.size 26 #[.int .i64 0, .int .i64 0, .int .u32 0] :: Dsk g las wt :: F))
  case atStart => exact ⟨0, 0, 0, 0, rfl, rfl, rfl, A0'.out⟩
  case round =>
    obtain ⟨j, bx, by_, bz, rfl, hjm, hbt, hS⟩ := hrel
    have AK := Aside0.mk hjm
    have HBT := Aside0.mk hbt
    have AS := Aside0.mk hS
    clear hS hbt
    by_cases hj : j < 2
    · have hj2 : (j : Int) < 2 := by omega
      have HST : Aside0 (bestTo n s (j + 1) = pickF n (bestTo n s j) (s j)) := ⟨rfl⟩
      clear hjm
      go_wp2_with fail
      refine (dread_ AS.out.at3 HL.out HW.out j).mono ?_
      rintro e w1 ⟨A1, m1, c1, ok, rfl, hmc, hC1, hS1⟩
      rw [HS.out] at hC1
      have HBj := Aside0.mk (HB.out j)
      have B1 := Aside0.mk hS1
      have HC1 := Aside0.mk (And.intro hC1 hmc)
      obtain ⟨l, hlj⟩ : ∃ l, s j = l := ⟨_, rfl⟩
      rw [hlj] at HC1 HST HBj
      clear hS1 hC1 hmc hlj
      go_wp2_with fail
      refine (read_ HC1.out.1 HC1.out.2 HBj.out).mono ?_
      rintro e w2 ⟨rfl, hb2⟩
      have B2 := Aside0.mk (B1.out.below hb2)
      clear hb2
      cases hu : unrootF l with
      | none =>
        rw [readV_none hu]
        have HST2 := Aside0.mk (HST.out.trans (pick_none hu))
        have B3 := Aside0.mk (B2.out.newBlk 26 #[.int .i64 0, .int .i64 0, .int .u32 0])
        clear hu
        go_wp2_with fail
        go_quiet (fail)
        have B4 := Aside0.mk ((B3.out.drewN nq).tail.at2.at3)
        go_wp2_with fail
        go_roundg (gk - 1)
        case measure => have := AK.out; omega
        case rel => exact ⟨j + 1, bx, by_, bz, by go_num, by have := AK.out; omega, by rw [HST2.out, HBT.out], by first | exact B4.out | exact B4.out.at2 | exact B4.out.at3⟩
      | some r =>
        obtain ⟨x, y, z⟩ := r
        rw [readV_some hu]
        have HU := Aside0.mk hu
        have B3 := Aside0.mk (B2.out.newBlk 26 #[.int .i64 x, .int .i64 y, .int .u32 z]).drew
        clear hu
        cases hrt : rightR x y z n with
        | false =>
          have HRT := Aside0.mk hrt
          clear hrt
          go_wp2_with fail
          refine start_ (n := 14) (S := fun w' => w'.cell? ⟨w2.heap.size, 0, none⟩ = some (.int .i64 x) ∧ w'.cell? ⟨w2.heap.size, 1, none⟩ = some (.int .i64 y) ∧ w'.cell? ⟨w2.heap.size, 2, none⟩ = some (.int .u32 z)) (ds := [5]) #[false, false, false, false, false, false, false, false, false, false, false, false, false, false] (by kernel_rfl) rfl rfl ⟨(B3.out.cell 0).trans rfl, (B3.out.cell 1).trans rfl, (B3.out.cell 2).trans rfl⟩ (fun hHeld => ?_)
          refine pure_ (i := 0) (N := some 27) (v := ?_) (a' := ?_) #[true, false, false, false, false, false, false, false, false, false, false, false, false, false] rfl rfl (by kernel_rfl) (fun _ _ _ h => h) (Or.inl ⟨by rfl, ?_⟩) ?_ ?_
          rotate_left
          · intro w'
            go_simp
            with_reducible rfl
          rotate_left
          · simp only [Act.put, List.setIfInBounds_toArray, List.set_cons_zero, List.set_cons_succ, i64_w, i32_w]
            rfl
          refine pure_ (i := 1) (N := some 28) (v := ?_) (a' := ?_) #[true, true, false, false, false, false, false, false, false, false, false, false, false, false] rfl rfl (by kernel_rfl) (fun _ _ _ h => h) (Or.inl ⟨by rfl, ?_⟩) ?_ ?_
          rotate_left
          · intro w'
            go_simp
            with_reducible rfl
          rotate_left
          · simp only [Act.put, List.setIfInBounds_toArray, List.set_cons_zero, List.set_cons_succ, i64_w, i32_w]
            rfl
          refine pure_ (i := 3) (N := some 30) (v := ?_) (a' := ?_) #[true, true, false, true, false, false, false, false, false, false, false, false, false, false] rfl rfl (by kernel_rfl) (fun _ _ _ h => h) (Or.inl ⟨by rfl, ?_⟩) ?_ ?_
          rotate_left
          · intro w'
            go_simp
            with_reducible rfl
          rotate_left
          · simp only [Act.put, List.setIfInBounds_toArray, List.set_cons_zero, List.set_cons_succ, i64_w, i32_w]
            rfl
          refine take_ (i := 2) (N := some 29) (v := ?_) (a' := ?_) #[true, true, true, true, false, false, false, false, false, false, false, false, false, false] rfl rfl (by kernel_rfl) (fun _ _ _ h => h) (Or.inl ⟨by rfl, ?_⟩) hHeld ?_ ?_
          rotate_left
          · rintro w' ⟨s0, s1, s2⟩
            go_simp
            with_reducible rfl
          rotate_left
          · simp only [Act.put, List.setIfInBounds_toArray, List.set_cons_zero, List.set_cons_succ, i64_w, i32_w]
            rfl
          refine one_ (i := 4) (N := some 31) #[true, true, true, true, true, false, false, false, false, false, false, false, false, false] rfl rfl (by kernel_rfl) (by decide) (fun K hK => ?_)
          refine goes_ Try.func50 (by kernel_rfl) rfl #[.pointer (some ⟨g, 0, none⟩)] (by rfl) rfl rfl (by simp only [List.map_toArray, List.map_cons, List.map_nil]; rfl) ?_
          with_reducible refine (len_ B3.out.at2).mono ?_
          rintro e w4 ⟨rfl, rfl⟩
          refine ⟨_, rfl, ?_⟩
          rw [HLN.out]
          refine hK.out _ _ ⟨(B3.out.cell 0).trans rfl, (B3.out.cell 1).trans rfl, (B3.out.cell 2).trans rfl⟩ (fun hHeld => ?_)
          clear hK K
          refine norm_ (a' := ?_) ?_ ?_
          rotate_left
          · show Act.put _ (some 31) _ = _
            simp only [Act.put, List.setIfInBounds_toArray, List.set_cons_zero, List.set_cons_succ, i64_w, i32_w]
            rfl
          refine last_ (i := 5) (N := some 32) #[true, true, true, true, true, true, false, false, false, false, false, false, false, false] rfl rfl (by kernel_rfl) (by decide) (fun K hK => ?_)
          refine goes_ Try.func68 (by kernel_rfl) rfl #[.agg #[.int .i64 x, .int .i64 y, .int .u32 z], .int .i64 (n : Int)] (by rfl) rfl rfl (by simp only [List.map_toArray, List.map_cons, List.map_nil]; rfl) ?_
          with_reducible refine (right_ x y z (n : Int) _).mono ?_
          rintro e w5 ⟨rfl, hb5⟩
          refine ⟨_, rfl, ?_⟩
          rw [HRT.out]
          have B5 := Aside0.mk (B3.out.below hb5)
          clear hb5
          refine hK.out _ _ ?_
          clear hK K
          refine norm_ (a' := ?_) ?_ ?_
          rotate_left
          · show Act.put _ (some 32) _ = _
            simp only [Act.put, List.setIfInBounds_toArray, List.set_cons_zero, List.set_cons_succ, i64_w, i32_w]
            rfl
          refine pure_ (i := 6) (N := some 33) (v := ?_) (a' := ?_) #[true, true, true, true, true, true, true, false, false, false, false, false, false, false] rfl rfl (by kernel_rfl) (fun _ _ _ h => h) (Or.inl ⟨by rfl, ?_⟩) ?_ ?_
          rotate_left
          · intro w'
            go_simp
            with_reducible rfl
          rotate_left
          · simp only [Act.put, List.setIfInBounds_toArray, List.set_cons_zero, List.set_cons_succ, i64_w, i32_w]
            rfl
          refine pure_ (i := 7) (N := some 34) (v := ?_) (a' := ?_) #[true, true, true, true, true, true, true, true, false, false, false, false, false, false] rfl rfl (by kernel_rfl) (fun _ _ _ h => h) (Or.inl ⟨by rfl, ?_⟩) ?_ ?_
          rotate_left
          · intro w'
            go_simp
            with_reducible rfl
          rotate_left
          · simp only [Act.put, List.setIfInBounds_toArray, List.set_cons_zero, List.set_cons_succ, i64_w, i32_w]
            rfl
          refine pure_ (i := 8) (N := some 35) (v := undef) (a' := ?_) #[true, true, true, true, true, true, true, true, true, false, false, false, false, false] rfl rfl (by kernel_rfl) (fun _ _ _ h => h) (Or.inr ⟨by rfl, rfl⟩) ?_ ?_
          rotate_left
          · simp only [Act.put, List.setIfInBounds_toArray, List.set_cons_zero, List.set_cons_succ, i64_w, i32_w]
            rfl
          refine pure_ (i := 9) (N := some 36) (v := undef) (a' := ?_) #[true, true, true, true, true, true, true, true, true, true, false, false, false, false] rfl rfl (by kernel_rfl) (fun _ _ _ h => h) (Or.inr ⟨by rfl, rfl⟩) ?_ ?_
          rotate_left
          · simp only [Act.put, List.setIfInBounds_toArray, List.set_cons_zero, List.set_cons_succ, i64_w, i32_w]
            rfl
          refine pure_ (i := 10) (N := some 37) (v := undef) (a' := ?_) #[true, true, true, true, true, true, true, true, true, true, true, false, false, false] rfl rfl (by kernel_rfl) (fun _ _ _ h => h) (Or.inr ⟨by rfl, rfl⟩) ?_ ?_
          rotate_left
          · simp only [Act.put, List.setIfInBounds_toArray, List.set_cons_zero, List.set_cons_succ, i64_w, i32_w]
            rfl
          refine pure_ (i := 11) (N := some 38) (v := undef) (a' := ?_) #[true, true, true, true, true, true, true, true, true, true, true, true, false, false] rfl rfl (by kernel_rfl) (fun _ _ _ h => h) (Or.inr ⟨by rfl, rfl⟩) ?_ ?_
          rotate_left
          · simp only [Act.put, List.setIfInBounds_toArray, List.set_cons_zero, List.set_cons_succ, i64_w, i32_w]
            rfl
          refine pure_ (i := 12) (N := some 39) (v := undef) (a' := ?_) #[true, true, true, true, true, true, true, true, true, true, true, true, true, false] rfl rfl (by kernel_rfl) (fun _ _ _ h => h) (Or.inr ⟨by rfl, rfl⟩) ?_ ?_
          rotate_left
          · simp only [Act.put, List.setIfInBounds_toArray, List.set_cons_zero, List.set_cons_succ, i64_w, i32_w]
            rfl
          refine pure_ (i := 13) (N := some 40) (v := ?_) (a' := ?_) #[true, true, true, true, true, true, true, true, true, true, true, true, true, true] rfl rfl (by kernel_rfl) (fun _ _ _ h => h) (Or.inl ⟨by rfl, ?_⟩) ?_ ?_
          rotate_left
          · intro w'
            go_simp
            with_reducible rfl
          rotate_left
          · simp only [Act.put, List.setIfInBounds_toArray, List.set_cons_zero, List.set_cons_succ, i64_w, i32_w]
            rfl
          refine done_ (by kernel_rfl) ?_
          have HST2 := Aside0.mk (HST.out.trans (pick_no HU.out (fun h => by have := HRT.out.symm.trans h.1; cases this)))
          go_wp2_with fail
          go_roundg (gk - 1)
          case measure => have := AK.out; omega
          case rel => exact ⟨j + 1, bx, by_, bz, by go_num, by have := AK.out; omega, by rw [HST2.out, HBT.out], B5.out.at3.drop2.sw23⟩
        | true =>
          have HRT := Aside0.mk hrt
          clear hrt
          by_cases hz : bz < z
          case neg =>
            have hzd : decide (bz < z) = false := decide_eq_false hz
            go_wp2_with fail
            refine start_ (n := 14) (S := fun w' => w'.cell? ⟨w2.heap.size, 0, none⟩ = some (.int .i64 x) ∧ w'.cell? ⟨w2.heap.size, 1, none⟩ = some (.int .i64 y) ∧ w'.cell? ⟨w2.heap.size, 2, none⟩ = some (.int .u32 z) ∧ w'.cell? ⟨W.heap.size + 1, 2, none⟩ = some (.int .u32 bz)) (ds := []) #[false, false, false, false, false, false, false, false, false, false, false, false, false, false] (by kernel_rfl) rfl rfl ⟨(B3.out.cell 0).trans rfl, (B3.out.cell 1).trans rfl, (B3.out.cell 2).trans rfl, (B3.out.at3.cell 2).trans rfl⟩ (fun hHeld => ?_)
            refine pure_ (i := 0) (N := some 27) (v := ?_) (a' := ?_) #[true, false, false, false, false, false, false, false, false, false, false, false, false, false] rfl rfl (by kernel_rfl) (fun _ _ _ h => h) (Or.inl ⟨by rfl, ?_⟩) ?_ ?_
            rotate_left
            · intro w'
              go_simp
              with_reducible rfl
            rotate_left
            · simp only [Act.put, List.setIfInBounds_toArray, List.set_cons_zero, List.set_cons_succ, i64_w, i32_w]
              rfl
            refine pure_ (i := 1) (N := some 28) (v := ?_) (a' := ?_) #[true, true, false, false, false, false, false, false, false, false, false, false, false, false] rfl rfl (by kernel_rfl) (fun _ _ _ h => h) (Or.inl ⟨by rfl, ?_⟩) ?_ ?_
            rotate_left
            · intro w'
              go_simp
              with_reducible rfl
            rotate_left
            · simp only [Act.put, List.setIfInBounds_toArray, List.set_cons_zero, List.set_cons_succ, i64_w, i32_w]
              rfl
            refine pure_ (i := 3) (N := some 30) (v := ?_) (a' := ?_) #[true, true, false, true, false, false, false, false, false, false, false, false, false, false] rfl rfl (by kernel_rfl) (fun _ _ _ h => h) (Or.inl ⟨by rfl, ?_⟩) ?_ ?_
            rotate_left
            · intro w'
              go_simp
              with_reducible rfl
            rotate_left
            · simp only [Act.put, List.setIfInBounds_toArray, List.set_cons_zero, List.set_cons_succ, i64_w, i32_w]
              rfl
            refine take_ (i := 2) (N := some 29) (v := ?_) (a' := ?_) #[true, true, true, true, false, false, false, false, false, false, false, false, false, false] rfl rfl (by kernel_rfl) (fun _ _ _ h => h) (Or.inl ⟨by rfl, ?_⟩) hHeld ?_ ?_
            rotate_left
            · rintro w' ⟨s0, s1, s2, s3⟩
              go_simp
              with_reducible rfl
            rotate_left
            · simp only [Act.put, List.setIfInBounds_toArray, List.set_cons_zero, List.set_cons_succ, i64_w, i32_w]
              rfl
            refine one_ (i := 4) (N := some 31) #[true, true, true, true, true, false, false, false, false, false, false, false, false, false] rfl rfl (by kernel_rfl) (by decide) (fun K hK => ?_)
            refine goes_ Try.func50 (by kernel_rfl) rfl #[.pointer (some ⟨g, 0, none⟩)] (by rfl) rfl rfl (by simp only [List.map_toArray, List.map_cons, List.map_nil]; rfl) ?_
            with_reducible refine (len_ B3.out.at2).mono ?_
            rintro e w4 ⟨rfl, rfl⟩
            refine ⟨_, rfl, ?_⟩
            rw [HLN.out]
            refine hK.out _ _ ⟨(B3.out.cell 0).trans rfl, (B3.out.cell 1).trans rfl, (B3.out.cell 2).trans rfl, (B3.out.at3.cell 2).trans rfl⟩ (fun hHeld => ?_)
            clear hK K
            refine norm_ (a' := ?_) ?_ ?_
            rotate_left
            · show Act.put _ (some 31) _ = _
              simp only [Act.put, List.setIfInBounds_toArray, List.set_cons_zero, List.set_cons_succ, i64_w, i32_w]
              rfl
            refine one_ (i := 5) (N := some 32) #[true, true, true, true, true, true, false, false, false, false, false, false, false, false] rfl rfl (by kernel_rfl) (by decide) (fun K hK => ?_)
            refine goes_ Try.func68 (by kernel_rfl) rfl #[.agg #[.int .i64 x, .int .i64 y, .int .u32 z], .int .i64 (n : Int)] (by rfl) rfl rfl (by simp only [List.map_toArray, List.map_cons, List.map_nil]; rfl) ?_
            with_reducible refine (right_ x y z (n : Int) _).mono ?_
            rintro e w5 ⟨rfl, hb5⟩
            refine ⟨_, rfl, ?_⟩
            rw [HRT.out]
            have B5 := Aside0.mk (B3.out.below hb5)
            clear hb5
            refine hK.out _ _ ⟨(B5.out.cell 0).trans rfl, (B5.out.cell 1).trans rfl, (B5.out.cell 2).trans rfl, (B5.out.at3.cell 2).trans rfl⟩ (fun hHeld => ?_)
            clear hK K
            refine norm_ (a' := ?_) ?_ ?_
            rotate_left
            · show Act.put _ (some 32) _ = _
              simp only [Act.put, List.setIfInBounds_toArray, List.set_cons_zero, List.set_cons_succ, i64_w, i32_w]
              rfl
            refine pure_ (i := 6) (N := some 33) (v := ?_) (a' := ?_) #[true, true, true, true, true, true, true, false, false, false, false, false, false, false] rfl rfl (by kernel_rfl) (fun _ _ _ h => h) (Or.inl ⟨by rfl, ?_⟩) ?_ ?_
            rotate_left
            · intro w'
              go_simp
              with_reducible rfl
            rotate_left
            · simp only [Act.put, List.setIfInBounds_toArray, List.set_cons_zero, List.set_cons_succ, i64_w, i32_w]
              rfl
            refine pure_ (i := 7) (N := some 34) (v := ?_) (a' := ?_) #[true, true, true, true, true, true, true, true, false, false, false, false, false, false] rfl rfl (by kernel_rfl) (fun _ _ _ h => h) (Or.inl ⟨by rfl, ?_⟩) ?_ ?_
            rotate_left
            · intro w'
              go_simp
              with_reducible rfl
            rotate_left
            · simp only [Act.put, List.setIfInBounds_toArray, List.set_cons_zero, List.set_cons_succ, i64_w, i32_w]
              rfl
            refine pure_ (i := 8) (N := some 35) (v := ?_) (a' := ?_) #[true, true, true, true, true, true, true, true, true, false, false, false, false, false] rfl rfl (by kernel_rfl) (fun _ _ _ h => h) (Or.inl ⟨by rfl, ?_⟩) ?_ ?_
            rotate_left
            · intro w'
              go_simp
              with_reducible rfl
            rotate_left
            · simp only [Act.put, List.setIfInBounds_toArray, List.set_cons_zero, List.set_cons_succ, i64_w, i32_w]
              rfl
            refine pure_ (i := 10) (N := some 37) (v := ?_) (a' := ?_) #[true, true, true, true, true, true, true, true, true, false, true, false, false, false] rfl rfl (by kernel_rfl) (fun _ _ _ h => h) (Or.inl ⟨by rfl, ?_⟩) ?_ ?_
            rotate_left
            · intro w'
              go_simp
              with_reducible rfl
            rotate_left
            · simp only [Act.put, List.setIfInBounds_toArray, List.set_cons_zero, List.set_cons_succ, i64_w, i32_w]
              rfl
            refine take_ (i := 9) (N := some 36) (v := ?_) (a' := ?_) #[true, true, true, true, true, true, true, true, true, true, true, false, false, false] rfl rfl (by kernel_rfl) (fun _ _ _ h => h) (Or.inl ⟨by rfl, ?_⟩) hHeld ?_ ?_
            rotate_left
            · rintro w' ⟨s0, s1, s2, s3⟩
              go_simp
              with_reducible rfl
            rotate_left
            · simp only [Act.put, List.setIfInBounds_toArray, List.set_cons_zero, List.set_cons_succ, i64_w, i32_w]
              rfl
            refine take_ (i := 11) (N := some 38) (v := ?_) (a' := ?_) #[true, true, true, true, true, true, true, true, true, true, true, true, false, false] rfl rfl (by kernel_rfl) (fun _ _ _ h => h) (Or.inl ⟨by rfl, ?_⟩) hHeld ?_ ?_
            rotate_left
            · rintro w' ⟨s0, s1, s2, s3⟩
              go_simp
              with_reducible rfl
            rotate_left
            · simp only [Act.put, List.setIfInBounds_toArray, List.set_cons_zero, List.set_cons_succ, i64_w, i32_w]
              rfl
            refine pure_ (i := 12) (N := some 39) (v := ?_) (a' := ?_) #[true, true, true, true, true, true, true, true, true, true, true, true, true, false] rfl rfl (by kernel_rfl) (fun _ _ _ h => h) (Or.inl ⟨by rfl, ?_⟩) ?_ ?_
            rotate_left
            · intro w'
              go_simp
              with_reducible rfl
            rotate_left
            · simp only [Act.put, List.setIfInBounds_toArray, List.set_cons_zero, List.set_cons_succ, i64_w, i32_w]
              rfl
            refine pure_ (i := 13) (N := some 40) (v := ?_) (a' := ?_) #[true, true, true, true, true, true, true, true, true, true, true, true, true, true] rfl rfl (by kernel_rfl) (fun _ _ _ h => h) (Or.inl ⟨by rfl, ?_⟩) ?_ ?_
            rotate_left
            · intro w'
              go_simp
              with_reducible rfl
            rotate_left
            · simp only [Act.put, List.setIfInBounds_toArray, List.set_cons_zero, List.set_cons_succ, i64_w, i32_w]
              rfl
            refine done_ (by kernel_rfl) ?_
            have HST2 := Aside0.mk (HST.out.trans (pick_no HU.out (fun h => by rw [HBT.out] at h; have h2 : bz < z := h.2; omega)))
            go_wp2_with fail
            go_roundg (gk - 1)
            case measure => have := AK.out; omega
            case rel => exact ⟨j + 1, bx, by_, bz, by go_num, by have := AK.out; omega, by rw [HST2.out, HBT.out], B5.out.at3.drop2.sw23⟩
          case pos =>
            have hzd : decide (bz < z) = true := decide_eq_true hz
            go_wp2_with fail
            refine start_ (n := 14) (S := fun w' => w'.cell? ⟨w2.heap.size, 0, none⟩ = some (.int .i64 x) ∧ w'.cell? ⟨w2.heap.size, 1, none⟩ = some (.int .i64 y) ∧ w'.cell? ⟨w2.heap.size, 2, none⟩ = some (.int .u32 z) ∧ w'.cell? ⟨W.heap.size + 1, 2, none⟩ = some (.int .u32 bz)) (ds := []) #[false, false, false, false, false, false, false, false, false, false, false, false, false, false] (by kernel_rfl) rfl rfl ⟨(B3.out.cell 0).trans rfl, (B3.out.cell 1).trans rfl, (B3.out.cell 2).trans rfl, (B3.out.at3.cell 2).trans rfl⟩ (fun hHeld => ?_)
            refine pure_ (i := 0) (N := some 27) (v := ?_) (a' := ?_) #[true, false, false, false, false, false, false, false, false, false, false, false, false, false] rfl rfl (by kernel_rfl) (fun _ _ _ h => h) (Or.inl ⟨by rfl, ?_⟩) ?_ ?_
            rotate_left
            · intro w'
              go_simp
              with_reducible rfl
            rotate_left
            · simp only [Act.put, List.setIfInBounds_toArray, List.set_cons_zero, List.set_cons_succ, i64_w, i32_w]
              rfl
            refine pure_ (i := 1) (N := some 28) (v := ?_) (a' := ?_) #[true, true, false, false, false, false, false, false, false, false, false, false, false, false] rfl rfl (by kernel_rfl) (fun _ _ _ h => h) (Or.inl ⟨by rfl, ?_⟩) ?_ ?_
            rotate_left
            · intro w'
              go_simp
              with_reducible rfl
            rotate_left
            · simp only [Act.put, List.setIfInBounds_toArray, List.set_cons_zero, List.set_cons_succ, i64_w, i32_w]
              rfl
            refine pure_ (i := 3) (N := some 30) (v := ?_) (a' := ?_) #[true, true, false, true, false, false, false, false, false, false, false, false, false, false] rfl rfl (by kernel_rfl) (fun _ _ _ h => h) (Or.inl ⟨by rfl, ?_⟩) ?_ ?_
            rotate_left
            · intro w'
              go_simp
              with_reducible rfl
            rotate_left
            · simp only [Act.put, List.setIfInBounds_toArray, List.set_cons_zero, List.set_cons_succ, i64_w, i32_w]
              rfl
            refine take_ (i := 2) (N := some 29) (v := ?_) (a' := ?_) #[true, true, true, true, false, false, false, false, false, false, false, false, false, false] rfl rfl (by kernel_rfl) (fun _ _ _ h => h) (Or.inl ⟨by rfl, ?_⟩) hHeld ?_ ?_
            rotate_left
            · rintro w' ⟨s0, s1, s2, s3⟩
              go_simp
              with_reducible rfl
            rotate_left
            · simp only [Act.put, List.setIfInBounds_toArray, List.set_cons_zero, List.set_cons_succ, i64_w, i32_w]
              rfl
            refine one_ (i := 4) (N := some 31) #[true, true, true, true, true, false, false, false, false, false, false, false, false, false] rfl rfl (by kernel_rfl) (by decide) (fun K hK => ?_)
            refine goes_ Try.func50 (by kernel_rfl) rfl #[.pointer (some ⟨g, 0, none⟩)] (by rfl) rfl rfl (by simp only [List.map_toArray, List.map_cons, List.map_nil]; rfl) ?_
            with_reducible refine (len_ B3.out.at2).mono ?_
            rintro e w4 ⟨rfl, rfl⟩
            refine ⟨_, rfl, ?_⟩
            rw [HLN.out]
            refine hK.out _ _ ⟨(B3.out.cell 0).trans rfl, (B3.out.cell 1).trans rfl, (B3.out.cell 2).trans rfl, (B3.out.at3.cell 2).trans rfl⟩ (fun hHeld => ?_)
            clear hK K
            refine norm_ (a' := ?_) ?_ ?_
            rotate_left
            · show Act.put _ (some 31) _ = _
              simp only [Act.put, List.setIfInBounds_toArray, List.set_cons_zero, List.set_cons_succ, i64_w, i32_w]
              rfl
            refine one_ (i := 5) (N := some 32) #[true, true, true, true, true, true, false, false, false, false, false, false, false, false] rfl rfl (by kernel_rfl) (by decide) (fun K hK => ?_)
            refine goes_ Try.func68 (by kernel_rfl) rfl #[.agg #[.int .i64 x, .int .i64 y, .int .u32 z], .int .i64 (n : Int)] (by rfl) rfl rfl (by simp only [List.map_toArray, List.map_cons, List.map_nil]; rfl) ?_
            with_reducible refine (right_ x y z (n : Int) _).mono ?_
            rintro e w5 ⟨rfl, hb5⟩
            refine ⟨_, rfl, ?_⟩
            rw [HRT.out]
            have B5 := Aside0.mk (B3.out.below hb5)
            clear hb5
            refine hK.out _ _ ⟨(B5.out.cell 0).trans rfl, (B5.out.cell 1).trans rfl, (B5.out.cell 2).trans rfl, (B5.out.at3.cell 2).trans rfl⟩ (fun hHeld => ?_)
            clear hK K
            refine norm_ (a' := ?_) ?_ ?_
            rotate_left
            · show Act.put _ (some 32) _ = _
              simp only [Act.put, List.setIfInBounds_toArray, List.set_cons_zero, List.set_cons_succ, i64_w, i32_w]
              rfl
            refine pure_ (i := 6) (N := some 33) (v := ?_) (a' := ?_) #[true, true, true, true, true, true, true, false, false, false, false, false, false, false] rfl rfl (by kernel_rfl) (fun _ _ _ h => h) (Or.inl ⟨by rfl, ?_⟩) ?_ ?_
            rotate_left
            · intro w'
              go_simp
              with_reducible rfl
            rotate_left
            · simp only [Act.put, List.setIfInBounds_toArray, List.set_cons_zero, List.set_cons_succ, i64_w, i32_w]
              rfl
            refine pure_ (i := 7) (N := some 34) (v := ?_) (a' := ?_) #[true, true, true, true, true, true, true, true, false, false, false, false, false, false] rfl rfl (by kernel_rfl) (fun _ _ _ h => h) (Or.inl ⟨by rfl, ?_⟩) ?_ ?_
            rotate_left
            · intro w'
              go_simp
              with_reducible rfl
            rotate_left
            · simp only [Act.put, List.setIfInBounds_toArray, List.set_cons_zero, List.set_cons_succ, i64_w, i32_w]
              rfl
            refine pure_ (i := 8) (N := some 35) (v := ?_) (a' := ?_) #[true, true, true, true, true, true, true, true, true, false, false, false, false, false] rfl rfl (by kernel_rfl) (fun _ _ _ h => h) (Or.inl ⟨by rfl, ?_⟩) ?_ ?_
            rotate_left
            · intro w'
              go_simp
              with_reducible rfl
            rotate_left
            · simp only [Act.put, List.setIfInBounds_toArray, List.set_cons_zero, List.set_cons_succ, i64_w, i32_w]
              rfl
            refine pure_ (i := 10) (N := some 37) (v := ?_) (a' := ?_) #[true, true, true, true, true, true, true, true, true, false, true, false, false, false] rfl rfl (by kernel_rfl) (fun _ _ _ h => h) (Or.inl ⟨by rfl, ?_⟩) ?_ ?_
            rotate_left
            · intro w'
              go_simp
              with_reducible rfl
            rotate_left
            · simp only [Act.put, List.setIfInBounds_toArray, List.set_cons_zero, List.set_cons_succ, i64_w, i32_w]
              rfl
            refine take_ (i := 9) (N := some 36) (v := ?_) (a' := ?_) #[true, true, true, true, true, true, true, true, true, true, true, false, false, false] rfl rfl (by kernel_rfl) (fun _ _ _ h => h) (Or.inl ⟨by rfl, ?_⟩) hHeld ?_ ?_
            rotate_left
            · rintro w' ⟨s0, s1, s2, s3⟩
              go_simp
              with_reducible rfl
            rotate_left
            · simp only [Act.put, List.setIfInBounds_toArray, List.set_cons_zero, List.set_cons_succ, i64_w, i32_w]
              rfl
            refine take_ (i := 11) (N := some 38) (v := ?_) (a' := ?_) #[true, true, true, true, true, true, true, true, true, true, true, true, false, false] rfl rfl (by kernel_rfl) (fun _ _ _ h => h) (Or.inl ⟨by rfl, ?_⟩) hHeld ?_ ?_
            rotate_left
            · rintro w' ⟨s0, s1, s2, s3⟩
              go_simp
              with_reducible rfl
            rotate_left
            · simp only [Act.put, List.setIfInBounds_toArray, List.set_cons_zero, List.set_cons_succ, i64_w, i32_w]
              rfl
            refine pure_ (i := 12) (N := some 39) (v := ?_) (a' := ?_) #[true, true, true, true, true, true, true, true, true, true, true, true, true, false] rfl rfl (by kernel_rfl) (fun _ _ _ h => h) (Or.inl ⟨by rfl, ?_⟩) ?_ ?_
            rotate_left
            · intro w'
              go_simp
              with_reducible rfl
            rotate_left
            · simp only [Act.put, List.setIfInBounds_toArray, List.set_cons_zero, List.set_cons_succ, i64_w, i32_w]
              rfl
            refine pure_ (i := 13) (N := some 40) (v := ?_) (a' := ?_) #[true, true, true, true, true, true, true, true, true, true, true, true, true, true] rfl rfl (by kernel_rfl) (fun _ _ _ h => h) (Or.inl ⟨by rfl, ?_⟩) ?_ ?_
            rotate_left
            · intro w'
              go_simp
              with_reducible rfl
            rotate_left
            · simp only [Act.put, List.setIfInBounds_toArray, List.set_cons_zero, List.set_cons_succ, i64_w, i32_w]
              rfl
            refine done_ (by kernel_rfl) ?_
            have HST2 := Aside0.mk (HST.out.trans (pick_yes (r := (x, y, z)) HU.out HRT.out (by rw [HBT.out]; exact hz)))
            have l0 := (B5.out.cell 0).trans rfl
            have l1 := (B5.out.cell 1).trans rfl
            have l2 := (B5.out.cell 2).trans rfl
            obtain ⟨d0, f0, d1, f1, d2, f2, hS6⟩ := store3 (.int .i64 x) (.int .i64 y) (.int .u32 z) B5.out.at3
            have B6 := Aside0.mk hS6
            clear hS6
            go_wp2_with fail
            go_roundg (gk - 1)
            case measure => have := AK.out; omega
            case rel => exact ⟨j + 1, x, y, z, by go_num, by have := AK.out; omega, HST2.out, B6.out.drop2.sw23⟩
    · obtain rfl : j = 2 := by omega
      have D0 := AS.out.drew
      have r0 := (D0.cell 0).trans rfl
      have r1 := (D0.cell 1).trans rfl
      have r2 := (D0.cell 2).trans rfl
      have d0 : wr.cell? ⟨W.heap.size, 0, none⟩ = some (.int .i64 0) := (AS.out.at2.cell 0).trans rfl
      have d1 : wr.cell? ⟨W.heap.size, 1, none⟩ = some (.int .i64 0) := (AS.out.at2.cell 1).trans rfl
      have d2 : wr.cell? ⟨W.heap.size, 2, none⟩ = some (.int .u32 0) := (AS.out.at2.cell 2).trans rfl
      have f0 := AS.out.at2.frozen 0
      have f1 := AS.out.at2.frozen 1
      have f2 := AS.out.at2.frozen 2
      have hS6 := (store3 (.int .i64 bx) (.int .i64 by_) (.int .u32 bz) AS.out.at2).2.2.2.2.2.2.drew
      obtain ⟨w6, hw6⟩ : ∃ w6, (((wr.setCell ⟨W.heap.size, 0, none⟩ (.int .i64 bx)).setCell ⟨W.heap.size, 1, none⟩ (.int .i64 by_)).setCell ⟨W.heap.size, 2, none⟩ (.int .u32 bz)).drew = w6 := ⟨_, rfl⟩
      rw [hw6] at hS6
      have B6 := Aside0.mk hS6
      clear hS6 hjm
      go_wp2_with fail
      refine start_ (n := 6) (S := fun w' => w'.cell? ⟨W.heap.size + 1, 0, none⟩ = some (.int .i64 bx) ∧ w'.cell? ⟨W.heap.size + 1, 1, none⟩ = some (.int .i64 by_) ∧ w'.cell? ⟨W.heap.size + 1, 2, none⟩ = some (.int .u32 bz)) (ds := []) #[false, false, false, false, false, false] (by kernel_rfl) rfl rfl ⟨r0, r1, r2⟩ (fun hHeld => ?_)
      refine pure_ (i := 1) (N := some 44) (v := ?_) (a' := ?_) #[false, true, false, false, false, false] rfl rfl (by kernel_rfl) (fun _ _ _ h => h) (Or.inl ⟨by rfl, ?_⟩) ?_ ?_
      rotate_left
      · intro w'
        go_simp
        with_reducible rfl
      rotate_left
      · simp only [Act.put, List.setIfInBounds_toArray, List.set_cons_zero, List.set_cons_succ, i64_w, i32_w]
        rfl
      refine take_ (i := 0) (N := some 43) (v := ?_) (a' := ?_) #[true, true, false, false, false, false] rfl rfl (by kernel_rfl) (fun _ _ _ h => h) (Or.inl ⟨by rfl, ?_⟩) hHeld ?_ ?_
      rotate_left
      · rintro w' ⟨s0, s1, s2⟩
        go_simp
        with_reducible rfl
      rotate_left
      · simp only [Act.put, List.setIfInBounds_toArray, List.set_cons_zero, List.set_cons_succ, i64_w, i32_w]
        rfl
      refine take_ (i := 2) (N := some 45) (v := ?_) (a' := ?_) #[true, true, true, false, false, false] rfl rfl (by kernel_rfl) (fun _ _ _ h => h) (Or.inl ⟨by rfl, ?_⟩) hHeld ?_ ?_
      rotate_left
      · rintro w' ⟨s0, s1, s2⟩
        go_simp
        with_reducible rfl
      rotate_left
      · simp only [Act.put, List.setIfInBounds_toArray, List.set_cons_zero, List.set_cons_succ, i64_w, i32_w]
        rfl
      refine pure_ (i := 3) (N := some 46) (v := ?_) (a' := ?_) #[true, true, true, true, false, false] rfl rfl (by kernel_rfl) (fun _ _ _ h => h) (Or.inl ⟨by rfl, ?_⟩) ?_ ?_
      rotate_left
      · intro w'
        go_simp
        with_reducible rfl
      rotate_left
      · simp only [Act.put, List.setIfInBounds_toArray, List.set_cons_zero, List.set_cons_succ, i64_w, i32_w]
        rfl
      refine one_ (i := 4) (N := none) #[true, true, true, true, true, false] rfl rfl (by kernel_rfl) (by decide) (fun K hK => ?_)
      refine skip_ (w1 := ?_) (by rfl) rfl ?_ ?_
      rotate_left
      · go_simp
        rfl
      refine hK.out _ _ ⟨(B6.out.at2.cell 0).trans rfl, (B6.out.at2.cell 1).trans rfl, (B6.out.at2.cell 2).trans rfl⟩ (fun hHeld => ?_)
      clear hK K
      refine pure_ (i := 5) (N := some 3) (v := ?_) (a' := ?_) #[true, true, true, true, true, true] rfl rfl (by kernel_rfl) (fun _ _ _ h => h) (Or.inl ⟨by rfl, ?_⟩) ?_ ?_
      rotate_left
      · intro w'
        go_simp
        with_reducible rfl
      rotate_left
      · simp only [Act.put, List.setIfInBounds_toArray, List.set_cons_zero, List.set_cons_succ, i64_w, i32_w]
        rfl
      refine done_ (by kernel_rfl) ?_
      have q0 : w6.cell? ⟨W.heap.size, 0, none⟩ = some (.int .i64 bx) := (B6.out.cell 0).trans rfl
      have q1 : w6.cell? ⟨W.heap.size, 1, none⟩ = some (.int .i64 by_) := (B6.out.cell 1).trans rfl
      have q2 : w6.cell? ⟨W.heap.size, 2, none⟩ = some (.int .u32 bz) := (B6.out.cell 2).trans rfl
      clear r0 r1 r2 d0 d1 d2 f0 f1 f2 D0
      go_wp2_with fail
      go_retc (.tuple #[.agg #[.int .i64 bx, .int .i64 by_, .int .u32 bz], .bool (decide (0 < bz))])
      exact ⟨by rw [HBT.out]; rfl, B6.out.tail.tail⟩
end
end Go.Proofs.Ytjngnigelkgekaa.Root
namespace Go.Proofs.Ytjngnigelkgekaa.Root
set_option linter.unusedVariables false
set_option linter.unusedSimpArgs false
open Go.RowKit Go.Proofs.YtjngnigelkgekaaW.PrintWords Go.Proofs.YtjngnigelkgekaaW.PrintLast Go.Proofs.YtjngnigelkgekaaW.PrintMore Go.Proofs.Ytjngnigelkgekaa.Kit Go.Proofs.Ytjngnigelkgekaa.Plain Go.Proofs.Ytjngnigelkgekaa.Disk Go.Proofs.Ytjngnigelkgekaa.Ref
section
variable {w0 W : World} {F : List HP} {g n : Nat} {las : List Int} {wt : Wt} {done : Nat}
end
end Go.Proofs.Ytjngnigelkgekaa.Root
namespace Go.Proofs.Ytjngnigelkgekaa.Root
set_option linter.unusedVariables false
set_option linter.unusedSimpArgs false
open Go.RowKit Go.Proofs.YtjngnigelkgekaaW.PrintWords Go.Proofs.YtjngnigelkgekaaW.PrintLast Go.Proofs.YtjngnigelkgekaaW.PrintMore Go.Proofs.Ytjngnigelkgekaa.Kit Go.Proofs.Ytjngnigelkgekaa.Base Go.Proofs.Ytjngnigelkgekaa.Plain
end Go.Proofs.Ytjngnigelkgekaa.Root
namespace Go.Proofs.Ytjngnigelkgekaa.Root
set_option linter.unusedVariables false
set_option linter.unusedSimpArgs false
open Go.RowKit Go.Proofs.YtjngnigelkgekaaW.PrintWords Go.Proofs.YtjngnigelkgekaaW.PrintLast Go.Proofs.YtjngnigelkgekaaW.PrintMore Go.Proofs.Ytjngnigelkgekaa.Kit Go.Proofs.Ytjngnigelkgekaa.Plain Go.Proofs.Ytjngnigelkgekaa.Disk
/-- A write that goes in where it may. -/
def putW (n : Nat) (wt : Wt) (i : Nat) (b : List Int) : Wt := if i < n ∧ b.length = 64 then (fun j => if j = i then some b else wt j) else wt
theorem putW_len {n : Nat} {wt : Wt} {i : Nat} {b : List Int} (hw : ∀ i b, wt i = some b → b.length = 64) : ∀ k c, putW n wt i b k = some c → c.length = 64 := by
  unfold putW
  by_cases h : i < n ∧ b.length = 64
  · rw [if_pos h]; exact Ref.upd_len hw h.2
  · rw [if_neg h]; exact hw
theorem putW_bytes {n : Nat} {wt : Wt} {i : Nat} {b : List Int} (hw : ∀ i b, wt i = some b → Bytes b) (hb : Bytes b) : ∀ k c, putW n wt i b k = some c → Bytes c := by
  unfold putW
  by_cases h : i < n ∧ b.length = 64
  · rw [if_pos h]
    intro k c hk
    by_cases hki : k = i
    · simp only [if_pos hki] at hk; injection hk with hk; rw [← hk]; exact hb
    · simp only [if_neg hki] at hk; exact hw k c hk
  · rw [if_neg h]; exact hw
theorem secF_bytes {n : Nat} {las : List Int} {wt : Wt} (hl : Bytes las) (hw : ∀ i b, wt i = some b → Bytes b) (j : Nat) : Bytes (secF n las wt j) := by
  unfold secF
  by_cases h : j < n
  · rw [if_pos h]
    cases hj : wt j with
    | none => exact (hl.drop _).take _
    | some b => exact hw j b hj
  · rw [if_neg h]; exact Bytes.nil
section
variable {w0 W : World} {F : List HP} {g n : Nat} {las : List Int} {wt : Wt}
theorem dwrite_ (h : Sep w0 W (Dsk g las wt :: F)) (hl : las.length = 64 * n) (hn : n ≤ 160) (i : Nat) {A : Option Addr} {m c : Nat} {b : List Int} (hb : U8.C W A m b) (hc : m ≤ c) :
    Calls Try.prog 45 #[.pointer (some ⟨g, 0, none⟩), .int .i64 (i : Int), .slice A m c] W fun e w' => e = .returned (.bool (decide (i < n ∧ b.length = 64))) ∧ Sep w0 w' (Dsk g las (putW n wt i b) :: F) := by
  obtain rfl : b.length = m := hb.1
  by_cases hi : i < n ∧ b.length = 64
  · rw [decide_eq_true hi]
    obtain ⟨h1, h2⟩ := hi
    have hp : putW n wt i b = (fun j => if j = i then some b else wt j) := if_pos ⟨h1, h2⟩
    rw [hp]
    rw [h2] at hb hc ⊢
    exact write_in h i (by omega) hb hc
  · rw [decide_eq_false hi]
    refine (write_out h (i : Int) hb.2.1 (by omega)).mono ?_
    rintro e w' ⟨rfl, rfl⟩
    rw [show putW n wt i b = wt from if_neg hi]
    exact ⟨rfl, h⟩
end
end Go.Proofs.Ytjngnigelkgekaa.Root
namespace Go.Proofs.Ytjngnigelkgekaa.Root
set_option linter.unusedVariables false
set_option linter.unusedSimpArgs false
open Go.RowKit Go.Proofs.YtjngnigelkgekaaW.PrintWords Go.Proofs.YtjngnigelkgekaaW.PrintLast Go.Proofs.YtjngnigelkgekaaW.PrintMore Go.Proofs.Ytjngnigelkgekaa.Kit Go.Proofs.Ytjngnigelkgekaa.Plain Go.Proofs.Ytjngnigelkgekaa.Disk
end Go.Proofs.Ytjngnigelkgekaa.Root
namespace Go.Proofs.Ytjngnigelkgekaa.Root
set_option linter.unusedVariables false
set_option linter.unusedSimpArgs false
open Go.RowKit Go.Proofs.YtjngnigelkgekaaW.PrintWords Go.Proofs.YtjngnigelkgekaaW.PrintLast Go.Proofs.YtjngnigelkgekaaW.PrintMore Go.Proofs.Ytjngnigelkgekaa.Kit Go.Proofs.Ytjngnigelkgekaa.Plain Go.Proofs.Ytjngnigelkgekaa.Disk
end Go.Proofs.Ytjngnigelkgekaa.Root
namespace Go.Proofs.Ytjngnigelkgekaa.Kit
set_option linter.unusedVariables false
set_option linter.unusedSimpArgs false
open Go.RowKit Go.Proofs.YtjngnigelkgekaaW.PrintWords Go.Proofs.YtjngnigelkgekaaW.PrintLast Go.Proofs.YtjngnigelkgekaaW.PrintMore
/-- One element of one's own, as its cells. -/
def El {α : Type} (d : Kd α) (x : α) (cs : List Value) : HP where
  P W ok := d.M W 0 ok x cs ∧ ∀ k, ok k → k < W.heap.size
  loc := fun {W W' ok} h hm => ⟨d.M_move hm h.1, fun k hk => by
      have := hm k hk
      rw [Array.getElem?_eq_getElem (h.2 k hk)] at this
      exact (Array.getElem?_eq_some_iff.1 this).1⟩
  bnd := fun h => h.2
namespace Sep
variable {w0 W W' : World} {F : List HP}
theorem elSlice {α : Type} {d : Kd α} {e : Nat} {v : Value} {xs : List α} (h : Sep w0 W (Row d e v xs :: F)) : Sep w0 W (El (Kd.slice e d) xs [v] :: F) := h.imp (fun ok hp => ⟨⟨v, rfl, hp.1⟩, hp.2⟩)
theorem elPair {α β : Type} {a : Kd α} {b : Kd β} {x : α} {y : β} {p q : List Value} (h : Sep w0 W (El b y q :: F)) (hp : ∀ W base ok, a.M W base ok x p) : Sep w0 W (El (Kd.pair a b) (x, y) (p ++ q) :: F) :=
  h.imp (fun ok hq => ⟨⟨p, q, rfl, hp _ _ _, hq.1⟩, hq.2⟩)
section
variable {P : Program} {ops : Array Oper} {rest : List Oper} {o : Oper} {a : Act} {Q : Exit → Act → World → Prop} {α : Type} {d : Kd α}
theorem appendDeep {e : Nat} {v : Value} {xs : List α} {x : α} {cs : List Value} (h : Sep w0 W (Row d e v xs :: El d x cs :: F)) (hgd : o.guard = none) (s y : Operand) (t : TypeId) (z : Value) (bytes : Nat)
    (ho : o.op = .call { callee := .builtin .append, args := #[s, y], argTypes := #[t, t] })
    (ht : P.underlying t = some (.slice e)) (hinfo : (P.info? e).map (fun i => (i.zero, i.size, i.bytes)) = some (some z, d.sz, bytes)) (hz : z.cells.size = d.sz) (hs0 : 0 < d.sz) (hb0 : 0 < bytes)
    (hs : a.eval s = v) (hx : a.eval y = .slice (some ⟨W.heap.size, 0, none⟩) 1 1) (hl : (xs.length + 1) * bytes ≤ 140737488355328)
    (k : ∀ v1 w1, W.heap.size ≤ w1.heap.size → Sep w0 w1 (Row d e v1 (xs ++ [x]) :: F) → wpList P ops Q rest (a.put o.dst v1) w1) : wpList P ops Q (o :: rest) a (W.alloc (.cells cs.toArray e)) := by
  obtain ⟨ok1, hp, hd1, ok2, hq, hd2, hF⟩ := h.sep
  refine Kd.R_append d (w0 := W) 0 hgd s y t e z bytes ho ht hinfo hz hs0 hb0 v xs x cs (fun k => (ok1 k ∨ ok2 k) ∨ W.heap.size ≤ k) ok2 hs hx hq.1 (fun k hk => ⟨.inl (.inr hk), fun he => hd2 k hk (.inr (hp.1.1 k he.symm))⟩) (fun k hk => .inr hk)
    (Kd.R_mono hp.1 (fun k hk => .inl (.inl hk))) (Below.refl 0 W) (Nat.zero_le _) hl (fun v1 w1 hr hb hg hat => k v1 w1 hb.size ?_)
  refine h.stepOk (ok := fun k => ok1 k ∨ ok2 k) (ok' := fun k => ((ok1 k ∨ ok2 k) ∨ W.heap.size ≤ k) ∧ k < w1.heap.size) (fun k hk => hk.elim (hd1 k) (fun h2 h3 => hd2 k h2 (.inl h3))) (hF.weaken (fun k hk => ?_)) ⟨hg.os, hg.tape, hg.output, hg.size⟩ (fun k hlt hn => hg.block k hlt (fun he => hn (.inl (hp.1.1 k he.symm))))
    ⟨Kd.R_mono (Kd.R_bound hr) (fun k hk => ⟨hk.1, hk.2.2.1⟩), fun k hk => hk.2⟩ (fun k hk => hk.1)
  rcases hk with h3 | h3 | h3
  · exact .inl (.inl h3)
  · exact .inl (.inr h3)
  · exact .inr h3
theorem appendDeepStep {Kc : Act → World → Prop} {e : Nat} {v : Value} {xs : List α} {x : α} {cs : List Value} (h : Sep w0 W (Row d e v xs :: El d x cs :: F)) (hw : Region.wanted o (yielded ops a.tmps) = true) (s y : Operand) (t : TypeId) (z : Value) (bytes : Nat)
    (ho : o.op = .call { callee := .builtin .append, args := #[s, y], argTypes := #[t, t] })
    (ht : P.underlying t = some (.slice e)) (hinfo : (P.info? e).map (fun i => (i.zero, i.size, i.bytes)) = some (some z, d.sz, bytes)) (hz : z.cells.size = d.sz) (hs0 : 0 < d.sz) (hb0 : 0 < bytes)
    (hs : a.eval s = v) (hx : a.eval y = .slice (some ⟨W.heap.size, 0, none⟩) 1 1) (hl : (xs.length + 1) * bytes ≤ 140737488355328)
    (k : ∀ v1 w1, W.heap.size ≤ w1.heap.size → Sep w0 w1 (Row d e v1 (xs ++ [x]) :: F) → Kc (a.put o.dst v1) w1) : if Region.wanted o (yielded ops a.tmps) = true then Oper.wp P o a (W.alloc (.cells cs.toArray e)) Kc Q else Kc (a.put o.dst undef) (W.alloc (.cells cs.toArray e)) := by
  obtain ⟨ok1, hp, hd1, ok2, hq, hd2, hF⟩ := h.sep
  refine Kd.R_append_step d (w0 := W) 0 hw s y t e z bytes ho ht hinfo hz hs0 hb0 v xs x cs (fun k => (ok1 k ∨ ok2 k) ∨ W.heap.size ≤ k) ok2 hs hx hq.1 (fun k hk => ⟨.inl (.inr hk), fun he => hd2 k hk (.inr (hp.1.1 k he.symm))⟩) (fun k hk => .inr hk)
    (Kd.R_mono hp.1 (fun k hk => .inl (.inl hk))) (Below.refl 0 W) (Nat.zero_le _) hl (fun v1 w1 hr hb hg hat => k v1 w1 hb.size ?_)
  refine h.stepOk (ok := fun k => ok1 k ∨ ok2 k) (ok' := fun k => ((ok1 k ∨ ok2 k) ∨ W.heap.size ≤ k) ∧ k < w1.heap.size) (fun k hk => hk.elim (hd1 k) (fun h2 h3 => hd2 k h2 (.inl h3))) (hF.weaken (fun k hk => ?_)) ⟨hg.os, hg.tape, hg.output, hg.size⟩ (fun k hlt hn => hg.block k hlt (fun he => hn (.inl (hp.1.1 k he.symm))))
    ⟨Kd.R_mono (Kd.R_bound hr) (fun k hk => ⟨hk.1, hk.2.2.1⟩), fun k hk => hk.2⟩ (fun k hk => hk.1)
  rcases hk with h3 | h3 | h3
  · exact .inl (.inl h3)
  · exact .inl (.inr h3)
  · exact .inr h3
end
end Sep
end Go.Proofs.Ytjngnigelkgekaa.Kit
