/- Package redo: records of a log that has none. -/
import Derived.Test.YtjngnigelkgekaaRedo2
import Derived.Test.YtjngnigelkgekaaRedoQ
import Derived.OwnWalk
namespace Go.Proofs.Ytjngnigelkgekaa.Redo
set_option linter.unusedVariables false
set_option linter.unusedSimpArgs false
open Go.RowKit Go.Proofs.YtjngnigelkgekaaW.PrintWords Go.Proofs.YtjngnigelkgekaaW.PrintLast Go.Proofs.YtjngnigelkgekaaW.PrintMore Go.Proofs.Ytjngnigelkgekaa.Kit Go.Proofs.Ytjngnigelkgekaa.Plain Go.Proofs.Ytjngnigelkgekaa.Disk Go.Proofs.Ytjngnigelkgekaa.Root
set_option maxHeartbeats 400000 in
theorem fread_no {A : Option Addr} {n c : Nat} {l : List Int} {w : World} (hr : U8.C w A n l) (hc : n ≤ c) (hb : Bytes l) (h16 : 16 ≤ n) (ep sq : Int) (hne : getF l 0 ≠ ep) :
    Calls Try.prog 140 #[.slice A n c, .int .u32 ep, .int .u32 sq] w fun e w' => e = .returned (.tuple #[.slice none 0 0, .int .i64 0, .bool false]) ∧ w = w' := by
  have HR := Aside0.mk (And.intro hr (And.intro hc hb))
  have hl : ¬ (n : Int) < 16 := by omega
  have hm : n ≤ 9223372036854775807 := hr.2.1
  have hn1 : (getF l 0 != ep) = true := by simpa using hne
  clear hr hc hb h16 hne
  go_enter Try.func140, Try.ntmps140
  go_wp2_with fail
  refine (Sum.get_ (l := l) (a := 0) HR.out.1 HR.out.2.1 HR.out.2.2 (by omega)).mono ?_
  rintro e w1 ⟨rfl, rfl⟩
  generalize getF l 0 = x at hn1
  go_wp2_with fail
  go_ret3
  exact ⟨by first | rfl | (simp; done), rfl⟩
set_option maxHeartbeats 400000 in
theorem scan_no {A : Option Addr} {n c : Nat} {l : List Int} {w : World} (hr : U8.C w A n l) (hc : n ≤ c) (hb : Bytes l) (h16 : 16 ≤ n) (ep : Int) (hne : getF l 0 ≠ ep) :
    Calls Try.prog 132 #[.slice A n c, .int .u32 ep] w fun e w' => e = .returned (.tuple #[.slice none 0 0, .int .i64 0]) ∧ w = w' := by
  have hcut := cutLo Try.underlying30 Base.infoB A n c 0 (J := 0) rfl (by omega) hc
  have hC := C_lo (a := 0) (c := c) hr (by omega) hc
  rw [List.drop_zero] at hC
  have hC' : U8.C w (if c = 0 then A else A.map (·.add (0 * 1))) n l := hC
  obtain ⟨AL, hAL⟩ : ∃ AL, (if c = 0 then A else A.map (·.add (0 * 1))) = AL := ⟨_, rfl⟩
  rw [hAL] at hC'
  simp only [hAL, Nat.sub_zero] at hcut
  have HR := Aside0.mk (And.intro hC' (And.intro hc (And.intro hb (And.intro h16 hne))))
  clear hr hC hC' hAL hc hb h16 hne
  go_enter Try.func132, Try.ntmps132
  go_wp2_with fail
  go_loopg [6, 7] 1 (fun k_ s v wr => s = .slice none 0 0 ∧ v = .int .i64 0 ∧ w = wr)
  case atStart => exact ⟨rfl, rfl, rfl⟩
  case round =>
    obtain ⟨rfl, rfl, rfl⟩ := hrel
    go_wp2_with fail
    refine (fread_no HR.out.1 HR.out.2.1 HR.out.2.2.1 HR.out.2.2.2.1 ep 0 HR.out.2.2.2.2).mono ?_
    rintro e w1 ⟨rfl, rfl⟩
    go_wp2_with fail
    go_ret2
    exact ⟨by first | rfl | (simp; done), rfl⟩
section
variable {w0 W : World} {F : List HP} {g n : Nat} {las : List Int} {wt : Wt}
set_option maxHeartbeats 800000 in
set_option maxRecDepth 100000 in
theorem records_no (h : Sep w0 W (Dsk g las wt :: F)) (hl : las.length = 64 * n) (hw : ∀ i b, wt i = some b → b.length = 64) (a b c : Int) (h16 : 16 ≤ (logF n las wt a b c).length) (hb : Bytes (logF n las wt a b c)) (hne : getF (logF n las wt a b c) 0 ≠ c) :
    Calls Try.prog 112 #[.pointer (some ⟨g, 0, none⟩), .agg #[.int .i64 a, .int .i64 b, .int .u32 c]] W fun e w' => e = .returned (.tuple #[.slice none 0 0, .int .i64 0]) ∧ Sep w0 w' (Dsk g las wt :: F) := by
  have A0 := Aside0.mk (h.newBlk 26 #[.int .i64 a, .int .i64 b, .int .u32 c]).drew
  have HL := Aside0.mk (And.intro hl (And.intro hw (And.intro h16 (And.intro hb hne))))
  clear h hl hw h16 hb hne
  go_enter Try.func112, Try.ntmps112
  go_wp2_with fail
  refine start_ (n := 11) (S := fun w' => w'.cell? ⟨W.heap.size, 0, none⟩ = some (.int .i64 a) ∧ w'.cell? ⟨W.heap.size, 1, none⟩ = some (.int .i64 b) ∧ w'.cell? ⟨W.heap.size, 2, none⟩ = some (.int .u32 c)) (ds := []) #[false, false, false, false, false, false, false, false, false, false, false] (by kernel_rfl) rfl rfl ⟨(A0.out.cell 0).trans rfl, (A0.out.cell 1).trans rfl, (A0.out.cell 2).trans rfl⟩ (fun hHeld => ?_)
  refine pure_ (i := 0) (N := some 15) (v := ?_) (a' := ?_) #[true, false, false, false, false, false, false, false, false, false, false] rfl rfl (by kernel_rfl) (fun _ _ _ h => h) (Or.inl ⟨by rfl, ?_⟩) ?_ ?_
  rotate_left
  · intro w'
    go_simp
    with_reducible rfl
  rotate_left
  · simp only [Act.put, List.setIfInBounds_toArray, List.set_cons_zero, List.set_cons_succ, i64_w, i32_w]
    rfl
  refine pure_ (i := 3) (N := some 18) (v := ?_) (a' := ?_) #[true, false, false, true, false, false, false, false, false, false, false] rfl rfl (by kernel_rfl) (fun _ _ _ h => h) (Or.inl ⟨by rfl, ?_⟩) ?_ ?_
  rotate_left
  · intro w'
    go_simp
    with_reducible rfl
  rotate_left
  · simp only [Act.put, List.setIfInBounds_toArray, List.set_cons_zero, List.set_cons_succ, i64_w, i32_w]
    rfl
  refine take_ (i := 1) (N := some 16) (v := ?_) (a' := ?_) #[true, true, false, true, false, false, false, false, false, false, false] rfl rfl (by kernel_rfl) (fun _ _ _ h => h) (Or.inl ⟨by rfl, ?_⟩) hHeld ?_ ?_
  rotate_left
  · rintro w' ⟨s0, s1, s2⟩
    go_simp
    with_reducible rfl
  rotate_left
  · simp only [Act.put, List.setIfInBounds_toArray, List.set_cons_zero, List.set_cons_succ, i64_w, i32_w]
    rfl
  refine take_ (i := 4) (N := some 19) (v := ?_) (a' := ?_) #[true, true, false, true, true, false, false, false, false, false, false] rfl rfl (by kernel_rfl) (fun _ _ _ h => h) (Or.inl ⟨by rfl, ?_⟩) hHeld ?_ ?_
  rotate_left
  · rintro w' ⟨s0, s1, s2⟩
    go_simp
    with_reducible rfl
  rotate_left
  · simp only [Act.put, List.setIfInBounds_toArray, List.set_cons_zero, List.set_cons_succ, i64_w, i32_w]
    rfl
  refine one_ (i := 2) (N := some 17) #[true, true, true, true, true, false, false, false, false, false, false] rfl rfl (by kernel_rfl) (by decide) (fun K hK => ?_)
  refine goes_ Try.func64 (by kernel_rfl) rfl #[.pointer (some ⟨g, 0, none⟩), .agg #[.int .i64 a, .int .i64 b, .int .u32 c]] (by rfl) rfl rfl (by simp only [List.map_toArray, List.map_cons, List.map_nil]; rfl) ?_
  with_reducible refine (bytes_ A0.out.at2 HL.out.1 HL.out.2.1 a b c).mono ?_
  rintro e w3 ⟨v3, rfl, hS3⟩
  refine ⟨_, rfl, ?_⟩
  obtain ⟨A3, c3, rfl⟩ := hS3.rowV
  have B3 := Aside0.mk hS3
  clear hS3
  refine hK.out _ _ ⟨(B3.out.at3.cell 0).trans rfl, (B3.out.at3.cell 1).trans rfl, (B3.out.at3.cell 2).trans rfl⟩ (fun hHeld => ?_)
  clear hK K
  refine norm_ (a' := ?_) ?_ ?_
  rotate_left
  · show Act.put _ (some 17) _ = _
    simp only [Act.put, List.setIfInBounds_toArray, List.set_cons_zero, List.set_cons_succ, i64_w, i32_w]
    rfl
  refine one_ (i := 5) (N := some 20) #[true, true, true, true, true, true, false, false, false, false, false] rfl rfl (by kernel_rfl) (by decide) (fun K hK => ?_)
  refine goes_ Try.func132 (by kernel_rfl) rfl #[.slice A3 (logF n las wt a b c).length c3, .int .u32 c] (by rfl) rfl rfl (by simp only [List.map_toArray, List.map_cons, List.map_nil]; rfl) ?_
  with_reducible refine (scan_no B3.out.rowC' B3.out.rowC.2.1 HL.out.2.2.2.1 HL.out.2.2.1 c HL.out.2.2.2.2).mono ?_
  rintro e w4 ⟨rfl, rfl⟩
  refine ⟨_, rfl, ?_⟩
  refine hK.out _ _ ⟨(B3.out.at3.cell 0).trans rfl, (B3.out.at3.cell 1).trans rfl, (B3.out.at3.cell 2).trans rfl⟩ (fun hHeld => ?_)
  clear hK K
  refine norm_ (a' := ?_) ?_ ?_
  rotate_left
  · show Act.put _ (some 20) _ = _
    simp only [Act.put, List.setIfInBounds_toArray, List.set_cons_zero, List.set_cons_succ, i64_w, i32_w]
    rfl
  refine pure_ (i := 6) (N := some 14) (v := ?_) (a' := ?_) #[true, true, true, true, true, true, true, false, false, false, false] rfl rfl (by kernel_rfl) (fun _ _ _ h => h) (Or.inl ⟨by rfl, ?_⟩) ?_ ?_
  rotate_left
  · intro w'
    go_simp
    with_reducible rfl
  rotate_left
  · simp only [Act.put, List.setIfInBounds_toArray, List.set_cons_zero, List.set_cons_succ, i64_w, i32_w]
    rfl
  refine pure_ (i := 7) (N := some 21) (v := ?_) (a' := ?_) #[true, true, true, true, true, true, true, true, false, false, false] rfl rfl (by kernel_rfl) (fun _ _ _ h => h) (Or.inl ⟨by rfl, ?_⟩) ?_ ?_
  rotate_left
  · intro w'
    go_simp
    with_reducible rfl
  rotate_left
  · simp only [Act.put, List.setIfInBounds_toArray, List.set_cons_zero, List.set_cons_succ, i64_w, i32_w]
    rfl
  refine pure_ (i := 8) (N := some 22) (v := ?_) (a' := ?_) #[true, true, true, true, true, true, true, true, true, false, false] rfl rfl (by kernel_rfl) (fun _ _ _ h => h) (Or.inl ⟨by rfl, ?_⟩) ?_ ?_
  rotate_left
  · intro w'
    go_simp
    with_reducible rfl
  rotate_left
  · simp only [Act.put, List.setIfInBounds_toArray, List.set_cons_zero, List.set_cons_succ, i64_w, i32_w]
    rfl
  refine pure_ (i := 9) (N := some 6) (v := ?_) (a' := ?_) #[true, true, true, true, true, true, true, true, true, true, false] rfl rfl (by kernel_rfl) (fun _ _ _ h => h) (Or.inl ⟨by rfl, ?_⟩) ?_ ?_
  rotate_left
  · intro w'
    go_simp
    with_reducible rfl
  rotate_left
  · simp only [Act.put, List.setIfInBounds_toArray, List.set_cons_zero, List.set_cons_succ, i64_w, i32_w]
    rfl
  refine pure_ (i := 10) (N := some 7) (v := ?_) (a' := ?_) #[true, true, true, true, true, true, true, true, true, true, true] rfl rfl (by kernel_rfl) (fun _ _ _ h => h) (Or.inl ⟨by rfl, ?_⟩) ?_ ?_
  rotate_left
  · intro w'
    go_simp
    with_reducible rfl
  rotate_left
  · simp only [Act.put, List.setIfInBounds_toArray, List.set_cons_zero, List.set_cons_succ, i64_w, i32_w]
    rfl
  refine done_ (by kernel_rfl) ?_
  go_wp2_with fail
  go_loopg [8, 9, 25] 0 (fun k_ s v p wr => s = .slice none 0 0 ∧ v = .int .i64 0 ∧ p = .int .i64 0 ∧ w3 = wr)
  case atStart => exact ⟨rfl, rfl, rfl, rfl⟩
  case round =>
    obtain ⟨rfl, rfl, rfl, rfl⟩ := hrel
    go_wp2_with fail
    go_ret2
    exact ⟨by first | rfl | (simp; done), B3.out.tail.drop2⟩
end
end Go.Proofs.Ytjngnigelkgekaa.Redo
