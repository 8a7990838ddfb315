/- The document's root. -/
import Derived.Test.YtjngnigelkgekaaRoot2
namespace Go.Proofs.Ytjngnigelkgekaa.Root
set_option linter.unusedVariables false
set_option linter.unusedSimpArgs false
open Go.RowKit Go.Proofs.YtjngnigelkgekaaW.PrintWords Go.Proofs.YtjngnigelkgekaaW.PrintLast Go.Proofs.YtjngnigelkgekaaW.PrintMore Go.Proofs.Ytjngnigelkgekaa.Kit Go.Proofs.Ytjngnigelkgekaa.Base Go.Proofs.Ytjngnigelkgekaa.Plain Go.Proofs.Ytjngnigelkgekaa.Sum
set_option maxHeartbeats 800000 in
set_option maxRecDepth 100000 in
theorem rroot_ (a b c : Int) (hc : 0 ≤ c ∧ c ≤ 4294967295) (w : World) :
    Calls Try.prog 39 #[.agg #[.int .i64 a, .int .i64 b, .int .u32 c]] w fun e w' => ∃ v, e = .returned v ∧ Sep w w' [Row U8 5 v (rootF (m32 a) (m32 b) c)] := by
  have hsz : (w.alloc (.cells #[.int .i64 a, .int .i64 b, .int .u32 c] 26)).drew.heap.size = w.heap.size + 1 := by simp
  have kc := fun (C : Array Value) (n cp : Nat) => Lib.run_convert_bytes_const (P := Try.prog) (w.alloc (.cells #[.int .i64 a, .int .i64 b, .int .u32 c] 26)).drew 30 5 C n cp Try.underlying30 Try.underlying5
  rw [hsz] at kc
  have HI := Aside0.mk (And.intro (m32_in a) (And.intro (m32_in b) hc))
  have w1 := m32_wrap a
  have w2 := m32_wrap b
  have A0 := Aside0.mk ((Sep.start w).newBlk 26 #[.int .i64 a, .int .i64 b, .int .u32 c]).drew
  have A1 := Aside0.mk (A0.out.alloc (.cells #[.int .u8 69, .int .u8 78, .int .u8 71, .int .u8 49] 5))
  have A2 := Aside0.mk (A0.out.alloc (.cells #[.int .u8 69, .int .u8 78, .int .u8 71, .int .u8 49] 5 (4, 5)))
  have HC := lit_C (w.alloc (.cells #[.int .i64 a, .int .i64 b, .int .u32 c] 26)).drew .u8 #[.int .u8 69, .int .u8 78, .int .u8 71, .int .u8 49] 5 (4, 5) markL rfl (by decide)
  rw [hsz] at HC
  have HLC := Aside0.mk HC
  clear hc HC
  simp only [World.alloc_drew] at kc A1 A2 HLC
  generalize m32 a = x at *
  generalize m32 b = y at *
  go_enter Try.func39, Try.ntmps39
  go_wp2_with fail
  refine start_ (n := 14) (S := fun w' => w'.cell? ⟨w.heap.size, 0, none⟩ = some (.int .i64 a) ∧ w'.cell? ⟨w.heap.size, 1, none⟩ = some (.int .i64 b) ∧ w'.cell? ⟨w.heap.size, 2, none⟩ = some (.int .u32 c)) (ds := [12]) #[false, false, false, false, false, false, false, false, false, false, false, false, false, false] (by kernel_rfl) rfl rfl ⟨(A0.out.cell 0).trans rfl, (A0.out.cell 1).trans rfl, (A0.out.cell 2).trans rfl⟩ (fun hHeld => ?_)
  refine pure_ (i := 2) (N := some 6) (v := ?_) (a' := ?_) #[false, false, true, false, false, false, false, false, false, false, false, false, false, false] rfl rfl (by kernel_rfl) (fun _ _ _ h => h) (Or.inl ⟨by rfl, ?_⟩) ?_ ?_
  rotate_left
  · intro w'
    go_simp
    with_reducible rfl
  rotate_left
  · simp only [Act.put, List.setIfInBounds_toArray, List.set_cons_zero, List.set_cons_succ, i64_w, i32_w]
    rfl
  refine pure_ (i := 6) (N := some 10) (v := ?_) (a' := ?_) #[false, false, true, false, false, false, true, false, false, false, false, false, false, false] rfl rfl (by kernel_rfl) (fun _ _ _ h => h) (Or.inl ⟨by rfl, ?_⟩) ?_ ?_
  rotate_left
  · intro w'
    go_simp
    with_reducible rfl
  rotate_left
  · simp only [Act.put, List.setIfInBounds_toArray, List.set_cons_zero, List.set_cons_succ, i64_w, i32_w]
    rfl
  refine pure_ (i := 10) (N := some 14) (v := ?_) (a' := ?_) #[false, false, true, false, false, false, true, false, false, false, true, false, false, false] rfl rfl (by kernel_rfl) (fun _ _ _ h => h) (Or.inl ⟨by rfl, ?_⟩) ?_ ?_
  rotate_left
  · intro w'
    go_simp
    with_reducible rfl
  rotate_left
  · simp only [Act.put, List.setIfInBounds_toArray, List.set_cons_zero, List.set_cons_succ, i64_w, i32_w]
    rfl
  refine take_ (i := 3) (N := some 7) (v := ?_) (a' := ?_) #[false, false, true, true, false, false, true, false, false, false, true, false, false, false] rfl rfl (by kernel_rfl) (fun _ _ _ h => h) (Or.inl ⟨by rfl, ?_⟩) hHeld ?_ ?_
  rotate_left
  · rintro w' ⟨s0, s1, s2⟩
    go_simp
    with_reducible rfl
  rotate_left
  · simp only [Act.put, List.setIfInBounds_toArray, List.set_cons_zero, List.set_cons_succ, i64_w, i32_w]
    rfl
  refine pure_ (i := 4) (N := some 8) (v := ?_) (a' := ?_) #[false, false, true, true, true, false, true, false, false, false, true, false, false, false] rfl rfl (by kernel_rfl) (fun _ _ _ h => h) (Or.inl ⟨by rfl, ?_⟩) ?_ ?_
  rotate_left
  · intro w'
    go_simp
    with_reducible rfl
  rotate_left
  · simp only [Act.put, List.setIfInBounds_toArray, List.set_cons_zero, List.set_cons_succ, i64_w, i32_w]
    rfl
  refine take_ (i := 7) (N := some 11) (v := ?_) (a' := ?_) #[false, false, true, true, true, false, true, true, false, false, true, false, false, false] rfl rfl (by kernel_rfl) (fun _ _ _ h => h) (Or.inl ⟨by rfl, ?_⟩) hHeld ?_ ?_
  rotate_left
  · rintro w' ⟨s0, s1, s2⟩
    go_simp
    with_reducible rfl
  rotate_left
  · simp only [Act.put, List.setIfInBounds_toArray, List.set_cons_zero, List.set_cons_succ, i64_w, i32_w]
    rfl
  refine pure_ (i := 8) (N := some 12) (v := ?_) (a' := ?_) #[false, false, true, true, true, false, true, true, true, false, true, false, false, false] rfl rfl (by kernel_rfl) (fun _ _ _ h => h) (Or.inl ⟨by rfl, ?_⟩) ?_ ?_
  rotate_left
  · intro w'
    go_simp
    with_reducible rfl
  rotate_left
  · simp only [Act.put, List.setIfInBounds_toArray, List.set_cons_zero, List.set_cons_succ, i64_w, i32_w]
    rfl
  refine take_ (i := 11) (N := some 15) (v := ?_) (a' := ?_) #[false, false, true, true, true, false, true, true, true, false, true, true, false, false] rfl rfl (by kernel_rfl) (fun _ _ _ h => h) (Or.inl ⟨by rfl, ?_⟩) hHeld ?_ ?_
  rotate_left
  · rintro w' ⟨s0, s1, s2⟩
    go_simp
    with_reducible rfl
  rotate_left
  · simp only [Act.put, List.setIfInBounds_toArray, List.set_cons_zero, List.set_cons_succ, i64_w, i32_w]
    rfl
  refine one_ (i := 0) (N := some 4) #[true, false, true, true, true, false, true, true, true, false, true, true, false, false] rfl rfl (by kernel_rfl) (by decide) (fun K hK => ?_)
  refine value_ (w1 := ?_) (v := ?_) (by rfl) rfl ?_ ?_
  rotate_left 2
  · go_simp
    constructor
    · rfl
    · rfl
  refine hK.out _ _ ⟨(A1.out.cell 0).trans rfl, (A1.out.cell 1).trans rfl, (A1.out.cell 2).trans rfl⟩ (fun hHeld => ?_)
  clear hK K
  refine norm_ (a' := ?_) ?_ ?_
  rotate_left
  · show Act.put _ (some 4) _ = _
    simp only [Act.put, List.setIfInBounds_toArray, List.set_cons_zero, List.set_cons_succ, i64_w, i32_w]
    rfl
  refine one_ (i := 1) (N := some 5) #[true, true, true, true, true, false, true, true, true, false, true, true, false, false] rfl rfl (by kernel_rfl) (by decide) (fun K hK => ?_)
  refine value_ (w1 := ?_) (v := ?_) (by rfl) rfl ?_ ?_
  rotate_left 2
  · go_simp
    constructor
    · rfl
    · rfl
  refine hK.out _ _ ⟨(A2.out.cell 0).trans rfl, (A2.out.cell 1).trans rfl, (A2.out.cell 2).trans rfl⟩ (fun hHeld => ?_)
  clear hK K
  refine norm_ (a' := ?_) ?_ ?_
  rotate_left
  · show Act.put _ (some 5) _ = _
    simp only [Act.put, List.setIfInBounds_toArray, List.set_cons_zero, List.set_cons_succ, i64_w, i32_w]
    rfl
  refine one_ (i := 5) (N := some 9) #[true, true, true, true, true, true, true, true, true, false, true, true, false, false] rfl rfl (by kernel_rfl) (by decide) (fun K hK => ?_)
  refine goes_ Try.func83 (by kernel_rfl) rfl #[.slice (some ⟨w.heap.size + 1, 0, none⟩) 4 4, .int .u32 x] (by rfl) rfl rfl (by simp only [List.map_toArray, List.map_cons, List.map_nil]; rfl) ?_
  with_reducible refine (rput_ (n := 4) (c := 4) (l := markL) HLC.out HI.out.1 (by decide)).mono ?_
  rintro e w3 ⟨v3, rfl, hS3⟩
  refine ⟨_, rfl, ?_⟩
  obtain ⟨A3, c3, rfl⟩ := hS3.rowN (n := 8) rfl
  have B3 := Aside0.mk (A2.out.lift1 hS3)
  clear hS3
  refine hK.out _ _ ⟨(B3.out.at2.cell 0).trans rfl, (B3.out.at2.cell 1).trans rfl, (B3.out.at2.cell 2).trans rfl⟩ (fun hHeld => ?_)
  clear hK K
  refine norm_ (a' := ?_) ?_ ?_
  rotate_left
  · show Act.put _ (some 9) _ = _
    simp only [Act.put, List.setIfInBounds_toArray, List.set_cons_zero, List.set_cons_succ, i64_w, i32_w]
    rfl
  refine one_ (i := 9) (N := some 13) #[true, true, true, true, true, true, true, true, true, true, true, true, false, false] rfl rfl (by kernel_rfl) (by decide) (fun K hK => ?_)
  refine goes_ Try.func83 (by kernel_rfl) rfl #[.slice A3 8 c3, .int .u32 y] (by rfl) rfl rfl (by simp only [List.map_toArray, List.map_cons, List.map_nil]; rfl) ?_
  with_reducible refine (rput_ B3.out.rowC' HI.out.2.1 (by decide)).mono ?_
  rintro e w4 ⟨v4, rfl, hS4⟩
  refine ⟨_, rfl, ?_⟩
  obtain ⟨A4, c4, rfl⟩ := hS4.rowN (n := 12) rfl
  have B4 := Aside0.mk (B3.out.tail.lift1 hS4)
  clear hS4
  refine hK.out _ _ ⟨(B4.out.at2.cell 0).trans rfl, (B4.out.at2.cell 1).trans rfl, (B4.out.at2.cell 2).trans rfl⟩ (fun hHeld => ?_)
  clear hK K
  refine norm_ (a' := ?_) ?_ ?_
  rotate_left
  · show Act.put _ (some 13) _ = _
    simp only [Act.put, List.setIfInBounds_toArray, List.set_cons_zero, List.set_cons_succ, i64_w, i32_w]
    rfl
  refine last_ (i := 12) (N := some 16) #[true, true, true, true, true, true, true, true, true, true, true, true, true, false] rfl rfl (by kernel_rfl) (by decide) (fun K hK => ?_)
  refine goes_ Try.func83 (by kernel_rfl) rfl #[.slice A4 12 c4, .int .u32 c] (by rfl) rfl rfl (by simp only [List.map_toArray, List.map_cons, List.map_nil]; rfl) ?_
  with_reducible refine (rput_ B4.out.rowC' HI.out.2.2 (by decide)).mono ?_
  rintro e w5 ⟨v5, rfl, hS5⟩
  refine ⟨_, rfl, ?_⟩
  obtain ⟨A5, c5, rfl⟩ := hS5.rowN (n := 16) rfl
  have B5 : Aside0 (Sep w w5 [Row U8 5 (.slice A5 16 c5) (headR x y c)]) := ⟨Sep.weakR (L := [_]) (B4.out.tail.lift1 hS5)⟩
  clear hS5
  refine hK.out _ _ ?_
  clear hK K
  refine norm_ (a' := ?_) ?_ ?_
  rotate_left
  · show Act.put _ (some 16) _ = _
    simp only [Act.put, List.setIfInBounds_toArray, List.set_cons_zero, List.set_cons_succ, i64_w, i32_w]
    rfl
  refine pure_ (i := 13) (N := some 3) (v := ?_) (a' := ?_) #[true, true, true, true, true, true, true, true, true, true, true, true, true, true] rfl rfl (by kernel_rfl) (fun _ _ _ h => h) (Or.inl ⟨by rfl, ?_⟩) ?_ ?_
  rotate_left
  · intro w'
    go_simp
    with_reducible rfl
  rotate_left
  · simp only [Act.put, List.setIfInBounds_toArray, List.set_cons_zero, List.set_cons_succ, i64_w, i32_w]
    rfl
  refine done_ (by kernel_rfl) ?_
  clear kc w1 w2
  go_wp2_with fail
  refine (rsum_ B5.out.rowC').mono ?_
  rintro e w6 ⟨rfl, rfl⟩
  go_wp2_with fail
  refine (rput_ (m := sumF (headR x y c)) B5.out.rowC' (sumF_in _) (by decide)).mono ?_
  rintro e w7 ⟨v7, rfl, hS7⟩
  obtain ⟨A7, c7, rfl⟩ := hS7.rowN (n := 20) rfl
  have B7 := Aside0.mk (B5.out.tail.lift1 hS7)
  clear hS7
  go_wp2_with (first | (refine gate_builtin (b := .append) (xs := #[.tmp 21, .tmp 24]) rfl ?_; go_loud (refine B7.out.zerosRow (0 : Int) rfl (.tmp 21) (.tmp 24) 30 3 1 rfl Try.underlying30 Try.underlying3 infoB rfl (by decide) 44 rfl rfl (by rw [List.length_append, headR_len, put4_length]; decide) ?_; intro v8 w8 hS8; have B8 : Aside0 (Sep w w8 [Row U8 5 v8 (rootF x y c)]) := ⟨hS8⟩; clear hS8)))
  go_ret
  exact ⟨_, by first | rfl | (simp; done), B8.out⟩
end Go.Proofs.Ytjngnigelkgekaa.Root
