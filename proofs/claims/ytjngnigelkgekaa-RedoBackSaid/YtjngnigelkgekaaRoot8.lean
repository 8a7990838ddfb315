/- Chapter 5's laws: roots are the same. -/
import Derived.Test.YtjngnigelkgekaaRoot7
namespace Go.Proofs.Ytjngnigelkgekaa.Root
set_option linter.unusedVariables false
set_option linter.unusedSimpArgs false
open Go.RowKit Go.Proofs.YtjngnigelkgekaaW.PrintWords Go.Proofs.YtjngnigelkgekaaW.PrintLast Go.Proofs.YtjngnigelkgekaaW.PrintMore Go.Proofs.Ytjngnigelkgekaa.Kit Go.Proofs.Ytjngnigelkgekaa.Base Go.Proofs.Ytjngnigelkgekaa.Plain
theorem strV {w0 W : World} {F : List HP} {v : Value} {xs : List Int} (h : Sep w0 W (Row U8 5 v xs :: F)) : (convert 30 9 v).run Try.prog W = .ok (.string (strOfNums xs)) W := by
  obtain ⟨A, c, rfl⟩ := h.rowV
  exact Str.strC (c := c) h.rowC'
set_option maxHeartbeats 1600000 in
set_option maxRecDepth 100000 in
theorem same_ (a b c n page : Int) (hc : 0 ≤ c ∧ c ≤ 4294967295) (w : World) :
    Calls Try.prog 38 #[.agg #[.int .i64 a, .int .i64 b, .int .u32 c], .int .i64 n, .int .i64 page] w fun e w' => e = .returned (.bool true) ∧ Below w.heap.size w w' := by
  have A0 := Aside0.mk ((Sep.start w).newBlk 26 #[.int .i64 a, .int .i64 b, .int .u32 c]).drew
  obtain ⟨rb, hrb⟩ : ∃ rb, rightR a b c n = rb := ⟨_, rfl⟩
  obtain ⟨hm, hhm⟩ : ∃ hm, homeF a b page = hm := ⟨_, rfl⟩
  have HRB := Aside0.mk (And.intro hrb hhm)
  have HC := Aside0.mk hc
  have e1 : (rb != rb) = false := by simp
  have e2 : (hm != hm) = false := by simp
  clear hrb hhm hc
  go_enter Try.func38, Try.ntmps38
  go_wp2_with fail
  refine start_ (n := 16) (S := fun w' => w'.cell? ⟨w.heap.size, 0, none⟩ = some (.int .i64 a) ∧ w'.cell? ⟨w.heap.size, 1, none⟩ = some (.int .i64 b) ∧ w'.cell? ⟨w.heap.size, 2, none⟩ = some (.int .u32 c)) (ds := []) #[false, false, false, false, false, false, false, false, false, false, false, false, false, false, false, false] (by kernel_rfl) rfl rfl ⟨(A0.out.cell 0).trans rfl, (A0.out.cell 1).trans rfl, (A0.out.cell 2).trans rfl⟩ (fun hHeld => ?_)
  refine pure_ (i := 1) (N := some 8) (v := ?_) (a' := ?_) #[false, true, false, false, false, false, false, false, false, false, false, false, false, false, false, false] rfl rfl (by kernel_rfl) (fun _ _ _ h => h) (Or.inl ⟨by rfl, ?_⟩) ?_ ?_
  rotate_left
  · intro w'
    go_simp
    with_reducible rfl
  rotate_left
  · simp only [Act.put, List.setIfInBounds_toArray, List.set_cons_zero, List.set_cons_succ, i64_w, i32_w]
    rfl
  refine pure_ (i := 4) (N := some 11) (v := ?_) (a' := ?_) #[false, true, false, false, true, false, false, false, false, false, false, false, false, false, false, false] rfl rfl (by kernel_rfl) (fun _ _ _ h => h) (Or.inl ⟨by rfl, ?_⟩) ?_ ?_
  rotate_left
  · intro w'
    go_simp
    with_reducible rfl
  rotate_left
  · simp only [Act.put, List.setIfInBounds_toArray, List.set_cons_zero, List.set_cons_succ, i64_w, i32_w]
    rfl
  refine take_ (i := 0) (N := some 7) (v := ?_) (a' := ?_) #[true, true, false, false, true, false, false, false, false, false, false, false, false, false, false, false] rfl rfl (by kernel_rfl) (fun _ _ _ h => h) (Or.inl ⟨by rfl, ?_⟩) hHeld ?_ ?_
  rotate_left
  · rintro w' ⟨s0, s1, s2⟩
    go_simp
    with_reducible rfl
  rotate_left
  · simp only [Act.put, List.setIfInBounds_toArray, List.set_cons_zero, List.set_cons_succ, i64_w, i32_w]
    rfl
  refine take_ (i := 3) (N := some 10) (v := ?_) (a' := ?_) #[true, true, false, true, true, false, false, false, false, false, false, false, false, false, false, false] rfl rfl (by kernel_rfl) (fun _ _ _ h => h) (Or.inl ⟨by rfl, ?_⟩) hHeld ?_ ?_
  rotate_left
  · rintro w' ⟨s0, s1, s2⟩
    go_simp
    with_reducible rfl
  rotate_left
  · simp only [Act.put, List.setIfInBounds_toArray, List.set_cons_zero, List.set_cons_succ, i64_w, i32_w]
    rfl
  refine one_ (i := 2) (N := some 9) #[true, true, true, true, true, false, false, false, false, false, false, false, false, false, false, false] rfl rfl (by kernel_rfl) (by decide) (fun K hK => ?_)
  refine goes_ Try.func68 (by kernel_rfl) rfl #[.agg #[.int .i64 a, .int .i64 b, .int .u32 c], .int .i64 n] (by rfl) rfl rfl (by simp only [List.map_toArray, List.map_cons, List.map_nil]; rfl) ?_
  with_reducible refine (right_ a b c n _).mono ?_
  rintro e w4 ⟨rfl, hb2⟩
  refine ⟨_, rfl, ?_⟩
  rw [HRB.out.1]
  have A2 := Aside0.mk (A0.out.below hb2)
  clear hb2
  refine hK.out _ _ ⟨(A2.out.cell 0).trans rfl, (A2.out.cell 1).trans rfl, (A2.out.cell 2).trans rfl⟩ (fun hHeld => ?_)
  clear hK K
  refine norm_ (a' := ?_) ?_ ?_
  rotate_left
  · show Act.put _ (some 9) _ = _
    simp only [Act.put, List.setIfInBounds_toArray, List.set_cons_zero, List.set_cons_succ, i64_w, i32_w]
    rfl
  refine one_ (i := 5) (N := some 12) #[true, true, true, true, true, true, false, false, false, false, false, false, false, false, false, false] rfl rfl (by kernel_rfl) (by decide) (fun K hK => ?_)
  refine goes_ Try.func81 (by kernel_rfl) rfl #[.agg #[.int .i64 a, .int .i64 b, .int .u32 c], .int .i64 n] (by rfl) rfl rfl (by simp only [List.map_toArray, List.map_cons, List.map_nil]; rfl) ?_
  with_reducible refine (rright_ a b c n _).mono ?_
  rintro e w7 ⟨rfl, hb5⟩
  refine ⟨_, rfl, ?_⟩
  rw [HRB.out.1]
  have A5 := Aside0.mk (A2.out.below hb5)
  clear hb5
  refine hK.out _ _ ⟨(A5.out.cell 0).trans rfl, (A5.out.cell 1).trans rfl, (A5.out.cell 2).trans rfl⟩ (fun hHeld => ?_)
  clear hK K
  refine norm_ (a' := ?_) ?_ ?_
  rotate_left
  · show Act.put _ (some 12) _ = _
    simp only [Act.put, List.setIfInBounds_toArray, List.set_cons_zero, List.set_cons_succ, i64_w, i32_w]
    rfl
  refine pure_ (i := 6) (N := some 13) (v := ?_) (a' := ?_) #[true, true, true, true, true, true, true, false, false, false, false, false, false, false, false, false] rfl rfl (by kernel_rfl) (fun _ _ _ h => h) (Or.inl ⟨by rfl, ?_⟩) ?_ ?_
  rotate_left
  · intro w'
    go_simp
    with_reducible rfl
  rotate_left
  · simp only [Act.put, List.setIfInBounds_toArray, List.set_cons_zero, List.set_cons_succ, i64_w, i32_w]
    rfl
  refine pure_ (i := 7) (N := some 14) (v := ?_) (a' := ?_) #[true, true, true, true, true, true, true, true, false, false, false, false, false, false, false, false] rfl rfl (by kernel_rfl) (fun _ _ _ h => h) (Or.inl ⟨by rfl, ?_⟩) ?_ ?_
  rotate_left
  · intro w'
    go_simp
    with_reducible rfl
  rotate_left
  · simp only [Act.put, List.setIfInBounds_toArray, List.set_cons_zero, List.set_cons_succ, i64_w, i32_w]
    rfl
  refine pure_ (i := 9) (N := some 16) (v := ?_) (a' := ?_) #[true, true, true, true, true, true, true, true, false, true, false, false, false, false, false, false] rfl rfl (by kernel_rfl) (fun _ _ _ h => h) (Or.inl ⟨by rfl, ?_⟩) ?_ ?_
  rotate_left
  · intro w'
    go_simp
    with_reducible rfl
  rotate_left
  · simp only [Act.put, List.setIfInBounds_toArray, List.set_cons_zero, List.set_cons_succ, i64_w, i32_w]
    rfl
  refine pure_ (i := 12) (N := some 19) (v := ?_) (a' := ?_) #[true, true, true, true, true, true, true, true, false, true, false, false, true, false, false, false] rfl rfl (by kernel_rfl) (fun _ _ _ h => h) (Or.inl ⟨by rfl, ?_⟩) ?_ ?_
  rotate_left
  · intro w'
    go_simp
    with_reducible rfl
  rotate_left
  · simp only [Act.put, List.setIfInBounds_toArray, List.set_cons_zero, List.set_cons_succ, i64_w, i32_w]
    rfl
  refine take_ (i := 8) (N := some 15) (v := ?_) (a' := ?_) #[true, true, true, true, true, true, true, true, true, true, false, false, true, false, false, false] rfl rfl (by kernel_rfl) (fun _ _ _ h => h) (Or.inl ⟨by rfl, ?_⟩) hHeld ?_ ?_
  rotate_left
  · rintro w' ⟨s0, s1, s2⟩
    go_simp
    with_reducible rfl
  rotate_left
  · simp only [Act.put, List.setIfInBounds_toArray, List.set_cons_zero, List.set_cons_succ, i64_w, i32_w]
    rfl
  refine take_ (i := 11) (N := some 18) (v := ?_) (a' := ?_) #[true, true, true, true, true, true, true, true, true, true, false, true, true, false, false, false] rfl rfl (by kernel_rfl) (fun _ _ _ h => h) (Or.inl ⟨by rfl, ?_⟩) hHeld ?_ ?_
  rotate_left
  · rintro w' ⟨s0, s1, s2⟩
    go_simp
    with_reducible rfl
  rotate_left
  · simp only [Act.put, List.setIfInBounds_toArray, List.set_cons_zero, List.set_cons_succ, i64_w, i32_w]
    rfl
  refine one_ (i := 10) (N := some 17) #[true, true, true, true, true, true, true, true, true, true, true, true, true, false, false, false] rfl rfl (by kernel_rfl) (by decide) (fun K hK => ?_)
  refine goes_ Try.func67 (by kernel_rfl) rfl #[.agg #[.int .i64 a, .int .i64 b, .int .u32 c], .int .i64 page] (by rfl) rfl rfl (by simp only [List.map_toArray, List.map_cons, List.map_nil]; rfl) ?_
  with_reducible refine (home_ a b c page _).mono ?_
  rintro e w12 ⟨rfl, hb10⟩
  refine ⟨_, rfl, ?_⟩
  rw [HRB.out.2]
  have A10 := Aside0.mk (A5.out.below hb10)
  clear hb10
  refine hK.out _ _ ⟨(A10.out.cell 0).trans rfl, (A10.out.cell 1).trans rfl, (A10.out.cell 2).trans rfl⟩ (fun hHeld => ?_)
  clear hK K
  refine norm_ (a' := ?_) ?_ ?_
  rotate_left
  · show Act.put _ (some 17) _ = _
    simp only [Act.put, List.setIfInBounds_toArray, List.set_cons_zero, List.set_cons_succ, i64_w, i32_w]
    rfl
  refine one_ (i := 13) (N := some 20) #[true, true, true, true, true, true, true, true, true, true, true, true, true, true, false, false] rfl rfl (by kernel_rfl) (by decide) (fun K hK => ?_)
  refine goes_ Try.func82 (by kernel_rfl) rfl #[.agg #[.int .i64 a, .int .i64 b, .int .u32 c], .int .i64 page] (by rfl) rfl rfl (by simp only [List.map_toArray, List.map_cons, List.map_nil]; rfl) ?_
  with_reducible refine (rhome_ a b c page _).mono ?_
  rintro e w15 ⟨rfl, hb13⟩
  refine ⟨_, rfl, ?_⟩
  rw [HRB.out.2]
  have A13 := Aside0.mk (A10.out.below hb13)
  clear hb13
  refine hK.out _ _ ⟨(A13.out.cell 0).trans rfl, (A13.out.cell 1).trans rfl, (A13.out.cell 2).trans rfl⟩ (fun hHeld => ?_)
  clear hK K
  refine norm_ (a' := ?_) ?_ ?_
  rotate_left
  · show Act.put _ (some 20) _ = _
    simp only [Act.put, List.setIfInBounds_toArray, List.set_cons_zero, List.set_cons_succ, i64_w, i32_w]
    rfl
  refine pure_ (i := 14) (N := some 21) (v := ?_) (a' := ?_) #[true, true, true, true, true, true, true, true, true, true, true, true, true, true, true, false] rfl rfl (by kernel_rfl) (fun _ _ _ h => h) (Or.inl ⟨by rfl, ?_⟩) ?_ ?_
  rotate_left
  · intro w'
    go_simp
    with_reducible rfl
  rotate_left
  · simp only [Act.put, List.setIfInBounds_toArray, List.set_cons_zero, List.set_cons_succ, i64_w, i32_w]
    rfl
  refine pure_ (i := 15) (N := some 22) (v := ?_) (a' := ?_) #[true, true, true, true, true, true, true, true, true, true, true, true, true, true, true, true] rfl rfl (by kernel_rfl) (fun _ _ _ h => h) (Or.inl ⟨by rfl, ?_⟩) ?_ ?_
  rotate_left
  · intro w'
    go_simp
    with_reducible rfl
  rotate_left
  · simp only [Act.put, List.setIfInBounds_toArray, List.set_cons_zero, List.set_cons_succ, i64_w, i32_w]
    rfl
  refine done_ (by kernel_rfl) ?_
  have l0 : w15.cell? ⟨w.heap.size, 0, none⟩ = some (.int .i64 a) := (A13.out.cell 0).trans rfl
  have l1 : w15.cell? ⟨w.heap.size, 1, none⟩ = some (.int .i64 b) := (A13.out.cell 1).trans rfl
  have l2 : w15.cell? ⟨w.heap.size, 2, none⟩ = some (.int .u32 c) := (A13.out.cell 2).trans rfl

  clear e1 e2
  by_cases q0 : a < 0
  case pos =>
    go_wp2_with fail
    go_ret
    exact ⟨by first | rfl | (simp; done), A13.out.toBelow⟩
  case neg =>
  by_cases q1 : b < 0
  case pos =>
    go_wp2_with fail
    go_ret
    exact ⟨by first | rfl | (simp; done), A13.out.toBelow⟩
  case neg =>
  by_cases q2 : 2147483647 < a
  case pos =>
    go_wp2_with fail
    go_ret
    exact ⟨by first | rfl | (simp; done), A13.out.toBelow⟩
  case neg =>
  by_cases q3 : 2147483647 < b
  case pos =>
    go_wp2_with fail
    go_ret
    exact ⟨by first | rfl | (simp; done), A13.out.toBelow⟩
  case neg =>
  have A14 := Aside0.mk A13.out.drew
  go_wp2_with fail
  refine start_ (n := 8) (S := fun w' => w'.cell? ⟨w.heap.size, 0, none⟩ = some (.int .i64 a) ∧ w'.cell? ⟨w.heap.size, 1, none⟩ = some (.int .i64 b) ∧ w'.cell? ⟨w.heap.size, 2, none⟩ = some (.int .u32 c)) (ds := []) #[false, false, false, false, false, false, false, false] (by kernel_rfl) rfl rfl ⟨(A14.out.cell 0).trans rfl, (A14.out.cell 1).trans rfl, (A14.out.cell 2).trans rfl⟩ (fun hHeld => ?_)
  refine take_ (i := 0) (N := some 41) (v := ?_) (a' := ?_) #[true, false, false, false, false, false, false, false] rfl rfl (by kernel_rfl) (fun _ _ _ h => h) (Or.inl ⟨by rfl, ?_⟩) hHeld ?_ ?_
  rotate_left
  · rintro w' ⟨s0, s1, s2⟩
    go_simp
    with_reducible rfl
  rotate_left
  · simp only [Act.put, List.setIfInBounds_toArray, List.set_cons_zero, List.set_cons_succ, i64_w, i32_w]
    rfl
  refine take_ (i := 3) (N := some 44) (v := ?_) (a' := ?_) #[true, false, false, true, false, false, false, false] rfl rfl (by kernel_rfl) (fun _ _ _ h => h) (Or.inl ⟨by rfl, ?_⟩) hHeld ?_ ?_
  rotate_left
  · rintro w' ⟨s0, s1, s2⟩
    go_simp
    with_reducible rfl
  rotate_left
  · simp only [Act.put, List.setIfInBounds_toArray, List.set_cons_zero, List.set_cons_succ, i64_w, i32_w]
    rfl
  refine one_ (i := 1) (N := some 42) #[true, true, false, true, false, false, false, false] rfl rfl (by kernel_rfl) (by decide) (fun K hK => ?_)
  refine goes_ Try.func43 (by kernel_rfl) rfl #[.agg #[.int .i64 a, .int .i64 b, .int .u32 c]] (by rfl) rfl rfl (by simp only [List.map_toArray, List.map_cons, List.map_nil]; rfl) ?_
  with_reducible refine (bytes_ a b c HC.out _).mono ?_
  rintro e w4 ⟨v4, rfl, hS4⟩
  refine ⟨_, rfl, ?_⟩
  have B4 := Aside0.mk (A14.out.lift1 hS4)
  clear hS4
  refine hK.out _ _ ⟨(B4.out.at2.cell 0).trans rfl, (B4.out.at2.cell 1).trans rfl, (B4.out.at2.cell 2).trans rfl⟩ (fun hHeld => ?_)
  clear hK K
  refine norm_ (a' := ?_) ?_ ?_
  rotate_left
  · show Act.put _ (some 42) _ = _
    simp only [Act.put, List.setIfInBounds_toArray, List.set_cons_zero, List.set_cons_succ, i64_w, i32_w]
    rfl
  refine join_ (σ := Value × Value × Value) 2 #[true, true, true, true, true, true, false, false] (fun s_ => [(43, s_.1), (45, s_.2.1), (46, s_.2.2)]) (fun s_ w' => (w'.cell? ⟨w.heap.size, 0, none⟩ = some (.int .i64 a) ∧ w'.cell? ⟨w.heap.size, 1, none⟩ = some (.int .i64 b) ∧ w'.cell? ⟨w.heap.size, 2, none⟩ = some (.int .u32 c)) ∧ Sep w w' ((Pu ((s_.1) = .string (strOfNums (rootF (m32 a) (m32 b) c)))) :: (Pu ((s_.2.2) = .string (strOfNums (rootF (m32 a) (m32 b) c)))) :: [Row U8 5 v4 (rootF (m32 a) (m32 b) c), Blk w.heap.size 26 #[.int .i64 a, .int .i64 b, .int .u32 c]])) ?_ ?_
  rotate_left
  · intro hJ2_4_5
    refine join_ (σ := Value × Value) 3 #[true, true, true, true, true, false, false, false] (fun s_ => [(43, s_.1), (45, s_.2)]) (fun s_ w' => (w'.cell? ⟨w.heap.size, 0, none⟩ = some (.int .i64 a) ∧ w'.cell? ⟨w.heap.size, 1, none⟩ = some (.int .i64 b) ∧ w'.cell? ⟨w.heap.size, 2, none⟩ = some (.int .u32 c)) ∧ Sep w w' ((Pu ((s_.1) = .string (strOfNums (rootF (m32 a) (m32 b) c)))) :: (Row U8 5 (s_.2) (rootF (m32 a) (m32 b) c)) :: [Row U8 5 v4 (rootF (m32 a) (m32 b) c), Blk w.heap.size 26 #[.int .i64 a, .int .i64 b, .int .u32 c]])) ?_ ?_
    rotate_left
    · intro hJ2_4
      refine join_ (σ := Value × Value) 3 #[true, true, false, true, true, true, false, false] (fun s_ => [(45, s_.1), (46, s_.2)]) (fun s_ w' => (w'.cell? ⟨w.heap.size, 0, none⟩ = some (.int .i64 a) ∧ w'.cell? ⟨w.heap.size, 1, none⟩ = some (.int .i64 b) ∧ w'.cell? ⟨w.heap.size, 2, none⟩ = some (.int .u32 c)) ∧ Sep w w' ((Pu ((s_.2) = .string (strOfNums (rootF (m32 a) (m32 b) c)))) :: [Row U8 5 v4 (rootF (m32 a) (m32 b) c), Blk w.heap.size 26 #[.int .i64 a, .int .i64 b, .int .u32 c]])) ?_ ?_
      rotate_left
      · intro hJ4_5
        refine join_ (σ := Value) 4 #[true, true, true, true, false, false, false, false] (fun s_ => [(43, s_)]) (fun s_ w' => (w'.cell? ⟨w.heap.size, 0, none⟩ = some (.int .i64 a) ∧ w'.cell? ⟨w.heap.size, 1, none⟩ = some (.int .i64 b) ∧ w'.cell? ⟨w.heap.size, 2, none⟩ = some (.int .u32 c)) ∧ Sep w w' ((Pu ((s_) = .string (strOfNums (rootF (m32 a) (m32 b) c)))) :: [Row U8 5 v4 (rootF (m32 a) (m32 b) c), Blk w.heap.size 26 #[.int .i64 a, .int .i64 b, .int .u32 c]])) ?_ ?_
        rotate_left
        · intro hJ2
          refine join_ (σ := Value) 4 #[true, true, false, true, true, false, false, false] (fun s_ => [(45, s_)]) (fun s_ w' => (w'.cell? ⟨w.heap.size, 0, none⟩ = some (.int .i64 a) ∧ w'.cell? ⟨w.heap.size, 1, none⟩ = some (.int .i64 b) ∧ w'.cell? ⟨w.heap.size, 2, none⟩ = some (.int .u32 c)) ∧ Sep w w' ((Row U8 5 (s_) (rootF (m32 a) (m32 b) c)) :: [Row U8 5 v4 (rootF (m32 a) (m32 b) c), Blk w.heap.size 26 #[.int .i64 a, .int .i64 b, .int .u32 c]])) ?_ ?_
          rotate_left
          · intro hJ4
            refine two_ (i := 2) (j := 4) (Ni := some 43) (Nj := some 45) #[true, true, true, true, false, false, false, false] #[true, true, false, true, true, false, false, false] rfl rfl rfl rfl (by kernel_rfl) (by decide) (by decide) (fun K hK => ?_) (fun K hK => ?_)
            · skip
              have hs_ : (convert 30 9 v4).run Try.prog w4 = .ok (.string (strOfNums (rootF (m32 a) (m32 b) c))) w4 := by first | exact strV (B4.out) | exact strV (B4.out).at2
              refine value_ (w1 := ?_) (v := ?_) (by rfl) rfl ?_ ?_
              rotate_left 2
              · go_simp
                constructor
                · rfl
                · rfl
              have hN := (B4.out).unpu (rfl : (Value.string (strOfNums (rootF (m32 a) (m32 b) c)) = .string (strOfNums (rootF (m32 a) (m32 b) c))))
              refine hK.out _ _ ⟨(hN.tail.at2.cell 0).trans rfl, (hN.tail.at2.cell 1).trans rfl, (hN.tail.at2.cell 2).trans rfl⟩ (fun hHeld => ?_)
              clear hK K
              refine norm_ (a' := ?_) ?_ ?_
              rotate_left
              · show Act.put _ (some 43) _ = _
                simp only [Act.put, List.setIfInBounds_toArray, List.set_cons_zero, List.set_cons_succ, i64_w, i32_w]
                rfl
              exact norm_ (by first | (simp only [putAll, Act.put, List.setIfInBounds_toArray, List.set_cons_zero, List.set_cons_succ]; done) | (simp only [putAll, Act.put, List.setIfInBounds_toArray, List.set_cons_zero, List.set_cons_succ]; rfl)) (hJ2 (.string (strOfNums (rootF (m32 a) (m32 b) c))) _ ⟨hHeld, hN⟩)
            · skip
              refine goes_ Try.func39 (by kernel_rfl) rfl #[.agg #[.int .i64 a, .int .i64 b, .int .u32 c]] (by rfl) rfl rfl (by simp only [List.map_toArray, List.map_cons, List.map_nil]; rfl) ?_
              with_reducible refine (rroot_ a b c HC.out _).mono ?_
              rintro e wn_ ⟨vn_, rfl, hS_⟩
              refine ⟨_, rfl, ?_⟩
              have hN := (B4.out).lift1 hS_
              clear hS_
              refine hK.out _ _ ⟨(hN.tail.at2.cell 0).trans rfl, (hN.tail.at2.cell 1).trans rfl, (hN.tail.at2.cell 2).trans rfl⟩ (fun hHeld => ?_)
              clear hK K
              refine norm_ (a' := ?_) ?_ ?_
              rotate_left
              · show Act.put _ (some 45) _ = _
                simp only [Act.put, List.setIfInBounds_toArray, List.set_cons_zero, List.set_cons_succ, i64_w, i32_w]
                rfl
              exact norm_ (by first | (simp only [putAll, Act.put, List.setIfInBounds_toArray, List.set_cons_zero, List.set_cons_succ]; done) | (simp only [putAll, Act.put, List.setIfInBounds_toArray, List.set_cons_zero, List.set_cons_succ]; rfl)) (hJ4 vn_ _ ⟨hHeld, hN⟩)
          · skip
            rintro v4_ W_ ⟨hS_, hQ_⟩
            have hSep : Aside0 (Sep w W_ ((Row U8 5 (v4_) (rootF (m32 a) (m32 b) c)) :: [Row U8 5 v4 (rootF (m32 a) (m32 b) c), Blk w.heap.size 26 #[.int .i64 a, .int .i64 b, .int .u32 c]])) := ⟨hQ_⟩
            clear hQ_
            have hHeld : W_.cell? ⟨w.heap.size, 0, none⟩ = some (.int .i64 a) ∧ W_.cell? ⟨w.heap.size, 1, none⟩ = some (.int .i64 b) ∧ W_.cell? ⟨w.heap.size, 2, none⟩ = some (.int .u32 c) := hS_
            refine norm_ (a' := ?_) ?_ ?_
            rotate_left
            · simp only [putAll, Act.put, List.setIfInBounds_toArray, List.set_cons_zero, List.set_cons_succ]
              rfl
            refine two_ (i := 2) (j := 5) (Ni := some 43) (Nj := some 46) #[true, true, true, true, true, false, false, false] #[true, true, false, true, true, true, false, false] rfl rfl rfl rfl (by kernel_rfl) (by decide) (by decide) (fun K hK => ?_) (fun K hK => ?_)
            · skip
              have hs_ : (convert 30 9 v4).run Try.prog W_ = .ok (.string (strOfNums (rootF (m32 a) (m32 b) c))) W_ := by first | exact strV (hSep.out) | exact strV (hSep.out).at2
              refine value_ (w1 := ?_) (v := ?_) (by rfl) rfl ?_ ?_
              rotate_left 2
              · go_simp
                constructor
                · rfl
                · rfl
              have hN := (hSep.out).unpu (rfl : (Value.string (strOfNums (rootF (m32 a) (m32 b) c)) = .string (strOfNums (rootF (m32 a) (m32 b) c))))
              refine hK.out _ _ ⟨(hN.tail.tail.at2.cell 0).trans rfl, (hN.tail.tail.at2.cell 1).trans rfl, (hN.tail.tail.at2.cell 2).trans rfl⟩ (fun hHeld => ?_)
              clear hK K
              refine norm_ (a' := ?_) ?_ ?_
              rotate_left
              · show Act.put _ (some 43) _ = _
                simp only [Act.put, List.setIfInBounds_toArray, List.set_cons_zero, List.set_cons_succ, i64_w, i32_w]
                rfl
              exact norm_ (by first | (simp only [putAll, Act.put, List.setIfInBounds_toArray, List.set_cons_zero, List.set_cons_succ]; done) | (simp only [putAll, Act.put, List.setIfInBounds_toArray, List.set_cons_zero, List.set_cons_succ]; rfl)) (hJ2_4 (.string (strOfNums (rootF (m32 a) (m32 b) c)), v4_) _ ⟨hHeld, hN⟩)
            · skip
              have hs_ := strV ((hSep.out))
              refine value_ (w1 := ?_) (v := ?_) (by rfl) rfl ?_ ?_
              rotate_left 2
              · go_simp
                constructor
                · rfl
                · rfl
              have hN := ((hSep.out)).tail.unpu (rfl : (Value.string (strOfNums (rootF (m32 a) (m32 b) c)) = .string (strOfNums (rootF (m32 a) (m32 b) c))))
              refine hK.out _ _ ⟨(hN.tail.at2.cell 0).trans rfl, (hN.tail.at2.cell 1).trans rfl, (hN.tail.at2.cell 2).trans rfl⟩ (fun hHeld => ?_)
              clear hK K
              refine norm_ (a' := ?_) ?_ ?_
              rotate_left
              · show Act.put _ (some 46) _ = _
                simp only [Act.put, List.setIfInBounds_toArray, List.set_cons_zero, List.set_cons_succ, i64_w, i32_w]
                rfl
              exact norm_ (by first | (simp only [putAll, Act.put, List.setIfInBounds_toArray, List.set_cons_zero, List.set_cons_succ]; done) | (simp only [putAll, Act.put, List.setIfInBounds_toArray, List.set_cons_zero, List.set_cons_succ]; rfl)) (hJ4_5 (v4_, .string (strOfNums (rootF (m32 a) (m32 b) c))) _ ⟨hHeld, hN⟩)
        · skip
          rintro v2_ W_ ⟨hS_, hQ_⟩
          have hSep : Aside0 (Sep w W_ ((Pu ((v2_) = .string (strOfNums (rootF (m32 a) (m32 b) c)))) :: [Row U8 5 v4 (rootF (m32 a) (m32 b) c), Blk w.heap.size 26 #[.int .i64 a, .int .i64 b, .int .u32 c]])) := ⟨hQ_⟩
          clear hQ_
          have hHeld : W_.cell? ⟨w.heap.size, 0, none⟩ = some (.int .i64 a) ∧ W_.cell? ⟨w.heap.size, 1, none⟩ = some (.int .i64 b) ∧ W_.cell? ⟨w.heap.size, 2, none⟩ = some (.int .u32 c) := hS_
          refine norm_ (a' := ?_) ?_ ?_
          rotate_left
          · simp only [putAll, Act.put, List.setIfInBounds_toArray, List.set_cons_zero, List.set_cons_succ]
            rfl
          refine one_ (i := 4) (N := some 45) #[true, true, true, true, true, false, false, false] rfl rfl (by kernel_rfl) (by decide) (fun K hK => ?_)
          refine goes_ Try.func39 (by kernel_rfl) rfl #[.agg #[.int .i64 a, .int .i64 b, .int .u32 c]] (by rfl) rfl rfl (by simp only [List.map_toArray, List.map_cons, List.map_nil]; rfl) ?_
          with_reducible refine (rroot_ a b c HC.out _).mono ?_
          rintro e wn_ ⟨vn_, rfl, hS_⟩
          refine ⟨_, rfl, ?_⟩
          have hN := (hSep.out).lift1 hS_
          clear hS_
          refine hK.out _ _ ⟨(hN.tail.tail.at2.cell 0).trans rfl, (hN.tail.tail.at2.cell 1).trans rfl, (hN.tail.tail.at2.cell 2).trans rfl⟩ (fun hHeld => ?_)
          clear hK K
          refine norm_ (a' := ?_) ?_ ?_
          rotate_left
          · show Act.put _ (some 45) _ = _
            simp only [Act.put, List.setIfInBounds_toArray, List.set_cons_zero, List.set_cons_succ, i64_w, i32_w]
            rfl
          exact norm_ (by first | (simp only [putAll, Act.put, List.setIfInBounds_toArray, List.set_cons_zero, List.set_cons_succ]; done) | (simp only [putAll, Act.put, List.setIfInBounds_toArray, List.set_cons_zero, List.set_cons_succ]; rfl)) (hJ2_4 (v2_, vn_) _ ⟨hHeld, hN.at2⟩)
      · skip
        rintro ⟨v4_, v5_⟩ W_ ⟨hS_, hQ_⟩
        have hSep : Aside0 (Sep w W_ ((Pu ((v5_) = .string (strOfNums (rootF (m32 a) (m32 b) c)))) :: [Row U8 5 v4 (rootF (m32 a) (m32 b) c), Blk w.heap.size 26 #[.int .i64 a, .int .i64 b, .int .u32 c]])) := ⟨hQ_⟩
        clear hQ_
        have hHeld : W_.cell? ⟨w.heap.size, 0, none⟩ = some (.int .i64 a) ∧ W_.cell? ⟨w.heap.size, 1, none⟩ = some (.int .i64 b) ∧ W_.cell? ⟨w.heap.size, 2, none⟩ = some (.int .u32 c) := hS_
        refine norm_ (a' := ?_) ?_ ?_
        rotate_left
        · simp only [putAll, Act.put, List.setIfInBounds_toArray, List.set_cons_zero, List.set_cons_succ]
          rfl
        refine one_ (i := 2) (N := some 43) #[true, true, true, true, true, true, false, false] rfl rfl (by kernel_rfl) (by decide) (fun K hK => ?_)
        have hs_ : (convert 30 9 v4).run Try.prog W_ = .ok (.string (strOfNums (rootF (m32 a) (m32 b) c))) W_ := by first | exact strV (hSep.out) | exact strV (hSep.out).at2
        refine value_ (w1 := ?_) (v := ?_) (by rfl) rfl ?_ ?_
        rotate_left 2
        · go_simp
          constructor
          · rfl
          · rfl
        have hN := (hSep.out).unpu (rfl : (Value.string (strOfNums (rootF (m32 a) (m32 b) c)) = .string (strOfNums (rootF (m32 a) (m32 b) c))))
        refine hK.out _ _ ⟨(hN.tail.tail.at2.cell 0).trans rfl, (hN.tail.tail.at2.cell 1).trans rfl, (hN.tail.tail.at2.cell 2).trans rfl⟩ (fun hHeld => ?_)
        clear hK K
        refine norm_ (a' := ?_) ?_ ?_
        rotate_left
        · show Act.put _ (some 43) _ = _
          simp only [Act.put, List.setIfInBounds_toArray, List.set_cons_zero, List.set_cons_succ, i64_w, i32_w]
          rfl
        exact norm_ (by first | (simp only [putAll, Act.put, List.setIfInBounds_toArray, List.set_cons_zero, List.set_cons_succ]; done) | (simp only [putAll, Act.put, List.setIfInBounds_toArray, List.set_cons_zero, List.set_cons_succ]; rfl)) (hJ2_4_5 (.string (strOfNums (rootF (m32 a) (m32 b) c)), v4_, v5_) _ ⟨hHeld, hN⟩)
    · skip
      rintro ⟨v2_, v4_⟩ W_ ⟨hS_, hQ_⟩
      have hSep : Aside0 (Sep w W_ ((Pu ((v2_) = .string (strOfNums (rootF (m32 a) (m32 b) c)))) :: (Row U8 5 (v4_) (rootF (m32 a) (m32 b) c)) :: [Row U8 5 v4 (rootF (m32 a) (m32 b) c), Blk w.heap.size 26 #[.int .i64 a, .int .i64 b, .int .u32 c]])) := ⟨hQ_⟩
      clear hQ_
      have hHeld : W_.cell? ⟨w.heap.size, 0, none⟩ = some (.int .i64 a) ∧ W_.cell? ⟨w.heap.size, 1, none⟩ = some (.int .i64 b) ∧ W_.cell? ⟨w.heap.size, 2, none⟩ = some (.int .u32 c) := hS_
      refine norm_ (a' := ?_) ?_ ?_
      rotate_left
      · simp only [putAll, Act.put, List.setIfInBounds_toArray, List.set_cons_zero, List.set_cons_succ]
        rfl
      refine one_ (i := 5) (N := some 46) #[true, true, true, true, true, true, false, false] rfl rfl (by kernel_rfl) (by decide) (fun K hK => ?_)
      have hs_ := strV ((hSep.out).at2)
      refine value_ (w1 := ?_) (v := ?_) (by rfl) rfl ?_ ?_
      rotate_left 2
      · go_simp
        constructor
        · rfl
        · rfl
      have hN := ((hSep.out).at2).tail.unpu (rfl : (Value.string (strOfNums (rootF (m32 a) (m32 b) c)) = .string (strOfNums (rootF (m32 a) (m32 b) c))))
      refine hK.out _ _ ⟨(hN.tail.tail.at2.cell 0).trans rfl, (hN.tail.tail.at2.cell 1).trans rfl, (hN.tail.tail.at2.cell 2).trans rfl⟩ (fun hHeld => ?_)
      clear hK K
      refine norm_ (a' := ?_) ?_ ?_
      rotate_left
      · show Act.put _ (some 46) _ = _
        simp only [Act.put, List.setIfInBounds_toArray, List.set_cons_zero, List.set_cons_succ, i64_w, i32_w]
        rfl
      exact norm_ (by first | (simp only [putAll, Act.put, List.setIfInBounds_toArray, List.set_cons_zero, List.set_cons_succ]; done) | (simp only [putAll, Act.put, List.setIfInBounds_toArray, List.set_cons_zero, List.set_cons_succ]; rfl)) (hJ2_4_5 (v2_, v4_, .string (strOfNums (rootF (m32 a) (m32 b) c))) _ ⟨hHeld, hN.at2⟩)
  rintro ⟨v2_, v4_, v5_⟩ W_ ⟨hS_, hQ_⟩
  have hSep : Aside0 (Sep w W_ ((Pu ((v2_) = .string (strOfNums (rootF (m32 a) (m32 b) c)))) :: (Pu ((v5_) = .string (strOfNums (rootF (m32 a) (m32 b) c)))) :: [Row U8 5 v4 (rootF (m32 a) (m32 b) c), Blk w.heap.size 26 #[.int .i64 a, .int .i64 b, .int .u32 c]])) := ⟨hQ_⟩
  clear hQ_
  have hHeld : W_.cell? ⟨w.heap.size, 0, none⟩ = some (.int .i64 a) ∧ W_.cell? ⟨w.heap.size, 1, none⟩ = some (.int .i64 b) ∧ W_.cell? ⟨w.heap.size, 2, none⟩ = some (.int .u32 c) := hS_
  obtain ⟨h2_, hT_⟩ := hSep.out.pu
  obtain ⟨h5_, hT2_⟩ := hT_.pu
  have B5 := Aside0.mk hT2_
  subst h2_ h5_
  refine norm_ (a' := ?_) ?_ ?_
  rotate_left
  · simp only [putAll, Act.put, List.setIfInBounds_toArray, List.set_cons_zero, List.set_cons_succ]
    rfl
  refine pure_ (i := 6) (N := some 47) (v := ?_) (a' := ?_) #[true, true, true, true, true, true, true, false] rfl rfl (by kernel_rfl) (fun _ _ _ h => h) (Or.inl ⟨by rfl, ?_⟩) ?_ ?_
  rotate_left
  · intro w'
    go_simp
    with_reducible rfl
  rotate_left
  · simp only [Act.put, List.setIfInBounds_toArray, List.set_cons_zero, List.set_cons_succ, i64_w, i32_w]
    rfl
  refine pure_ (i := 7) (N := some 6) (v := ?_) (a' := ?_) #[true, true, true, true, true, true, true, true] rfl rfl (by kernel_rfl) (fun _ _ _ h => h) (Or.inl ⟨by rfl, ?_⟩) ?_ ?_
  rotate_left
  · intro w'
    go_simp
    with_reducible rfl
  rotate_left
  · simp only [Act.put, List.setIfInBounds_toArray, List.set_cons_zero, List.set_cons_succ, i64_w, i32_w]
    rfl
  refine done_ (by kernel_rfl) ?_
  go_wp2_with fail
  go_ret
  exact ⟨by first | rfl | (simp; done), B5.out.toBelow⟩
set_option maxHeartbeats 1600000 in
set_option maxRecDepth 100000 in
theorem reads_ {A : Option Addr} {n c : Nat} {l : List Int} {w : World} (hr : U8.C w A n l) (hc : n ≤ c) (hb : Bytes l) :
    Calls Try.prog 40 #[.slice A n c] w fun e w' => e = .returned (.bool true) ∧ Below w.heap.size w w' := by
  have HR := Aside0.mk hr
  have HC := Aside0.mk hc
  have HB := Aside0.mk hb
  clear hr hc hb
  go_enter Try.func40, Try.ntmps40
  go_wp2_with fail
  refine (read_ HR.out HC.out HB.out).mono ?_
  rintro e w1 ⟨rfl, hb1⟩
  have A1 := Aside0.mk ((Sep.start w).below hb1)
  clear hb1
  obtain ⟨x, y, z, ok, hv⟩ : ∃ x y z ok, readV l = .tuple #[.agg #[.int .i64 x, .int .i64 y, .int .u32 z], .bool ok] := ⟨_, _, _, _, rfl⟩
  have HV := Aside0.mk hv
  rw [hv]
  clear hv
  have A2 := Aside0.mk (A1.out.newBlk 26 #[.int .i64 x, .int .i64 y, .int .u32 z])
  go_wp2_with fail
  refine (unroot_ (Kd.C_below HR.out A2.out.toBelow) HC.out HB.out).mono ?_
  rintro e w3 ⟨rfl, hb3⟩
  rw [HV.out]
  have A3 := Aside0.mk (A2.out.below hb3)
  clear hb3
  have A4 := Aside0.mk (A3.out.newBlk 26 #[.int .i64 x, .int .i64 y, .int .u32 z])
  have l0 := (A4.out.at2.cell 0).trans rfl
  have l1 := (A4.out.at2.cell 1).trans rfl
  have l2 := (A4.out.at2.cell 2).trans rfl
  go_wp2_with fail
  go_ret
  exact ⟨by first | rfl | (simp; done), A4.out.toBelow⟩
end Go.Proofs.Ytjngnigelkgekaa.Root
