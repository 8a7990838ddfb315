/- Package nest: the end of a loop. -/
import Derived.Test.YtkkgfpdjlohojaaNest4
import Derived.Deep.LoopGhost
namespace Go.Proofs.Ytkkgfpdjlohojaa.Nest
set_option linter.unusedVariables false
set_option linter.unusedSimpArgs false
open Go.RowKit Go.Proofs.YtkkgfpdjlohojaaW.PrintWords Go.Proofs.YtkkgfpdjlohojaaW.PrintLast Go.Proofs.YtkkgfpdjlohojaaW.PrintMore Go.Proofs.Ytkkgfpdjlohojaa.Kit
open Go.Proofs.Ytkkgfpdjlohojaa.NestP
theorem setAll_take (t : List Int) (v : Int) (l : List Nat) (j : Nat) (h : j < l.length) : setAll t v (l.take (j + 1)) = (setAll t v (l.take j)).set (l.getD j 0) v := by
  rw [List.take_add_one, List.getElem?_eq_getElem h]
  unfold setAll
  rw [List.foldl_append, List.getD_eq_getElem?_getD, List.getElem?_eq_getElem h]
  rfl
section
variable {w0 W : World} {F : List HP} {gm : Nat} {vt vo v : Value} {tt : List Int} {ps : List Pt} {p : Pt} {deep : Nat} {vs : List Value}
set_option maxHeartbeats 1600000 in
theorem endLoop_nil (h : Sep w0 W (MtL gm vt vo tt [] deep [] ++ F)) (i : Nat) : Calls Try.prog 43 #[.pointer (some ⟨gm, 0, none⟩), .int .i64 (i : Int)] W fun e w' => e = .returned (.bool false) ∧ W = w' := by
  have H := Aside0.mk h
  clear h
  go_enter Try.func43, Try.ntmps43
  go_wp2_with (go_at_call 46; refine (top_nil H.out).mono ?_; rintro e w1 ⟨rfl, rfl⟩)
  go_ret
  exact ⟨by first | rfl | (simp; done), rfl⟩
set_option maxHeartbeats 1600000 in
theorem endLoop_no (hv : vs.length = ps.length) (h : Sep w0 W (MtL gm vt vo tt (ps ++ [p]) deep (vs ++ [v]) ++ F)) (i : Nat) (hn : p.loop = false) : Calls Try.prog 43 #[.pointer (some ⟨gm, 0, none⟩), .int .i64 (i : Int)] W fun e w' => e = .returned (.bool false) ∧ Sep w0 w' (MtL gm vt vo tt (ps ++ [p]) deep (vs ++ [v]) ++ F) := by
  obtain ⟨ga, c, rfl⟩ := topRow (hv := hv) (mts hv h)
  have H := Aside0.mk h
  have HV := Aside0.mk hv
  have HN := Aside0.mk hn
  clear h hv hn
  go_enter Try.func43, Try.ntmps43
  go_wp2_with (go_at_call 46; refine (top_some (n := ps.length) H.out rfl).mono ?_; rintro e w1 ⟨rfl, hS⟩; obtain ⟨z0, z1, z2, z3, zf⟩ := topCell HV.out (mts HV.out hS); rw [HN.out] at z0; replace hS := Aside0.mk hS)
  go_ret
  exact ⟨by first | rfl | (simp; done), hS.out⟩
set_option maxHeartbeats 3200000 in
set_option maxRecDepth 100000 in
theorem endLoop_yes (hv : vs.length = ps.length) (h : Sep w0 W (MtL gm vt vo tt (ps ++ [p]) deep (vs ++ [v]) ++ F)) (i : Nat) (hl : p.loop = true) (hi : i < tt.length) (hk : ∀ k ∈ p.lvs, k < tt.length) :
    Calls Try.prog 43 #[.pointer (some ⟨gm, 0, none⟩), .int .i64 (i : Int)] W fun e w' => e = .returned (.bool true) ∧ ∃ vo2, Sep w0 w' (MtL gm vt vo2 (setAll (tt.set i (p.beg : Int)) ((i : Int) + 1) p.lvs) ps deep vs ++ F) := by
  obtain ⟨ga, c, rfl⟩ := topRow (hv := hv) (mts hv h)
  obtain ⟨gt, ct, rfl⟩ := topForm (mts hv h) (by omega)
  have htl : (tt.length : Int) ≤ 9223372036854775807 := by
    have := (Sep.rowC' (show Sep w0 W (Row I64 3 (.slice (some ⟨gt, 0, none⟩) tt.length ct) tt :: _) from Sep.pull [_] (mts hv h))).2.1
    have h2 : tt.length ≤ 9223372036854775807 := this
    omega
  have HL := Aside0.mk hl
  have HV := Aside0.mk hv
  obtain ⟨N, hN⟩ : ∃ N, ps.length + 1 = N := ⟨_, rfl⟩
  rw [hN] at h
  have hNc := capN (mts hv h)
  have hw : wrap64 ((N : Int) - 1) = (ps.length : Int) := by rw [IntWalk.wrap64_in _ (by omega)]; omega
  have hwi : wrap64 ((i : Int) + 1) = (i : Int) + 1 := IntWalk.wrap64_in _ (by omega)
  have hcut := cutHi (z := (.agg #[.bool false, .int .i64 0, .int .i64 0, .slice none 0 0])) (sz := 4) (bytes := 48) Try.underlying67 infoPart (some ⟨ga, 0, none⟩) N c ps.length (K := (ps.length : Int)) rfl (by omega) hNc.1
  obtain ⟨n, hn⟩ : ∃ n, p.lvs.length = n := ⟨_, rfl⟩
  obtain ⟨Al, cl, rfl⟩ := Sep.rowN (n := n) (show Sep w0 W (Row I64 3 v (p.lvs.map (fun k : Nat => (k : Int))) :: _) from Sep.pull [_, _, _] (mts hv h)) (by rw [List.length_map]; exact hn)
  have hnm : (n : Int) ≤ 9223372036854775807 := by
    have := (Sep.rowC' (show Sep w0 W (Row I64 3 (.slice Al n cl) (p.lvs.map (fun k : Nat => (k : Int))) :: _) from Sep.pull [_, _, _] (mts hv h))).2.1
    have h2 : n ≤ 9223372036854775807 := this
    omega
  have HN := Aside0.mk hN
  have HI := Aside0.mk hi
  have HK := Aside0.mk hk
  have HM := Aside0.mk hn
  have H := Aside0.mk h
  clear h hv hl hNc hN hk hn
  go_enter Try.func43, Try.ntmps43
  go_wp2_with (go_at_call 46; refine (top_some (n := ps.length) H.out HN.out.symm).mono ?_; rintro e w1 ⟨rfl, hS⟩; obtain ⟨z0, z1, z2, z3, zf⟩ := topCell HV.out (mts HV.out (by rw [HN.out]; exact hS)); rw [HL.out] at z0; have B1 := Aside0.mk (mts HV.out hS); clear hS)
  clear zf
  have c0 : w1.drew.cell? ⟨gm, 0, none⟩ = some (.slice (some ⟨gt, 0, none⟩) tt.length ct) := (Sep.cell (show Sep w0 w1.drew (Blk gm 69 #[.slice (some ⟨gt, 0, none⟩) tt.length ct, _, _] :: _) from B1.out.drew) 0).trans rfl
  have c1 : w1.drew.cell? ⟨ga, ps.length * 4 + 1, none⟩ = some (.int .i64 (p.beg : Int)) := z1
  obtain ⟨f1, f2⟩ := Sep.rowCell (0 : Int) (Sep.pull [_] B1.out.drew) i hi
  have hit : (i : Int).toNat = i := rfl
  have hi1 : (i : Int) < (tt.length : Int) := by omega
  clear z0 z1 z2 z3
  refine start_ (n := 11) (S := fun w' => w'.cell? ⟨gm, 0, none⟩ = some (.slice (some ⟨gt, 0, none⟩) tt.length ct) ∧ w'.cell? ⟨ga, ps.length * 4 + 1, none⟩ = some (.int .i64 (p.beg : Int))) (ds := [10]) #[false, false, false, false, false, false, false, false, false, false, false] (by kernel_rfl) rfl rfl ⟨c0, c1⟩ (fun hHeld => ?_)
  refine pure_ (i := 0) (N := some 19) (v := ?_) (a' := ?_) #[true, false, false, false, false, false, false, false, false, false, false] rfl rfl (by kernel_rfl) (fun _ _ _ h => h) (Or.inl ⟨by rfl, ?_⟩) ?_ ?_
  rotate_left
  · intro w'
    go_simp
    with_reducible rfl
  rotate_left
  · simp only [Act.put, List.setIfInBounds_toArray, List.set_cons_zero, List.set_cons_succ, i64_w, i32_w]
    rfl
  refine pure_ (i := 1) (N := some 20) (v := ?_) (a' := ?_) #[true, true, false, false, false, false, false, false, false, false, false] rfl rfl (by kernel_rfl) (fun _ _ _ h => h) (Or.inl ⟨by rfl, ?_⟩) ?_ ?_
  rotate_left
  · intro w'
    go_simp
    with_reducible rfl
  rotate_left
  · simp only [Act.put, List.setIfInBounds_toArray, List.set_cons_zero, List.set_cons_succ, i64_w, i32_w]
    rfl
  refine pure_ (i := 2) (N := some 21) (v := ?_) (a' := ?_) #[true, true, true, false, false, false, false, false, false, false, false] rfl rfl (by kernel_rfl) (fun _ _ _ h => h) (Or.inl ⟨by rfl, ?_⟩) ?_ ?_
  rotate_left
  · intro w'
    go_simp
    with_reducible rfl
  rotate_left
  · simp only [Act.put, List.setIfInBounds_toArray, List.set_cons_zero, List.set_cons_succ, i64_w, i32_w]
    rfl
  refine pure_ (i := 4) (N := some 23) (v := ?_) (a' := ?_) #[true, true, true, false, true, false, false, false, false, false, false] rfl rfl (by kernel_rfl) (fun _ _ _ h => h) (Or.inl ⟨by rfl, ?_⟩) ?_ ?_
  rotate_left
  · intro w'
    go_simp
    with_reducible rfl
  rotate_left
  · simp only [Act.put, List.setIfInBounds_toArray, List.set_cons_zero, List.set_cons_succ, i64_w, i32_w]
    rfl
  refine pure_ (i := 5) (N := some 24) (v := ?_) (a' := ?_) #[true, true, true, false, true, true, false, false, false, false, false] rfl rfl (by kernel_rfl) (fun _ _ _ h => h) (Or.inl ⟨by rfl, ?_⟩) ?_ ?_
  rotate_left
  · intro w'
    go_simp
    with_reducible rfl
  rotate_left
  · simp only [Act.put, List.setIfInBounds_toArray, List.set_cons_zero, List.set_cons_succ, i64_w, i32_w]
    rfl
  refine pure_ (i := 6) (N := some 25) (v := ?_) (a' := ?_) #[true, true, true, false, true, true, true, false, false, false, false] rfl rfl (by kernel_rfl) (fun _ _ _ h => h) (Or.inl ⟨by rfl, ?_⟩) ?_ ?_
  rotate_left
  · intro w'
    go_simp
    with_reducible rfl
  rotate_left
  · simp only [Act.put, List.setIfInBounds_toArray, List.set_cons_zero, List.set_cons_succ, i64_w, i32_w]
    rfl
  refine pure_ (i := 7) (N := some 26) (v := ?_) (a' := ?_) #[true, true, true, false, true, true, true, true, false, false, false] rfl rfl (by kernel_rfl) (fun _ _ _ h => h) (Or.inl ⟨by rfl, ?_⟩) ?_ ?_
  rotate_left
  · intro w'
    go_simp
    with_reducible rfl
  rotate_left
  · simp only [Act.put, List.setIfInBounds_toArray, List.set_cons_zero, List.set_cons_succ, i64_w, i32_w]
    rfl
  refine take_ (i := 3) (N := some 22) (v := ?_) (a' := ?_) #[true, true, true, true, true, true, true, true, false, false, false] rfl rfl (by kernel_rfl) (fun _ _ _ h => h) (Or.inl ⟨by rfl, ?_⟩) hHeld ?_ ?_
  rotate_left
  · rintro w' ⟨s0, s1⟩
    go_simp
    with_reducible rfl
  rotate_left
  · simp only [Act.put, List.setIfInBounds_toArray, List.set_cons_zero, List.set_cons_succ, i64_w, i32_w]
    rfl
  refine take_ (i := 8) (N := some 27) (v := ?_) (a' := ?_) #[true, true, true, true, true, true, true, true, true, false, false] rfl rfl (by kernel_rfl) (fun _ _ _ h => h) (Or.inl ⟨by rfl, ?_⟩) hHeld ?_ ?_
  rotate_left
  · rintro w' ⟨s0, s1⟩
    go_simp
    with_reducible rfl
  rotate_left
  · simp only [Act.put, List.setIfInBounds_toArray, List.set_cons_zero, List.set_cons_succ, i64_w, i32_w]
    rfl
  refine pure_ (i := 9) (N := some 28) (v := ?_) (a' := ?_) #[true, true, true, true, true, true, true, true, true, true, false] rfl rfl (by kernel_rfl) (fun _ _ _ h => h) (Or.inl ⟨by rfl, ?_⟩) ?_ ?_
  rotate_left
  · intro w'
    go_simp
    with_reducible rfl
  rotate_left
  · simp only [Act.put, List.setIfInBounds_toArray, List.set_cons_zero, List.set_cons_succ, i64_w, i32_w]
    rfl
  refine last_ (i := 10) (N := none) #[true, true, true, true, true, true, true, true, true, true, true] rfl rfl (by kernel_rfl) (by decide) (fun K hK => ?_)
  refine skip_ (w1 := ?_) (by rfl) rfl ?_ ?_
  rotate_left
  · go_simp
    rfl
  refine hK.out _ _ ?_
  clear hK K
  refine done_ (by kernel_rfl) ?_
  have B2 := Aside0.mk ((Sep.pull [_] B1.out).putRow (enc := Value.int .i64) i (p.beg : Int)).drew
  obtain ⟨w2, hw2⟩ : ∃ x, (w1.setCell ⟨gt, i, none⟩ (.int .i64 (p.beg : Int))).drew = x := ⟨_, rfl⟩
  rw [hw2] at B2 ⊢
  clear hw2 c0 c1 f1 f2 hit
  have B3 : Aside0 (Sep w0 w2 (MtS gm (.slice (some ⟨gt, 0, none⟩) tt.length ct) (.slice (some ⟨ga, 0, none⟩) N c) (tt.set i (p.beg : Int)) ps p deep vs (.slice Al n cl) F)) := ⟨Sep.push [_] B2.out⟩
  clear B2 B1
  have z3 : w2.cell? ⟨ga, ps.length * 4 + 3, none⟩ = some (.slice Al n cl) := (topCell HV.out (by rw [HN.out]; exact B3.out)).2.2.2.1
  obtain ⟨T1, hT1⟩ : ∃ T1, tt.set i (p.beg : Int) = T1 := ⟨_, rfl⟩
  have HT : Aside0 (T1.length = tt.length) := ⟨by rw [← hT1, List.length_set]⟩
  rw [hT1] at B3
  have HT1 := Aside0.mk hT1
  clear hT1
  go_wp2_with fail
  go_loopg [34] n (fun m q wr => ∃ j : Nat, j + m = n ∧ q = .int .i64 (j : Int) ∧ Sep w0 wr (MtS gm (.slice (some ⟨gt, 0, none⟩) tt.length ct) (.slice (some ⟨ga, 0, none⟩) N c) (setAll T1 ((i : Int) + 1) (p.lvs.take j)) ps p deep vs (.slice Al n cl) F))
  case atStart => exact ⟨0, by omega, rfl, B3.out⟩
  case round =>
    obtain ⟨j, hjm, rfl, hS⟩ := hrel
    have AK := Aside0.mk hjm
    by_cases hj : j < n
    · have hsl := setAll_len ((i : Int) + 1) (p.lvs.take j) T1
      obtain ⟨gl, cl2, e1⟩ := Sep.rowFormN (n := n) (show Sep w0 wr (Row I64 3 (.slice Al n cl) (p.lvs.map (fun k : Nat => (k : Int))) :: _) from Sep.pull [_, _, _] hS) (by rw [List.length_map]; exact HM.out) (by omega)
      injection e1 with e1 _ e11
      subst e1 e11
      obtain ⟨g1, g2⟩ := Sep.rowCell (0 : Int) (Sep.pull [_, _, _] hS) j hj
      obtain ⟨k, hk⟩ : ∃ k, p.lvs.getD j 0 = k := ⟨_, rfl⟩
      have hjl : j < p.lvs.length := by rw [HM.out]; exact hj
      have hkl : k < tt.length := by
        rw [← hk]
        refine HK.out _ ?_
        rw [List.getD_eq_getElem?_getD, List.getElem?_eq_getElem hjl]
        exact List.getElem_mem hjl
      have e2 : (p.lvs.map (fun k : Nat => (k : Int))).getD j 0 = (k : Int) := by
        rw [List.getD_eq_getElem?_getD, List.getElem?_map, ← hk, List.getD_eq_getElem?_getD, List.getElem?_eq_getElem hjl]; rfl
      rw [e2] at g1
      have c0 : wr.cell? ⟨gm, 0, none⟩ = some (.slice (some ⟨gt, 0, none⟩) tt.length ct) := (Sep.cell (show Sep w0 wr (Blk gm 69 #[.slice (some ⟨gt, 0, none⟩) tt.length ct, _, _] :: _) from hS) 0).trans rfl
      obtain ⟨f1, f2⟩ := Sep.rowCell (0 : Int) (Sep.pull [_] hS) k hkl
      have B5 := Aside0.mk ((Sep.pull [_] hS).putRow (enc := Value.int .i64) k ((i : Int) + 1))
      have HK2 := Aside0.mk hk
      have HJL := Aside0.mk hjl
      clear hS hsl hk hjl e2 g2
      go_wp2_with fail
      go_roundg (gk - 1)
      case measure => have := AK.out; omega
      case rel =>
        refine ⟨j + 1, by have := AK.out; omega, by go_num, ?_⟩
        rw [setAll_take _ _ _ j HJL.out, HK2.out]
        exact Sep.push [_] B5.out
    · have hjn : j = n := by omega
      rw [hjn, ← HM.out, List.take_length] at hS
      rw [HM.out] at hS
      subst hjn
      have B6 := Aside0.mk hS
      have d1 : wr.drew.cell? ⟨gm, 1, none⟩ = some (.slice (some ⟨ga, 0, none⟩) N c) := (Sep.cell (show Sep w0 wr.drew (Blk gm 69 #[_, .slice (some ⟨ga, 0, none⟩) N c, _] :: _) from hS.drew) 1).trans rfl
      have d2 : wr.drew.frozen? ⟨gm, 1, none⟩ = false := Sep.frozen (show Sep w0 wr.drew (Blk gm 69 #[_, .slice (some ⟨ga, 0, none⟩) N c, _] :: _) from hS.drew) 1
      clear hS hjm AK hj
      go_wp2_with fail
      refine start_ (n := 15) (S := fun w' => w'.cell? ⟨gm, 1, none⟩ = some (.slice (some ⟨ga, 0, none⟩) N c)) (ds := [14]) #[false, false, false, false, false, false, false, false, false, false, false, false, false, false, false] (by kernel_rfl) rfl rfl (d1) (fun hHeld => ?_)
      refine pure_ (i := 0) (N := some 47) (v := ?_) (a' := ?_) #[true, false, false, false, false, false, false, false, false, false, false, false, false, false, false] rfl rfl (by kernel_rfl) (fun _ _ _ h => h) (Or.inl ⟨by rfl, ?_⟩) ?_ ?_
      rotate_left
      · intro w'
        go_simp
        with_reducible rfl
      rotate_left
      · simp only [Act.put, List.setIfInBounds_toArray, List.set_cons_zero, List.set_cons_succ, i64_w, i32_w]
        rfl
      refine pure_ (i := 1) (N := some 48) (v := ?_) (a' := ?_) #[true, true, false, false, false, false, false, false, false, false, false, false, false, false, false] rfl rfl (by kernel_rfl) (fun _ _ _ h => h) (Or.inl ⟨by rfl, ?_⟩) ?_ ?_
      rotate_left
      · intro w'
        go_simp
        with_reducible rfl
      rotate_left
      · simp only [Act.put, List.setIfInBounds_toArray, List.set_cons_zero, List.set_cons_succ, i64_w, i32_w]
        rfl
      refine pure_ (i := 2) (N := some 49) (v := ?_) (a' := ?_) #[true, true, true, false, false, false, false, false, false, false, false, false, false, false, false] rfl rfl (by kernel_rfl) (fun _ _ _ h => h) (Or.inl ⟨by rfl, ?_⟩) ?_ ?_
      rotate_left
      · intro w'
        go_simp
        with_reducible rfl
      rotate_left
      · simp only [Act.put, List.setIfInBounds_toArray, List.set_cons_zero, List.set_cons_succ, i64_w, i32_w]
        rfl
      refine pure_ (i := 3) (N := some 50) (v := ?_) (a' := ?_) #[true, true, true, true, false, false, false, false, false, false, false, false, false, false, false] rfl rfl (by kernel_rfl) (fun _ _ _ h => h) (Or.inl ⟨by rfl, ?_⟩) ?_ ?_
      rotate_left
      · intro w'
        go_simp
        with_reducible rfl
      rotate_left
      · simp only [Act.put, List.setIfInBounds_toArray, List.set_cons_zero, List.set_cons_succ, i64_w, i32_w]
        rfl
      refine pure_ (i := 5) (N := some 52) (v := ?_) (a' := ?_) #[true, true, true, true, false, true, false, false, false, false, false, false, false, false, false] rfl rfl (by kernel_rfl) (fun _ _ _ h => h) (Or.inl ⟨by rfl, ?_⟩) ?_ ?_
      rotate_left
      · intro w'
        go_simp
        with_reducible rfl
      rotate_left
      · simp only [Act.put, List.setIfInBounds_toArray, List.set_cons_zero, List.set_cons_succ, i64_w, i32_w]
        rfl
      refine pure_ (i := 6) (N := some 53) (v := ?_) (a' := ?_) #[true, true, true, true, false, true, true, false, false, false, false, false, false, false, false] rfl rfl (by kernel_rfl) (fun _ _ _ h => h) (Or.inl ⟨by rfl, ?_⟩) ?_ ?_
      rotate_left
      · intro w'
        go_simp
        with_reducible rfl
      rotate_left
      · simp only [Act.put, List.setIfInBounds_toArray, List.set_cons_zero, List.set_cons_succ, i64_w, i32_w]
        rfl
      refine pure_ (i := 7) (N := some 54) (v := ?_) (a' := ?_) #[true, true, true, true, false, true, true, true, false, false, false, false, false, false, false] rfl rfl (by kernel_rfl) (fun _ _ _ h => h) (Or.inl ⟨by rfl, ?_⟩) ?_ ?_
      rotate_left
      · intro w'
        go_simp
        with_reducible rfl
      rotate_left
      · simp only [Act.put, List.setIfInBounds_toArray, List.set_cons_zero, List.set_cons_succ, i64_w, i32_w]
        rfl
      refine take_ (i := 4) (N := some 51) (v := ?_) (a' := ?_) #[true, true, true, true, true, true, true, true, false, false, false, false, false, false, false] rfl rfl (by kernel_rfl) (fun _ _ _ h => h) (Or.inl ⟨by rfl, ?_⟩) hHeld ?_ ?_
      rotate_left
      · intro w' s0
        go_simp
        with_reducible rfl
      rotate_left
      · simp only [Act.put, List.setIfInBounds_toArray, List.set_cons_zero, List.set_cons_succ, i64_w, i32_w]
        rfl
      refine take_ (i := 8) (N := some 55) (v := ?_) (a' := ?_) #[true, true, true, true, true, true, true, true, true, false, false, false, false, false, false] rfl rfl (by kernel_rfl) (fun _ _ _ h => h) (Or.inl ⟨by rfl, ?_⟩) hHeld ?_ ?_
      rotate_left
      · intro w' s0
        go_simp
        with_reducible rfl
      rotate_left
      · simp only [Act.put, List.setIfInBounds_toArray, List.set_cons_zero, List.set_cons_succ, i64_w, i32_w]
        rfl
      refine pure_ (i := 9) (N := some 56) (v := ?_) (a' := ?_) #[true, true, true, true, true, true, true, true, true, true, false, false, false, false, false] rfl rfl (by kernel_rfl) (fun _ _ _ h => h) (Or.inl ⟨by rfl, ?_⟩) ?_ ?_
      rotate_left
      · intro w'
        go_simp
        with_reducible rfl
      rotate_left
      · simp only [Act.put, List.setIfInBounds_toArray, List.set_cons_zero, List.set_cons_succ, i64_w, i32_w]
        rfl
      refine pure_ (i := 10) (N := some 57) (v := ?_) (a' := ?_) #[true, true, true, true, true, true, true, true, true, true, true, false, false, false, false] rfl rfl (by kernel_rfl) (fun _ _ _ h => h) (Or.inl ⟨by rfl, ?_⟩) ?_ ?_
      rotate_left
      · intro w'
        go_simp
        with_reducible rfl
      rotate_left
      · simp only [Act.put, List.setIfInBounds_toArray, List.set_cons_zero, List.set_cons_succ, i64_w, i32_w]
        rfl
      refine pure_ (i := 11) (N := some 58) (v := ?_) (a' := ?_) #[true, true, true, true, true, true, true, true, true, true, true, true, false, false, false] rfl rfl (by kernel_rfl) (fun _ _ _ h => h) (Or.inl ⟨by rfl, ?_⟩) ?_ ?_
      rotate_left
      · intro w'
        go_simp
        with_reducible rfl
      rotate_left
      · simp only [Act.put, List.setIfInBounds_toArray, List.set_cons_zero, List.set_cons_succ, i64_w, i32_w]
        rfl
      refine pure_ (i := 12) (N := some 59) (v := ?_) (a' := ?_) #[true, true, true, true, true, true, true, true, true, true, true, true, true, false, false] rfl rfl (by kernel_rfl) (fun _ _ _ h => h) (Or.inl ⟨by rfl, ?_⟩) ?_ ?_
      rotate_left
      · intro w'
        go_simp
        with_reducible rfl
      rotate_left
      · simp only [Act.put, List.setIfInBounds_toArray, List.set_cons_zero, List.set_cons_succ, i64_w, i32_w]
        rfl
      refine pure_ (i := 13) (N := some 60) (v := ?_) (a' := ?_) #[true, true, true, true, true, true, true, true, true, true, true, true, true, true, false] rfl rfl (by kernel_rfl) (fun _ _ _ h => h) (Or.inl ⟨by rfl, ?_⟩) ?_ ?_
      rotate_left
      · intro w'
        go_simp
        with_reducible rfl
      rotate_left
      · simp only [Act.put, List.setIfInBounds_toArray, List.set_cons_zero, List.set_cons_succ, i64_w, i32_w]
        rfl
      refine last_ (i := 14) (N := none) #[true, true, true, true, true, true, true, true, true, true, true, true, true, true, true] rfl rfl (by kernel_rfl) (by decide) (fun K hK => ?_)
      refine skip_ (w1 := ?_) (by rfl) rfl ?_ ?_
      rotate_left
      · go_simp
        rfl
      refine hK.out _ _ ?_
      clear hK K
      refine done_ (by kernel_rfl) ?_
      have B4 := Aside0.mk (popFin HV.out B6.out)
      go_wp2_with fail
      go_ret
      exact ⟨by first | rfl | (simp; done), _, by rw [HT1.out]; exact B4.out.drew⟩
end
end Go.Proofs.Ytkkgfpdjlohojaa.Nest
