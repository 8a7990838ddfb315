/- Package nest: the end of an if. -/
import Derived.Test.YtkkgfpdjlohojaaNest3
namespace Go.Proofs.Ytkkgfpdjlohojaa.Nest
set_option linter.unusedVariables false
set_option linter.unusedSimpArgs false
open Go.RowKit Go.Proofs.YtkkgfpdjlohojaaW.PrintWords Go.Proofs.YtkkgfpdjlohojaaW.PrintLast Go.Proofs.YtkkgfpdjlohojaaW.PrintMore Go.Proofs.Ytkkgfpdjlohojaa.Kit
open Go.Proofs.Ytkkgfpdjlohojaa.NestP
section
variable {w0 W : World} {F : List HP} {gm : Nat} {vt vo v : Value} {tt : List Int} {ps : List Pt} {p : Pt} {deep : Nat} {vs : List Value}
/-- The part that is open innermost is taken off. -/
theorem popFin {ga N c : Nat} (hv : vs.length = ps.length) (h : Sep w0 W (MtS gm vt (.slice (some ⟨ga, 0, none⟩) N c) tt ps p deep vs v F)) :
    Sep w0 (W.setCell ⟨gm, 1, none⟩ (.slice (some ⟨ga, 0, none⟩) ps.length c)) (MtL gm vt (.slice (some ⟨ga, 0, none⟩) ps.length c) tt ps deep vs ++ F) := by
  have hl2 := rawC_len ps vs hv
  have h1 := Sep.setBlk (show Sep w0 W (Blk gm 69 #[vt, .slice (some ⟨ga, 0, none⟩) N c, .int .i64 (deep : Int)] :: _) from h) 1 (.slice (some ⟨ga, 0, none⟩) ps.length c)
  have h2 := Sep.rowTake (m := ps.length) (Sep.pull [_, _] h1) (by rw [List.length_append, hl2]; omega)
  rw [List.take_append_of_le_length (by omega), List.take_of_length_le (by omega)] at h2
  unfold MtL
  exact Sep.push [_, _] ((Sep.pull [_, _, _] h2).tail)
theorem capN {ga N c : Nat} (h : Sep w0 W (MtS gm vt (.slice (some ⟨ga, 0, none⟩) N c) tt ps p deep vs v F)) : N ≤ c ∧ N ≤ 9223372036854775807 := by
  have h1 := Sep.rowC' (show Sep w0 W (Row (Kd.raw 4) 92 (.slice (some ⟨ga, 0, none⟩) N c) _ :: _) from Sep.pull [_, _] h)
  have h2 := Sep.rowC (show Sep w0 W (Row (Kd.raw 4) 92 (.slice (some ⟨ga, 0, none⟩) N c) _ :: _) from Sep.pull [_, _] h)
  exact ⟨h2.2.1, h1.2.1⟩
set_option maxHeartbeats 1600000 in
theorem endIf_nil (h : Sep w0 W (MtL gm vt vo tt [] deep [] ++ F)) (i : Nat) : Calls Try.prog 42 #[.pointer (some ⟨gm, 0, none⟩), .int .i64 (i : Int)] W fun e w' => e = .returned (.bool false) ∧ W = w' := by
  have H := Aside0.mk h
  clear h
  go_enter Try.func42, Try.ntmps42
  go_wp2_with (go_at_call 46; refine (top_nil H.out).mono ?_; rintro e w1 ⟨rfl, rfl⟩)
  go_ret
  exact ⟨by first | rfl | (simp; done), rfl⟩
set_option maxHeartbeats 1600000 in
theorem endIf_no (hv : vs.length = ps.length) (h : Sep w0 W (MtL gm vt vo tt (ps ++ [p]) deep (vs ++ [v]) ++ F)) (i : Nat) (hn : p.loop = true) : Calls Try.prog 42 #[.pointer (some ⟨gm, 0, none⟩), .int .i64 (i : Int)] W fun e w' => e = .returned (.bool false) ∧ Sep w0 w' (MtL gm vt vo tt (ps ++ [p]) deep (vs ++ [v]) ++ F) := by
  obtain ⟨ga, c, rfl⟩ := topRow (hv := hv) (mts hv h)
  have H := Aside0.mk h
  have HV := Aside0.mk hv
  have HN := Aside0.mk hn
  clear h hv hn
  go_enter Try.func42, Try.ntmps42
  go_wp2_with (go_at_call 46; refine (top_some (n := ps.length) H.out rfl).mono ?_; rintro e w1 ⟨rfl, hS⟩; obtain ⟨z0, z1, z2, z3, zf⟩ := topCell HV.out (mts HV.out hS); rw [HN.out] at z0; replace hS := Aside0.mk hS)
  go_ret
  exact ⟨by first | rfl | (simp; done), hS.out⟩
set_option maxHeartbeats 3200000 in
set_option maxRecDepth 100000 in
theorem endIf_o (hv : vs.length = ps.length) (h : Sep w0 W (MtL gm vt vo tt (ps ++ [p]) deep (vs ++ [v]) ++ F)) (i : Nat) (hl : p.loop = false) (ho : 0 < p.oth) (hb : p.oth < tt.length) :
    Calls Try.prog 42 #[.pointer (some ⟨gm, 0, none⟩), .int .i64 (i : Int)] W fun e w' => e = .returned (.bool true) ∧ ∃ vo2, Sep w0 w' (MtL gm vt vo2 (tt.set p.oth (i : Int)) ps deep vs ++ F) := by
  obtain ⟨ga, c, rfl⟩ := topRow (hv := hv) (mts hv h)
  obtain ⟨gt, ct, rfl⟩ := topForm (mts hv h) (by omega)
  have HL := Aside0.mk hl
  obtain ⟨q, hq⟩ : ∃ q, p.oth = q := ⟨_, rfl⟩
  have HQ := Aside0.mk hq
  have hd : decide (0 < (q : Int)) = true := decide_eq_true (by omega)
  have hd2 : decide (0 < q) = true := decide_eq_true (by omega)
  have HV := Aside0.mk hv
  obtain ⟨N, hN⟩ : ∃ N, ps.length + 1 = N := ⟨_, rfl⟩
  rw [hN] at h
  have hNc := capN (mts hv h)
  have hw : wrap64 ((N : Int) - 1) = (ps.length : Int) := by rw [IntWalk.wrap64_in _ (by omega)]; omega
  have hcut := cutHi (z := (.agg #[.bool false, .int .i64 0, .int .i64 0, .slice none 0 0])) (sz := 4) (bytes := 48) Try.underlying67 infoPart (some ⟨ga, 0, none⟩) N c ps.length (K := (ps.length : Int)) rfl (by omega) hNc.1
  have HN := Aside0.mk hN
  have HB := Aside0.mk hb
  have H := Aside0.mk h
  clear h hv hl ho hNc hN
  go_enter Try.func42, Try.ntmps42
  go_wp2_with (go_at_call 46; refine (top_some (n := ps.length) H.out HN.out.symm).mono ?_; rintro e w1 ⟨rfl, hS⟩; obtain ⟨z0, z1, z2, z3, zf⟩ := topCell HV.out (mts HV.out (by rw [HN.out]; exact hS)); rw [HL.out] at z0; rw [HQ.out] at z2; have B1 := Aside0.mk (mts HV.out hS); clear hS)
  clear zf hb
  have c0 : w1.drew.cell? ⟨gm, 0, none⟩ = some (.slice (some ⟨gt, 0, none⟩) tt.length ct) := (Sep.cell (show Sep w0 w1.drew (Blk gm 69 #[.slice (some ⟨gt, 0, none⟩) tt.length ct, _, _] :: _) from B1.out.drew) 0).trans rfl
  have c1 : w1.drew.cell? ⟨ga, ps.length * 4 + 2, none⟩ = some (.int .i64 (q : Int)) := z2
  obtain ⟨f1, f2⟩ := Sep.rowCell (0 : Int) (Sep.pull [_] B1.out.drew) q (by have := HB.out; have := HQ.out; omega)
  have hit : (q : Int).toNat = q := rfl
  have hi1 : (q : Int) < (tt.length : Int) := by have := HB.out; have := HQ.out; omega
  clear z0 z1 z2 z3
  refine start_ (n := 11) (S := fun w' => w'.cell? ⟨gm, 0, none⟩ = some (.slice (some ⟨gt, 0, none⟩) tt.length ct) ∧ w'.cell? ⟨ga, ps.length * 4 + 2, none⟩ = some (.int .i64 (q : Int))) (ds := [10]) #[false, false, false, false, false, false, false, false, false, false, false] (by kernel_rfl) rfl rfl ⟨c0, c1⟩ (fun hHeld => ?_)
  refine pure_ (i := 0) (N := some 21) (v := ?_) (a' := ?_) #[true, false, false, false, false, false, false, false, false, false, false] rfl rfl (by kernel_rfl) (fun _ _ _ h => h) (Or.inl ⟨by rfl, ?_⟩) ?_ ?_
  rotate_left
  · intro w'
    go_simp
    with_reducible rfl
  rotate_left
  · simp only [Act.put, List.setIfInBounds_toArray, List.set_cons_zero, List.set_cons_succ, i64_w, i32_w]
    rfl
  refine pure_ (i := 1) (N := some 22) (v := ?_) (a' := ?_) #[true, true, false, false, false, false, false, false, false, false, false] rfl rfl (by kernel_rfl) (fun _ _ _ h => h) (Or.inl ⟨by rfl, ?_⟩) ?_ ?_
  rotate_left
  · intro w'
    go_simp
    with_reducible rfl
  rotate_left
  · simp only [Act.put, List.setIfInBounds_toArray, List.set_cons_zero, List.set_cons_succ, i64_w, i32_w]
    rfl
  refine pure_ (i := 2) (N := some 23) (v := ?_) (a' := ?_) #[true, true, true, false, false, false, false, false, false, false, false] rfl rfl (by kernel_rfl) (fun _ _ _ h => h) (Or.inl ⟨by rfl, ?_⟩) ?_ ?_
  rotate_left
  · intro w'
    go_simp
    with_reducible rfl
  rotate_left
  · simp only [Act.put, List.setIfInBounds_toArray, List.set_cons_zero, List.set_cons_succ, i64_w, i32_w]
    rfl
  refine pure_ (i := 4) (N := some 25) (v := ?_) (a' := ?_) #[true, true, true, false, true, false, false, false, false, false, false] rfl rfl (by kernel_rfl) (fun _ _ _ h => h) (Or.inl ⟨by rfl, ?_⟩) ?_ ?_
  rotate_left
  · intro w'
    go_simp
    with_reducible rfl
  rotate_left
  · simp only [Act.put, List.setIfInBounds_toArray, List.set_cons_zero, List.set_cons_succ, i64_w, i32_w]
    rfl
  refine pure_ (i := 5) (N := some 26) (v := ?_) (a' := ?_) #[true, true, true, false, true, true, false, false, false, false, false] rfl rfl (by kernel_rfl) (fun _ _ _ h => h) (Or.inl ⟨by rfl, ?_⟩) ?_ ?_
  rotate_left
  · intro w'
    go_simp
    with_reducible rfl
  rotate_left
  · simp only [Act.put, List.setIfInBounds_toArray, List.set_cons_zero, List.set_cons_succ, i64_w, i32_w]
    rfl
  refine pure_ (i := 6) (N := some 27) (v := ?_) (a' := ?_) #[true, true, true, false, true, true, true, false, false, false, false] rfl rfl (by kernel_rfl) (fun _ _ _ h => h) (Or.inl ⟨by rfl, ?_⟩) ?_ ?_
  rotate_left
  · intro w'
    go_simp
    with_reducible rfl
  rotate_left
  · simp only [Act.put, List.setIfInBounds_toArray, List.set_cons_zero, List.set_cons_succ, i64_w, i32_w]
    rfl
  refine pure_ (i := 8) (N := some 29) (v := ?_) (a' := ?_) #[true, true, true, false, true, true, true, false, true, false, false] rfl rfl (by kernel_rfl) (fun _ _ _ h => h) (Or.inl ⟨by rfl, ?_⟩) ?_ ?_
  rotate_left
  · intro w'
    go_simp
    with_reducible rfl
  rotate_left
  · simp only [Act.put, List.setIfInBounds_toArray, List.set_cons_zero, List.set_cons_succ, i64_w, i32_w]
    rfl
  refine take_ (i := 3) (N := some 24) (v := ?_) (a' := ?_) #[true, true, true, true, true, true, true, false, true, false, false] rfl rfl (by kernel_rfl) (fun _ _ _ h => h) (Or.inl ⟨by rfl, ?_⟩) hHeld ?_ ?_
  rotate_left
  · rintro w' ⟨s0, s1⟩
    go_simp
    with_reducible rfl
  rotate_left
  · simp only [Act.put, List.setIfInBounds_toArray, List.set_cons_zero, List.set_cons_succ, i64_w, i32_w]
    rfl
  refine take_ (i := 7) (N := some 28) (v := ?_) (a' := ?_) #[true, true, true, true, true, true, true, true, true, false, false] rfl rfl (by kernel_rfl) (fun _ _ _ h => h) (Or.inl ⟨by rfl, ?_⟩) hHeld ?_ ?_
  rotate_left
  · rintro w' ⟨s0, s1⟩
    go_simp
    with_reducible rfl
  rotate_left
  · simp only [Act.put, List.setIfInBounds_toArray, List.set_cons_zero, List.set_cons_succ, i64_w, i32_w]
    rfl
  refine pure_ (i := 9) (N := some 30) (v := ?_) (a' := ?_) #[true, true, true, true, true, true, true, true, true, true, false] rfl rfl (by kernel_rfl) (fun _ _ _ h => h) (Or.inl ⟨by rfl, ?_⟩) ?_ ?_
  rotate_left
  · intro w'
    go_simp
    with_reducible rfl
  rotate_left
  · simp only [Act.put, List.setIfInBounds_toArray, List.set_cons_zero, List.set_cons_succ, i64_w, i32_w]
    rfl
  refine last_ (i := 10) (N := none) #[true, true, true, true, true, true, true, true, true, true, true] rfl rfl (by kernel_rfl) (by decide) (fun K hK => ?_)
  refine skip_ (w1 := ?_) (by rfl) rfl ?_ ?_
  rotate_left
  · go_simp
    rfl
  refine hK.out _ _ ?_
  clear hK K
  refine done_ (by kernel_rfl) ?_
  have B2 := Aside0.mk ((Sep.pull [_] B1.out).putRow (enc := Value.int .i64) q (i : Int)).drew
  obtain ⟨w2, hw2⟩ : ∃ x, (w1.setCell ⟨gt, q, none⟩ (.int .i64 (i : Int))).drew = x := ⟨_, rfl⟩
  rw [hw2] at B2 ⊢
  clear hw2 c0 c1 f1 f2 hit hi1
  have B3 : Aside0 (Sep w0 w2 (MtS gm (.slice (some ⟨gt, 0, none⟩) tt.length ct) (.slice (some ⟨ga, 0, none⟩) N c) (tt.set q (i : Int)) ps p deep vs v F)) := ⟨Sep.push [_] B2.out⟩
  have d1 : w2.drew.cell? ⟨gm, 1, none⟩ = some (.slice (some ⟨ga, 0, none⟩) N c) := (Sep.cell (show Sep w0 w2.drew (Blk gm 69 #[_, .slice (some ⟨ga, 0, none⟩) N c, _] :: _) from B3.out.drew) 1).trans rfl
  have d2 : w2.drew.frozen? ⟨gm, 1, none⟩ = false := Sep.frozen (show Sep w0 w2.drew (Blk gm 69 #[_, .slice (some ⟨ga, 0, none⟩) N c, _] :: _) from B3.out.drew) 1
  go_wp2_with fail
  refine start_ (n := 15) (S := fun w' => w'.cell? ⟨gm, 1, none⟩ = some (.slice (some ⟨ga, 0, none⟩) N c)) (ds := [14]) #[false, false, false, false, false, false, false, false, false, false, false, false, false, false, false] (by kernel_rfl) rfl rfl (d1) (fun hHeld => ?_)
  refine pure_ (i := 0) (N := some 41) (v := ?_) (a' := ?_) #[true, false, false, false, false, false, false, false, false, false, false, false, false, false, false] rfl rfl (by kernel_rfl) (fun _ _ _ h => h) (Or.inl ⟨by rfl, ?_⟩) ?_ ?_
  rotate_left
  · intro w'
    go_simp
    with_reducible rfl
  rotate_left
  · simp only [Act.put, List.setIfInBounds_toArray, List.set_cons_zero, List.set_cons_succ, i64_w, i32_w]
    rfl
  refine pure_ (i := 1) (N := some 42) (v := ?_) (a' := ?_) #[true, true, false, false, false, false, false, false, false, false, false, false, false, false, false] rfl rfl (by kernel_rfl) (fun _ _ _ h => h) (Or.inl ⟨by rfl, ?_⟩) ?_ ?_
  rotate_left
  · intro w'
    go_simp
    with_reducible rfl
  rotate_left
  · simp only [Act.put, List.setIfInBounds_toArray, List.set_cons_zero, List.set_cons_succ, i64_w, i32_w]
    rfl
  refine pure_ (i := 2) (N := some 43) (v := ?_) (a' := ?_) #[true, true, true, false, false, false, false, false, false, false, false, false, false, false, false] rfl rfl (by kernel_rfl) (fun _ _ _ h => h) (Or.inl ⟨by rfl, ?_⟩) ?_ ?_
  rotate_left
  · intro w'
    go_simp
    with_reducible rfl
  rotate_left
  · simp only [Act.put, List.setIfInBounds_toArray, List.set_cons_zero, List.set_cons_succ, i64_w, i32_w]
    rfl
  refine pure_ (i := 3) (N := some 44) (v := ?_) (a' := ?_) #[true, true, true, true, false, false, false, false, false, false, false, false, false, false, false] rfl rfl (by kernel_rfl) (fun _ _ _ h => h) (Or.inl ⟨by rfl, ?_⟩) ?_ ?_
  rotate_left
  · intro w'
    go_simp
    with_reducible rfl
  rotate_left
  · simp only [Act.put, List.setIfInBounds_toArray, List.set_cons_zero, List.set_cons_succ, i64_w, i32_w]
    rfl
  refine pure_ (i := 5) (N := some 46) (v := ?_) (a' := ?_) #[true, true, true, true, false, true, false, false, false, false, false, false, false, false, false] rfl rfl (by kernel_rfl) (fun _ _ _ h => h) (Or.inl ⟨by rfl, ?_⟩) ?_ ?_
  rotate_left
  · intro w'
    go_simp
    with_reducible rfl
  rotate_left
  · simp only [Act.put, List.setIfInBounds_toArray, List.set_cons_zero, List.set_cons_succ, i64_w, i32_w]
    rfl
  refine pure_ (i := 6) (N := some 47) (v := ?_) (a' := ?_) #[true, true, true, true, false, true, true, false, false, false, false, false, false, false, false] rfl rfl (by kernel_rfl) (fun _ _ _ h => h) (Or.inl ⟨by rfl, ?_⟩) ?_ ?_
  rotate_left
  · intro w'
    go_simp
    with_reducible rfl
  rotate_left
  · simp only [Act.put, List.setIfInBounds_toArray, List.set_cons_zero, List.set_cons_succ, i64_w, i32_w]
    rfl
  refine pure_ (i := 7) (N := some 48) (v := ?_) (a' := ?_) #[true, true, true, true, false, true, true, true, false, false, false, false, false, false, false] rfl rfl (by kernel_rfl) (fun _ _ _ h => h) (Or.inl ⟨by rfl, ?_⟩) ?_ ?_
  rotate_left
  · intro w'
    go_simp
    with_reducible rfl
  rotate_left
  · simp only [Act.put, List.setIfInBounds_toArray, List.set_cons_zero, List.set_cons_succ, i64_w, i32_w]
    rfl
  refine take_ (i := 4) (N := some 45) (v := ?_) (a' := ?_) #[true, true, true, true, true, true, true, true, false, false, false, false, false, false, false] rfl rfl (by kernel_rfl) (fun _ _ _ h => h) (Or.inl ⟨by rfl, ?_⟩) hHeld ?_ ?_
  rotate_left
  · intro w' s0
    go_simp
    with_reducible rfl
  rotate_left
  · simp only [Act.put, List.setIfInBounds_toArray, List.set_cons_zero, List.set_cons_succ, i64_w, i32_w]
    rfl
  refine take_ (i := 8) (N := some 49) (v := ?_) (a' := ?_) #[true, true, true, true, true, true, true, true, true, false, false, false, false, false, false] rfl rfl (by kernel_rfl) (fun _ _ _ h => h) (Or.inl ⟨by rfl, ?_⟩) hHeld ?_ ?_
  rotate_left
  · intro w' s0
    go_simp
    with_reducible rfl
  rotate_left
  · simp only [Act.put, List.setIfInBounds_toArray, List.set_cons_zero, List.set_cons_succ, i64_w, i32_w]
    rfl
  refine pure_ (i := 9) (N := some 50) (v := ?_) (a' := ?_) #[true, true, true, true, true, true, true, true, true, true, false, false, false, false, false] rfl rfl (by kernel_rfl) (fun _ _ _ h => h) (Or.inl ⟨by rfl, ?_⟩) ?_ ?_
  rotate_left
  · intro w'
    go_simp
    with_reducible rfl
  rotate_left
  · simp only [Act.put, List.setIfInBounds_toArray, List.set_cons_zero, List.set_cons_succ, i64_w, i32_w]
    rfl
  refine pure_ (i := 10) (N := some 51) (v := ?_) (a' := ?_) #[true, true, true, true, true, true, true, true, true, true, true, false, false, false, false] rfl rfl (by kernel_rfl) (fun _ _ _ h => h) (Or.inl ⟨by rfl, ?_⟩) ?_ ?_
  rotate_left
  · intro w'
    go_simp
    with_reducible rfl
  rotate_left
  · simp only [Act.put, List.setIfInBounds_toArray, List.set_cons_zero, List.set_cons_succ, i64_w, i32_w]
    rfl
  refine pure_ (i := 11) (N := some 52) (v := ?_) (a' := ?_) #[true, true, true, true, true, true, true, true, true, true, true, true, false, false, false] rfl rfl (by kernel_rfl) (fun _ _ _ h => h) (Or.inl ⟨by rfl, ?_⟩) ?_ ?_
  rotate_left
  · intro w'
    go_simp
    with_reducible rfl
  rotate_left
  · simp only [Act.put, List.setIfInBounds_toArray, List.set_cons_zero, List.set_cons_succ, i64_w, i32_w]
    rfl
  refine pure_ (i := 12) (N := some 53) (v := ?_) (a' := ?_) #[true, true, true, true, true, true, true, true, true, true, true, true, true, false, false] rfl rfl (by kernel_rfl) (fun _ _ _ h => h) (Or.inl ⟨by rfl, ?_⟩) ?_ ?_
  rotate_left
  · intro w'
    go_simp
    with_reducible rfl
  rotate_left
  · simp only [Act.put, List.setIfInBounds_toArray, List.set_cons_zero, List.set_cons_succ, i64_w, i32_w]
    rfl
  refine pure_ (i := 13) (N := some 54) (v := ?_) (a' := ?_) #[true, true, true, true, true, true, true, true, true, true, true, true, true, true, false] rfl rfl (by kernel_rfl) (fun _ _ _ h => h) (Or.inl ⟨by rfl, ?_⟩) ?_ ?_
  rotate_left
  · intro w'
    go_simp
    with_reducible rfl
  rotate_left
  · simp only [Act.put, List.setIfInBounds_toArray, List.set_cons_zero, List.set_cons_succ, i64_w, i32_w]
    rfl
  refine last_ (i := 14) (N := none) #[true, true, true, true, true, true, true, true, true, true, true, true, true, true, true] rfl rfl (by kernel_rfl) (by decide) (fun K hK => ?_)
  refine skip_ (w1 := ?_) (by rfl) rfl ?_ ?_
  rotate_left
  · go_simp
    rfl
  refine hK.out _ _ ?_
  clear hK K
  refine done_ (by kernel_rfl) ?_
  have B4 := Aside0.mk (popFin HV.out B3.out)
  go_wp2_with fail
  go_ret
  exact ⟨by first | rfl | (simp; done), _, by rw [HQ.out]; exact B4.out.drew⟩
set_option maxHeartbeats 3200000 in
set_option maxRecDepth 100000 in
theorem endIf_b (hv : vs.length = ps.length) (h : Sep w0 W (MtL gm vt vo tt (ps ++ [p]) deep (vs ++ [v]) ++ F)) (i : Nat) (hl : p.loop = false) (ho : p.oth = 0) (hb : p.beg < tt.length) :
    Calls Try.prog 42 #[.pointer (some ⟨gm, 0, none⟩), .int .i64 (i : Int)] W fun e w' => e = .returned (.bool true) ∧ ∃ vo2, Sep w0 w' (MtL gm vt vo2 (tt.set p.beg (i : Int)) ps deep vs ++ F) := by
  obtain ⟨ga, c, rfl⟩ := topRow (hv := hv) (mts hv h)
  obtain ⟨gt, ct, rfl⟩ := topForm (mts hv h) (by omega)
  have HL := Aside0.mk hl
  obtain ⟨q, hq⟩ : ∃ q, p.oth = q := ⟨_, rfl⟩
  have HQ := Aside0.mk hq
  have hd : decide (0 < (q : Int)) = false := decide_eq_false (by omega)
  have hd2 : decide (0 < q) = false := decide_eq_false (by omega)
  have HV := Aside0.mk hv
  obtain ⟨N, hN⟩ : ∃ N, ps.length + 1 = N := ⟨_, rfl⟩
  rw [hN] at h
  have hNc := capN (mts hv h)
  have hw : wrap64 ((N : Int) - 1) = (ps.length : Int) := by rw [IntWalk.wrap64_in _ (by omega)]; omega
  have hcut := cutHi (z := (.agg #[.bool false, .int .i64 0, .int .i64 0, .slice none 0 0])) (sz := 4) (bytes := 48) Try.underlying67 infoPart (some ⟨ga, 0, none⟩) N c ps.length (K := (ps.length : Int)) rfl (by omega) hNc.1
  have HN := Aside0.mk hN
  have HB := Aside0.mk hb
  have H := Aside0.mk h
  clear h hv hl ho hNc hN
  go_enter Try.func42, Try.ntmps42
  go_wp2_with (go_at_call 46; refine (top_some (n := ps.length) H.out HN.out.symm).mono ?_; rintro e w1 ⟨rfl, hS⟩; obtain ⟨z0, z1, z2, z3, zf⟩ := topCell HV.out (mts HV.out (by rw [HN.out]; exact hS)); rw [HL.out] at z0; rw [HQ.out] at z2; have B1 := Aside0.mk (mts HV.out hS); clear hS)
  clear zf hb
  have c0 : w1.drew.cell? ⟨gm, 0, none⟩ = some (.slice (some ⟨gt, 0, none⟩) tt.length ct) := (Sep.cell (show Sep w0 w1.drew (Blk gm 69 #[.slice (some ⟨gt, 0, none⟩) tt.length ct, _, _] :: _) from B1.out.drew) 0).trans rfl
  have c1 : w1.drew.cell? ⟨ga, ps.length * 4 + 1, none⟩ = some (.int .i64 (p.beg : Int)) := z1
  obtain ⟨f1, f2⟩ := Sep.rowCell (0 : Int) (Sep.pull [_] B1.out.drew) p.beg (by have := HB.out; have := HQ.out; omega)
  have hit : (p.beg : Int).toNat = p.beg := rfl
  have hi1 : (p.beg : Int) < (tt.length : Int) := by have := HB.out; have := HQ.out; omega
  clear z0 z1 z2 z3
  refine start_ (n := 11) (S := fun w' => w'.cell? ⟨gm, 0, none⟩ = some (.slice (some ⟨gt, 0, none⟩) tt.length ct) ∧ w'.cell? ⟨ga, ps.length * 4 + 1, none⟩ = some (.int .i64 (p.beg : Int))) (ds := [10]) #[false, false, false, false, false, false, false, false, false, false, false] (by kernel_rfl) rfl rfl ⟨c0, c1⟩ (fun hHeld => ?_)
  refine pure_ (i := 0) (N := some 31) (v := ?_) (a' := ?_) #[true, false, false, false, false, false, false, false, false, false, false] rfl rfl (by kernel_rfl) (fun _ _ _ h => h) (Or.inl ⟨by rfl, ?_⟩) ?_ ?_
  rotate_left
  · intro w'
    go_simp
    with_reducible rfl
  rotate_left
  · simp only [Act.put, List.setIfInBounds_toArray, List.set_cons_zero, List.set_cons_succ, i64_w, i32_w]
    rfl
  refine pure_ (i := 1) (N := some 32) (v := ?_) (a' := ?_) #[true, true, false, false, false, false, false, false, false, false, false] rfl rfl (by kernel_rfl) (fun _ _ _ h => h) (Or.inl ⟨by rfl, ?_⟩) ?_ ?_
  rotate_left
  · intro w'
    go_simp
    with_reducible rfl
  rotate_left
  · simp only [Act.put, List.setIfInBounds_toArray, List.set_cons_zero, List.set_cons_succ, i64_w, i32_w]
    rfl
  refine pure_ (i := 2) (N := some 33) (v := ?_) (a' := ?_) #[true, true, true, false, false, false, false, false, false, false, false] rfl rfl (by kernel_rfl) (fun _ _ _ h => h) (Or.inl ⟨by rfl, ?_⟩) ?_ ?_
  rotate_left
  · intro w'
    go_simp
    with_reducible rfl
  rotate_left
  · simp only [Act.put, List.setIfInBounds_toArray, List.set_cons_zero, List.set_cons_succ, i64_w, i32_w]
    rfl
  refine pure_ (i := 4) (N := some 35) (v := ?_) (a' := ?_) #[true, true, true, false, true, false, false, false, false, false, false] rfl rfl (by kernel_rfl) (fun _ _ _ h => h) (Or.inl ⟨by rfl, ?_⟩) ?_ ?_
  rotate_left
  · intro w'
    go_simp
    with_reducible rfl
  rotate_left
  · simp only [Act.put, List.setIfInBounds_toArray, List.set_cons_zero, List.set_cons_succ, i64_w, i32_w]
    rfl
  refine pure_ (i := 5) (N := some 36) (v := ?_) (a' := ?_) #[true, true, true, false, true, true, false, false, false, false, false] rfl rfl (by kernel_rfl) (fun _ _ _ h => h) (Or.inl ⟨by rfl, ?_⟩) ?_ ?_
  rotate_left
  · intro w'
    go_simp
    with_reducible rfl
  rotate_left
  · simp only [Act.put, List.setIfInBounds_toArray, List.set_cons_zero, List.set_cons_succ, i64_w, i32_w]
    rfl
  refine pure_ (i := 6) (N := some 37) (v := ?_) (a' := ?_) #[true, true, true, false, true, true, true, false, false, false, false] rfl rfl (by kernel_rfl) (fun _ _ _ h => h) (Or.inl ⟨by rfl, ?_⟩) ?_ ?_
  rotate_left
  · intro w'
    go_simp
    with_reducible rfl
  rotate_left
  · simp only [Act.put, List.setIfInBounds_toArray, List.set_cons_zero, List.set_cons_succ, i64_w, i32_w]
    rfl
  refine pure_ (i := 8) (N := some 39) (v := ?_) (a' := ?_) #[true, true, true, false, true, true, true, false, true, false, false] rfl rfl (by kernel_rfl) (fun _ _ _ h => h) (Or.inl ⟨by rfl, ?_⟩) ?_ ?_
  rotate_left
  · intro w'
    go_simp
    with_reducible rfl
  rotate_left
  · simp only [Act.put, List.setIfInBounds_toArray, List.set_cons_zero, List.set_cons_succ, i64_w, i32_w]
    rfl
  refine take_ (i := 3) (N := some 34) (v := ?_) (a' := ?_) #[true, true, true, true, true, true, true, false, true, false, false] rfl rfl (by kernel_rfl) (fun _ _ _ h => h) (Or.inl ⟨by rfl, ?_⟩) hHeld ?_ ?_
  rotate_left
  · rintro w' ⟨s0, s1⟩
    go_simp
    with_reducible rfl
  rotate_left
  · simp only [Act.put, List.setIfInBounds_toArray, List.set_cons_zero, List.set_cons_succ, i64_w, i32_w]
    rfl
  refine take_ (i := 7) (N := some 38) (v := ?_) (a' := ?_) #[true, true, true, true, true, true, true, true, true, false, false] rfl rfl (by kernel_rfl) (fun _ _ _ h => h) (Or.inl ⟨by rfl, ?_⟩) hHeld ?_ ?_
  rotate_left
  · rintro w' ⟨s0, s1⟩
    go_simp
    with_reducible rfl
  rotate_left
  · simp only [Act.put, List.setIfInBounds_toArray, List.set_cons_zero, List.set_cons_succ, i64_w, i32_w]
    rfl
  refine pure_ (i := 9) (N := some 40) (v := ?_) (a' := ?_) #[true, true, true, true, true, true, true, true, true, true, false] rfl rfl (by kernel_rfl) (fun _ _ _ h => h) (Or.inl ⟨by rfl, ?_⟩) ?_ ?_
  rotate_left
  · intro w'
    go_simp
    with_reducible rfl
  rotate_left
  · simp only [Act.put, List.setIfInBounds_toArray, List.set_cons_zero, List.set_cons_succ, i64_w, i32_w]
    rfl
  refine last_ (i := 10) (N := none) #[true, true, true, true, true, true, true, true, true, true, true] rfl rfl (by kernel_rfl) (by decide) (fun K hK => ?_)
  refine skip_ (w1 := ?_) (by rfl) rfl ?_ ?_
  rotate_left
  · go_simp
    rfl
  refine hK.out _ _ ?_
  clear hK K
  refine done_ (by kernel_rfl) ?_
  have B2 := Aside0.mk ((Sep.pull [_] B1.out).putRow (enc := Value.int .i64) p.beg (i : Int)).drew
  obtain ⟨w2, hw2⟩ : ∃ x, (w1.setCell ⟨gt, p.beg, none⟩ (.int .i64 (i : Int))).drew = x := ⟨_, rfl⟩
  rw [hw2] at B2 ⊢
  clear hw2 c0 c1 f1 f2 hit hi1
  have B3 : Aside0 (Sep w0 w2 (MtS gm (.slice (some ⟨gt, 0, none⟩) tt.length ct) (.slice (some ⟨ga, 0, none⟩) N c) (tt.set p.beg (i : Int)) ps p deep vs v F)) := ⟨Sep.push [_] B2.out⟩
  have d1 : w2.drew.cell? ⟨gm, 1, none⟩ = some (.slice (some ⟨ga, 0, none⟩) N c) := (Sep.cell (show Sep w0 w2.drew (Blk gm 69 #[_, .slice (some ⟨ga, 0, none⟩) N c, _] :: _) from B3.out.drew) 1).trans rfl
  have d2 : w2.drew.frozen? ⟨gm, 1, none⟩ = false := Sep.frozen (show Sep w0 w2.drew (Blk gm 69 #[_, .slice (some ⟨ga, 0, none⟩) N c, _] :: _) from B3.out.drew) 1
  go_wp2_with fail
  refine start_ (n := 15) (S := fun w' => w'.cell? ⟨gm, 1, none⟩ = some (.slice (some ⟨ga, 0, none⟩) N c)) (ds := [14]) #[false, false, false, false, false, false, false, false, false, false, false, false, false, false, false] (by kernel_rfl) rfl rfl (d1) (fun hHeld => ?_)
  refine pure_ (i := 0) (N := some 41) (v := ?_) (a' := ?_) #[true, false, false, false, false, false, false, false, false, false, false, false, false, false, false] rfl rfl (by kernel_rfl) (fun _ _ _ h => h) (Or.inl ⟨by rfl, ?_⟩) ?_ ?_
  rotate_left
  · intro w'
    go_simp
    with_reducible rfl
  rotate_left
  · simp only [Act.put, List.setIfInBounds_toArray, List.set_cons_zero, List.set_cons_succ, i64_w, i32_w]
    rfl
  refine pure_ (i := 1) (N := some 42) (v := ?_) (a' := ?_) #[true, true, false, false, false, false, false, false, false, false, false, false, false, false, false] rfl rfl (by kernel_rfl) (fun _ _ _ h => h) (Or.inl ⟨by rfl, ?_⟩) ?_ ?_
  rotate_left
  · intro w'
    go_simp
    with_reducible rfl
  rotate_left
  · simp only [Act.put, List.setIfInBounds_toArray, List.set_cons_zero, List.set_cons_succ, i64_w, i32_w]
    rfl
  refine pure_ (i := 2) (N := some 43) (v := ?_) (a' := ?_) #[true, true, true, false, false, false, false, false, false, false, false, false, false, false, false] rfl rfl (by kernel_rfl) (fun _ _ _ h => h) (Or.inl ⟨by rfl, ?_⟩) ?_ ?_
  rotate_left
  · intro w'
    go_simp
    with_reducible rfl
  rotate_left
  · simp only [Act.put, List.setIfInBounds_toArray, List.set_cons_zero, List.set_cons_succ, i64_w, i32_w]
    rfl
  refine pure_ (i := 3) (N := some 44) (v := ?_) (a' := ?_) #[true, true, true, true, false, false, false, false, false, false, false, false, false, false, false] rfl rfl (by kernel_rfl) (fun _ _ _ h => h) (Or.inl ⟨by rfl, ?_⟩) ?_ ?_
  rotate_left
  · intro w'
    go_simp
    with_reducible rfl
  rotate_left
  · simp only [Act.put, List.setIfInBounds_toArray, List.set_cons_zero, List.set_cons_succ, i64_w, i32_w]
    rfl
  refine pure_ (i := 5) (N := some 46) (v := ?_) (a' := ?_) #[true, true, true, true, false, true, false, false, false, false, false, false, false, false, false] rfl rfl (by kernel_rfl) (fun _ _ _ h => h) (Or.inl ⟨by rfl, ?_⟩) ?_ ?_
  rotate_left
  · intro w'
    go_simp
    with_reducible rfl
  rotate_left
  · simp only [Act.put, List.setIfInBounds_toArray, List.set_cons_zero, List.set_cons_succ, i64_w, i32_w]
    rfl
  refine pure_ (i := 6) (N := some 47) (v := ?_) (a' := ?_) #[true, true, true, true, false, true, true, false, false, false, false, false, false, false, false] rfl rfl (by kernel_rfl) (fun _ _ _ h => h) (Or.inl ⟨by rfl, ?_⟩) ?_ ?_
  rotate_left
  · intro w'
    go_simp
    with_reducible rfl
  rotate_left
  · simp only [Act.put, List.setIfInBounds_toArray, List.set_cons_zero, List.set_cons_succ, i64_w, i32_w]
    rfl
  refine pure_ (i := 7) (N := some 48) (v := ?_) (a' := ?_) #[true, true, true, true, false, true, true, true, false, false, false, false, false, false, false] rfl rfl (by kernel_rfl) (fun _ _ _ h => h) (Or.inl ⟨by rfl, ?_⟩) ?_ ?_
  rotate_left
  · intro w'
    go_simp
    with_reducible rfl
  rotate_left
  · simp only [Act.put, List.setIfInBounds_toArray, List.set_cons_zero, List.set_cons_succ, i64_w, i32_w]
    rfl
  refine take_ (i := 4) (N := some 45) (v := ?_) (a' := ?_) #[true, true, true, true, true, true, true, true, false, false, false, false, false, false, false] rfl rfl (by kernel_rfl) (fun _ _ _ h => h) (Or.inl ⟨by rfl, ?_⟩) hHeld ?_ ?_
  rotate_left
  · intro w' s0
    go_simp
    with_reducible rfl
  rotate_left
  · simp only [Act.put, List.setIfInBounds_toArray, List.set_cons_zero, List.set_cons_succ, i64_w, i32_w]
    rfl
  refine take_ (i := 8) (N := some 49) (v := ?_) (a' := ?_) #[true, true, true, true, true, true, true, true, true, false, false, false, false, false, false] rfl rfl (by kernel_rfl) (fun _ _ _ h => h) (Or.inl ⟨by rfl, ?_⟩) hHeld ?_ ?_
  rotate_left
  · intro w' s0
    go_simp
    with_reducible rfl
  rotate_left
  · simp only [Act.put, List.setIfInBounds_toArray, List.set_cons_zero, List.set_cons_succ, i64_w, i32_w]
    rfl
  refine pure_ (i := 9) (N := some 50) (v := ?_) (a' := ?_) #[true, true, true, true, true, true, true, true, true, true, false, false, false, false, false] rfl rfl (by kernel_rfl) (fun _ _ _ h => h) (Or.inl ⟨by rfl, ?_⟩) ?_ ?_
  rotate_left
  · intro w'
    go_simp
    with_reducible rfl
  rotate_left
  · simp only [Act.put, List.setIfInBounds_toArray, List.set_cons_zero, List.set_cons_succ, i64_w, i32_w]
    rfl
  refine pure_ (i := 10) (N := some 51) (v := ?_) (a' := ?_) #[true, true, true, true, true, true, true, true, true, true, true, false, false, false, false] rfl rfl (by kernel_rfl) (fun _ _ _ h => h) (Or.inl ⟨by rfl, ?_⟩) ?_ ?_
  rotate_left
  · intro w'
    go_simp
    with_reducible rfl
  rotate_left
  · simp only [Act.put, List.setIfInBounds_toArray, List.set_cons_zero, List.set_cons_succ, i64_w, i32_w]
    rfl
  refine pure_ (i := 11) (N := some 52) (v := ?_) (a' := ?_) #[true, true, true, true, true, true, true, true, true, true, true, true, false, false, false] rfl rfl (by kernel_rfl) (fun _ _ _ h => h) (Or.inl ⟨by rfl, ?_⟩) ?_ ?_
  rotate_left
  · intro w'
    go_simp
    with_reducible rfl
  rotate_left
  · simp only [Act.put, List.setIfInBounds_toArray, List.set_cons_zero, List.set_cons_succ, i64_w, i32_w]
    rfl
  refine pure_ (i := 12) (N := some 53) (v := ?_) (a' := ?_) #[true, true, true, true, true, true, true, true, true, true, true, true, true, false, false] rfl rfl (by kernel_rfl) (fun _ _ _ h => h) (Or.inl ⟨by rfl, ?_⟩) ?_ ?_
  rotate_left
  · intro w'
    go_simp
    with_reducible rfl
  rotate_left
  · simp only [Act.put, List.setIfInBounds_toArray, List.set_cons_zero, List.set_cons_succ, i64_w, i32_w]
    rfl
  refine pure_ (i := 13) (N := some 54) (v := ?_) (a' := ?_) #[true, true, true, true, true, true, true, true, true, true, true, true, true, true, false] rfl rfl (by kernel_rfl) (fun _ _ _ h => h) (Or.inl ⟨by rfl, ?_⟩) ?_ ?_
  rotate_left
  · intro w'
    go_simp
    with_reducible rfl
  rotate_left
  · simp only [Act.put, List.setIfInBounds_toArray, List.set_cons_zero, List.set_cons_succ, i64_w, i32_w]
    rfl
  refine last_ (i := 14) (N := none) #[true, true, true, true, true, true, true, true, true, true, true, true, true, true, true] rfl rfl (by kernel_rfl) (by decide) (fun K hK => ?_)
  refine skip_ (w1 := ?_) (by rfl) rfl ?_ ?_
  rotate_left
  · go_simp
    rfl
  refine hK.out _ _ ?_
  clear hK K
  refine done_ (by kernel_rfl) ?_
  have B4 := Aside0.mk (popFin HV.out B3.out)
  go_wp2_with fail
  go_ret
  exact ⟨by first | rfl | (simp; done), _, B4.out.drew⟩
end
end Go.Proofs.Ytkkgfpdjlohojaa.Nest
