/- Package nest: a part begins. -/
import Derived.Test.YtkkgfpdjlohojaaNest1
namespace Go.Proofs.Ytkkgfpdjlohojaa.Nest
set_option linter.unusedVariables false
set_option linter.unusedSimpArgs false
open Go.RowKit Go.Proofs.YtkkgfpdjlohojaaW.PrintWords Go.Proofs.YtkkgfpdjlohojaaW.PrintLast Go.Proofs.YtkkgfpdjlohojaaW.PrintMore Go.Proofs.Ytkkgfpdjlohojaa.Kit
open Go.Proofs.Ytkkgfpdjlohojaa.NestP
theorem infoPart : (Try.prog.info? 92).map (fun i => (i.zero, i.size, i.bytes)) = some (some (.agg #[.bool false, .int .i64 0, .int .i64 0, .slice none 0 0]), 4, 48) := by kernel_rfl
theorem one_raw {cl : List Value} {W : World} (hs : cl.length = 4) (h1 : ∀ u ∈ cl, u.oneCell' = true) : Reps ((Kd.raw 4).M W W.heap.size (fun _ => False)) (Kd.raw 4).sz [cl] cl :=
  ⟨by rw [List.length_singleton, Nat.one_mul]; exact hs, fun j c hj => by
    match j, hj with
    | 0, hj =>
      cases hj
      rw [Nat.zero_mul, List.drop_zero, List.take_of_length_le (by show cl.length ≤ 4; omega)]
      exact ⟨rfl, hs, h1⟩⟩
section
variable {w0 W : World} {F : List HP} {gm : Nat} {vt vo : Value} {tt : List Int} {ps : List Pt} {deep : Nat} {vs : List Value}
/-- The resources in their order again. -/
theorem fin_ {v7 : Value} {d m : Nat} {lp : Bool} {i : Nat} (hm : m = d) (hv : vs.length = ps.length) (h : Sep w0 W (Blk gm 69 #[vt, v7, .int .i64 (d : Int)] :: Row (Kd.raw 4) 92 v7 (rawC ps vs ++ [cellsP ⟨lp, i, 0, []⟩ (.slice none 0 0)]) :: Row I64 3 vt tt :: (lvR ps vs ++ F))) :
    Sep w0 W (MtL gm vt v7 tt (ps ++ [⟨lp, i, 0, []⟩]) m (vs ++ [.slice none 0 0]) ++ F) := by
  subst hm
  have h2 := (Sep.pull [_] (Sep.pull [_, _] h)).nilRow I64 3
  have h3 := Sep.push (Blk gm 69 #[vt, v7, .int .i64 (m : Int)] :: Row I64 3 vt tt :: Row (Kd.raw 4) 92 v7 (rawC ps vs ++ [cellsP ⟨lp, i, 0, []⟩ (.slice none 0 0)]) :: lvR ps vs) h2
  unfold MtL
  rw [rawC_app ps _ vs _ hv, lvR_app ps _ vs _ hv, List.cons_append, List.cons_append, List.cons_append, List.append_assoc]
  exact h3
set_option maxHeartbeats 1600000 in
set_option maxRecDepth 100000 in
theorem begin_ (h : Sep w0 W (MtL gm vt vo tt ps deep vs ++ F)) (hv : vs.length = ps.length) (hl : ps.length ≤ 1000) (lp : Bool) (i : Nat) :
    Calls Try.prog 40 #[.pointer (some ⟨gm, 0, none⟩), .int .i64 (i : Int), .bool lp] W fun e w' => e = .returned (.bool (decide (ps.length < 16))) ∧ ∃ vo2, Sep w0 w' (MtL gm vt vo2 tt (ps ++ [⟨lp, i, 0, []⟩]) (max deep (ps.length + 1)) (vs ++ [.slice none 0 0]) ++ F) := by
  have hrl := rawC_len ps vs hv
  have h1 : Sep w0 W (Row (Kd.raw 4) 92 vo (rawC ps vs) :: Blk gm 69 #[vt, vo, .int .i64 (deep : Int)] :: Row I64 3 vt tt :: (lvR ps vs ++ F)) := Sep.pull [_, _] h
  have z1 := (h1.at2.cell 1).trans rfl
  have h2 := h1.newLit (d := Kd.raw 4) (xs := [cellsP ⟨lp, i, 0, []⟩ (.slice none 0 0)]) (inner := cellsP ⟨lp, i, 0, []⟩ (.slice none 0 0)) (e := 92) (one_raw rfl (by
    intro u hu
    simp only [cellsP, List.mem_cons, List.not_mem_nil, or_false] at hu
    rcases hu with rfl | rfl | rfl | rfl <;> rfl)) (by simp)
  have L : Aside0 (Sep w0 (W.alloc (.cells #[.bool lp, .int .i64 (i : Int), .int .i64 0, .slice none 0 0] 92)) (Row (Kd.raw 4) 92 vo (rawC ps vs) :: Row (Kd.raw 4) 92 (.slice (some ⟨W.heap.size, 0, none⟩) 1 1) [cellsP ⟨lp, i, 0, []⟩ (.slice none 0 0)] :: Blk gm 69 #[vt, vo, .int .i64 (deep : Int)] :: Row I64 3 vt tt :: (lvR ps vs ++ F))) := ⟨h2.at2⟩
  have HRL := Aside0.mk (And.intro hrl (And.intro hl hv))
  clear h h1 h2 hrl hl hv
  go_enter Try.func40, Try.ntmps40
  go_wp2_with (first | (refine gate_builtin (b := .append) (xs := #[.tmp 11, .tmp 15]) rfl ?_; go_loud (refine L.out.appendRaw rfl (.tmp 11) (.tmp 15) 67 (.agg #[.bool false, .int .i64 0, .int .i64 0, .slice none 0 0]) 48 rfl Try.underlying67 infoPart rfl (by decide) (by decide) (some ⟨W.heap.size, 0, none⟩) 1 1 rfl rfl L.out.at2.rowC' (by rw [HRL.out.1]; have := HRL.out.2.1; simp; omega) ?_; intro v7 w7 hS7; obtain ⟨A7, c7, rfl⟩ := hS7.rowN (n := ps.length + 1) (by rw [List.length_append, HRL.out.1]; rfl); have z7 := (hS7.at3.cell 1).trans rfl; have f7 := hS7.at3.frozen 1; have B7 := Aside0.mk (hS7.at3.setBlk 1 (.slice A7 (ps.length + 1) c7)); clear hS7)))
  obtain ⟨w8, hw8⟩ : ∃ x, w7.setCell ⟨gm, 1, none⟩ (.slice A7 (ps.length + 1) c7) = x := ⟨_, rfl⟩
  rw [hw8] at B7 ⊢
  clear hw8 z7 f7 z1 L
  have BD := Aside0.mk B7.out.drew
  have f8 := BD.out.frozen 2
  have HV : Aside0 (vs.length = ps.length) := ⟨HRL.out.2.2⟩
  obtain ⟨M, hM⟩ : ∃ M, max deep (ps.length + 1) = M := ⟨_, rfl⟩
  have hmx : (if (deep : Int) < (ps.length : Int) + 1 then (ps.length : Int) + 1 else (deep : Int)) = (M : Int) := by split <;> omega
  have HM := Aside0.mk hM
  have HV : Aside0 (vs.length = ps.length) := ⟨HRL.out.2.2⟩
  clear hM
  refine start_ (n := 14) (S := fun w' => w'.cell? ⟨gm, 2, none⟩ = some (.int .i64 (deep : Int)) ∧ w'.cell? ⟨gm, 1, none⟩ = some (.slice A7 (ps.length + 1) c7)) (ds := [13]) #[false, false, false, false, false, false, false, false, false, false, false, false, false, false] (by kernel_rfl) rfl rfl ⟨(BD.out.cell 2).trans rfl, (BD.out.cell 1).trans rfl⟩ (fun hHeld => ?_)
  refine pure_ (i := 0) (N := some 19) (v := ?_) (a' := ?_) #[true, false, false, false, false, false, false, false, false, false, false, false, false, false] rfl rfl (by kernel_rfl) (fun _ _ _ h => h) (Or.inl ⟨by rfl, ?_⟩) ?_ ?_
  rotate_left
  · intro w'
    go_simp
    with_reducible rfl
  rotate_left
  · simp only [Act.put, List.setIfInBounds_toArray, List.set_cons_zero, List.set_cons_succ, i64_w, i32_w]
    rfl
  refine pure_ (i := 1) (N := some 20) (v := ?_) (a' := ?_) #[true, true, false, false, false, false, false, false, false, false, false, false, false, false] rfl rfl (by kernel_rfl) (fun _ _ _ h => h) (Or.inl ⟨by rfl, ?_⟩) ?_ ?_
  rotate_left
  · intro w'
    go_simp
    with_reducible rfl
  rotate_left
  · simp only [Act.put, List.setIfInBounds_toArray, List.set_cons_zero, List.set_cons_succ, i64_w, i32_w]
    rfl
  refine pure_ (i := 2) (N := some 21) (v := ?_) (a' := ?_) #[true, true, true, false, false, false, false, false, false, false, false, false, false, false] rfl rfl (by kernel_rfl) (fun _ _ _ h => h) (Or.inl ⟨by rfl, ?_⟩) ?_ ?_
  rotate_left
  · intro w'
    go_simp
    with_reducible rfl
  rotate_left
  · simp only [Act.put, List.setIfInBounds_toArray, List.set_cons_zero, List.set_cons_succ, i64_w, i32_w]
    rfl
  refine pure_ (i := 3) (N := some 22) (v := ?_) (a' := ?_) #[true, true, true, true, false, false, false, false, false, false, false, false, false, false] rfl rfl (by kernel_rfl) (fun _ _ _ h => h) (Or.inl ⟨by rfl, ?_⟩) ?_ ?_
  rotate_left
  · intro w'
    go_simp
    with_reducible rfl
  rotate_left
  · simp only [Act.put, List.setIfInBounds_toArray, List.set_cons_zero, List.set_cons_succ, i64_w, i32_w]
    rfl
  refine pure_ (i := 5) (N := some 24) (v := ?_) (a' := ?_) #[true, true, true, true, false, true, false, false, false, false, false, false, false, false] rfl rfl (by kernel_rfl) (fun _ _ _ h => h) (Or.inl ⟨by rfl, ?_⟩) ?_ ?_
  rotate_left
  · intro w'
    go_simp
    with_reducible rfl
  rotate_left
  · simp only [Act.put, List.setIfInBounds_toArray, List.set_cons_zero, List.set_cons_succ, i64_w, i32_w]
    rfl
  refine pure_ (i := 6) (N := some 25) (v := ?_) (a' := ?_) #[true, true, true, true, false, true, true, false, false, false, false, false, false, false] rfl rfl (by kernel_rfl) (fun _ _ _ h => h) (Or.inl ⟨by rfl, ?_⟩) ?_ ?_
  rotate_left
  · intro w'
    go_simp
    with_reducible rfl
  rotate_left
  · simp only [Act.put, List.setIfInBounds_toArray, List.set_cons_zero, List.set_cons_succ, i64_w, i32_w]
    rfl
  refine pure_ (i := 7) (N := some 26) (v := ?_) (a' := ?_) #[true, true, true, true, false, true, true, true, false, false, false, false, false, false] rfl rfl (by kernel_rfl) (fun _ _ _ h => h) (Or.inl ⟨by rfl, ?_⟩) ?_ ?_
  rotate_left
  · intro w'
    go_simp
    with_reducible rfl
  rotate_left
  · simp only [Act.put, List.setIfInBounds_toArray, List.set_cons_zero, List.set_cons_succ, i64_w, i32_w]
    rfl
  refine take_ (i := 4) (N := some 23) (v := ?_) (a' := ?_) #[true, true, true, true, true, true, true, true, false, false, false, false, false, false] rfl rfl (by kernel_rfl) (fun _ _ _ h => h) (Or.inl ⟨by rfl, ?_⟩) hHeld ?_ ?_
  rotate_left
  · rintro w' ⟨s0, s1⟩
    go_simp
    with_reducible rfl
  rotate_left
  · simp only [Act.put, List.setIfInBounds_toArray, List.set_cons_zero, List.set_cons_succ, i64_w, i32_w]
    rfl
  refine take_ (i := 8) (N := some 27) (v := ?_) (a' := ?_) #[true, true, true, true, true, true, true, true, true, false, false, false, false, false] rfl rfl (by kernel_rfl) (fun _ _ _ h => h) (Or.inl ⟨by rfl, ?_⟩) hHeld ?_ ?_
  rotate_left
  · rintro w' ⟨s0, s1⟩
    go_simp
    with_reducible rfl
  rotate_left
  · simp only [Act.put, List.setIfInBounds_toArray, List.set_cons_zero, List.set_cons_succ, i64_w, i32_w]
    rfl
  refine pure_ (i := 9) (N := some 28) (v := ?_) (a' := ?_) #[true, true, true, true, true, true, true, true, true, true, false, false, false, false] rfl rfl (by kernel_rfl) (fun _ _ _ h => h) (Or.inl ⟨by rfl, ?_⟩) ?_ ?_
  rotate_left
  · intro w'
    go_simp
    with_reducible rfl
  rotate_left
  · simp only [Act.put, List.setIfInBounds_toArray, List.set_cons_zero, List.set_cons_succ, i64_w, i32_w]
    rfl
  refine pure_ (i := 10) (N := some 29) (v := ?_) (a' := ?_) #[true, true, true, true, true, true, true, true, true, true, true, false, false, false] rfl rfl (by kernel_rfl) (fun _ _ _ h => h) (Or.inl ⟨by rfl, ?_⟩) ?_ ?_
  rotate_left
  · intro w'
    go_simp
    with_reducible rfl
  rotate_left
  · simp only [Act.put, List.setIfInBounds_toArray, List.set_cons_zero, List.set_cons_succ, i64_w, i32_w]
    rfl
  refine pure_ (i := 11) (N := some 30) (v := ?_) (a' := ?_) #[true, true, true, true, true, true, true, true, true, true, true, true, false, false] rfl rfl (by kernel_rfl) (fun _ _ _ h => h) (Or.inl ⟨by rfl, ?_⟩) ?_ ?_
  rotate_left
  · intro w'
    go_simp
    with_reducible rfl
  rotate_left
  · simp only [Act.put, List.setIfInBounds_toArray, List.set_cons_zero, List.set_cons_succ, i64_w, i32_w]
    rfl
  refine pure_ (i := 12) (N := some 31) (v := ?_) (a' := ?_) #[true, true, true, true, true, true, true, true, true, true, true, true, true, false] rfl rfl (by kernel_rfl) (fun _ _ _ h => h) (Or.inl ⟨by rfl, ?_⟩) ?_ ?_
  rotate_left
  · intro w'
    go_simp
    with_reducible rfl
  rotate_left
  · simp only [Act.put, List.setIfInBounds_toArray, List.set_cons_zero, List.set_cons_succ, i64_w, i32_w]
    rfl
  refine last_ (i := 13) (N := none) #[true, true, true, true, true, true, true, true, true, true, true, true, true, true] rfl rfl (by kernel_rfl) (by decide) (fun K hK => ?_)
  refine skip_ (w1 := ?_) (by rfl) rfl ?_ ?_
  rotate_left
  · go_simp
    rfl
  refine hK.out _ _ ?_
  clear hK K
  refine done_ (by kernel_rfl) ?_
  have B9 := Aside0.mk (B7.out.setBlk 2 (.int .i64 (M : Int))).drew
  obtain ⟨w9, hw9⟩ : ∃ x, (w8.setCell ⟨gm, 2, none⟩ (.int .i64 (M : Int))).drew = x := ⟨_, rfl⟩
  rw [hw9] at B9 ⊢
  have z9 : w9.cell? ⟨gm, 1, none⟩ = some (.slice A7 (ps.length + 1) c7) := (B9.out.cell 1).trans rfl
  clear hw9 hmx
  have HD : Aside0 (decide ((ps.length : Int) + 1 ≤ 16) = decide (ps.length < 16)) := ⟨decide_eq_decide.2 (by omega)⟩
  go_wp2_with fail
  go_ret
  exact ⟨by rw [HD.out]; rfl, _, fin_ HM.out HV.out (Sep.pull [_, _] B9.out).tail⟩
end
end Go.Proofs.Ytkkgfpdjlohojaa.Nest
