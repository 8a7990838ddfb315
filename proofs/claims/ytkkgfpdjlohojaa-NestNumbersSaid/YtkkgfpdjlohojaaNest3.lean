/- Package nest: cells of a part; a : between. -/
import Derived.Test.YtkkgfpdjlohojaaNest2
import Derived.Test.YtkkgfpdjlohojaaElem
import Derived.Deep.QuietTactic
import Derived.Deep.RegionWith
namespace Go.Proofs.Ytkkgfpdjlohojaa.Nest
set_option linter.unusedVariables false
set_option linter.unusedSimpArgs false
open Go.RowKit Go.Proofs.YtkkgfpdjlohojaaW.PrintWords Go.Proofs.YtkkgfpdjlohojaaW.PrintLast Go.Proofs.YtkkgfpdjlohojaaW.PrintMore Go.Proofs.Ytkkgfpdjlohojaa.Kit
open Go.Proofs.Ytkkgfpdjlohojaa.NestP
theorem rawAt {w0 W : World} {F : List HP} {sz T ga N c k : Nat} {xs : List (List Value)} {cl : List Value} (h : Sep w0 W (Row (Kd.raw sz) T (.slice (some ⟨ga, 0, none⟩) N c) xs :: F)) (hk : xs[k]? = some cl) :
    (∀ q u, cl[q]? = some u → W.cell? ⟨ga, k * sz + q, none⟩ = some u) ∧ ∀ q, W.frozen? ⟨ga, q, none⟩ = false := by
  obtain ⟨hN, hc, hC⟩ := h.rowC
  have hkl : k < xs.length := (List.getElem?_eq_some_iff.1 hk).1
  constructor
  · intro q u hu
    obtain ⟨hx, a, cs, ha, hK, h0, hj⟩ := elem_ hC hkl
    cases ha
    have hK1 : cs = xs[k] := hK.1
    have hcl : xs[k] = cl := by rw [List.getElem?_eq_getElem hkl] at hk; exact Option.some.inj hk
    rw [hcl] at hK1
    subst hK1
    have e1 : (Kd.raw sz).sz = sz := rfl
    rw [e1, add_plain] at h0 hj
    rcases Nat.eq_zero_or_pos q with rfl | hq
    · exact h0 u hu
    · exact hj q u hq hu
  · intro q
    obtain ⟨ok, hr⟩ := h.row
    obtain ⟨inner, ho, _⟩ := hr.2
    obtain ⟨cells, hcell⟩ := own_typed ho ga (by simp [Value.ownBlock])
    simp [World.frozen?, hcell]
section
variable {w0 W : World} {F : List HP} {gm : Nat} {vt vo v : Value} {tt : List Int} {ps : List Pt} {p : Pt} {deep : Nat} {vs : List Value}
/-- A matcher with a part that is open, told one by one. -/
def MtS (gm : Nat) (vt vo : Value) (tt : List Int) (ps : List Pt) (p : Pt) (deep : Nat) (vs : List Value) (v : Value) (F : List HP) : List HP :=
  Blk gm 69 #[vt, vo, .int .i64 (deep : Int)] :: Row I64 3 vt tt :: Row (Kd.raw 4) 92 vo (rawC ps vs ++ [cellsP p v]) :: Row I64 3 v (p.lvs.map (fun k : Nat => (k : Int))) :: (lvR ps vs ++ F)
theorem mts (hv : vs.length = ps.length) (h : Sep w0 W (MtL gm vt vo tt (ps ++ [p]) deep (vs ++ [v]) ++ F)) : Sep w0 W (MtS gm vt vo tt ps p deep vs v F) := by
  unfold MtL at h
  rw [rawC_app ps _ vs _ hv, lvR_app ps _ vs _ hv, List.cons_append, List.cons_append, List.cons_append, List.append_assoc] at h
  exact Sep.push [_, _, _] (Sep.pull (Blk gm 69 #[vt, vo, .int .i64 (deep : Int)] :: Row I64 3 vt tt :: Row (Kd.raw 4) 92 vo (rawC ps vs ++ [cellsP p v]) :: lvR ps vs) h)
theorem stm (hv : vs.length = ps.length) (h : Sep w0 W (MtS gm vt vo tt ps p deep vs v F)) : Sep w0 W (MtL gm vt vo tt (ps ++ [p]) deep (vs ++ [v]) ++ F) := by
  have h3 := Sep.push (Blk gm 69 #[vt, vo, .int .i64 (deep : Int)] :: Row I64 3 vt tt :: Row (Kd.raw 4) 92 vo (rawC ps vs ++ [cellsP p v]) :: lvR ps vs) (Sep.pull [_, _, _] h)
  unfold MtL
  rw [rawC_app ps _ vs _ hv, lvR_app ps _ vs _ hv, List.cons_append, List.cons_append, List.cons_append, List.append_assoc]
  exact h3
theorem topRow {hv : vs.length = ps.length} (h : Sep w0 W (MtS gm vt vo tt ps p deep vs v F)) : ∃ ga c, vo = .slice (some ⟨ga, 0, none⟩) (ps.length + 1) c := by
  have h2 : Sep w0 W (Row (Kd.raw 4) 92 vo (rawC ps vs ++ [cellsP p v]) :: _) := Sep.pull [_, _] h
  exact h2.rowFormN (by rw [List.length_append, rawC_len ps vs hv]; rfl) (by omega)
/-- The cells of the part that is open innermost. -/
theorem topCell {ga c : Nat} (hv : vs.length = ps.length) (h : Sep w0 W (MtS gm vt (.slice (some ⟨ga, 0, none⟩) (ps.length + 1) c) tt ps p deep vs v F)) :
    W.cell? ⟨ga, ps.length * 4, none⟩ = some (.bool p.loop) ∧ W.cell? ⟨ga, ps.length * 4 + 1, none⟩ = some (.int .i64 (p.beg : Int)) ∧ W.cell? ⟨ga, ps.length * 4 + 2, none⟩ = some (.int .i64 (p.oth : Int)) ∧ W.cell? ⟨ga, ps.length * 4 + 3, none⟩ = some v ∧ ∀ q, W.frozen? ⟨ga, q, none⟩ = false := by
  have h2 : Sep w0 W (Row (Kd.raw 4) 92 (.slice (some ⟨ga, 0, none⟩) (ps.length + 1) c) (rawC ps vs ++ [cellsP p v]) :: _) := Sep.pull [_, _] h
  obtain ⟨h3, h4⟩ := rawAt (k := ps.length) (cl := cellsP p v) h2 (by rw [List.getElem?_append_right (by rw [rawC_len ps vs hv]; omega), rawC_len ps vs hv, Nat.sub_self]; rfl)
  exact ⟨h3 0 _ rfl, h3 1 _ rfl, h3 2 _ rfl, h3 3 _ rfl, h4⟩
/-- A cell of it is turned. -/
theorem topPut {ga c q : Nat} {u : Value} {p2 : Pt} (hv : vs.length = ps.length) (h : Sep w0 W (MtS gm vt (.slice (some ⟨ga, 0, none⟩) (ps.length + 1) c) tt ps p deep vs v F)) (hq : q < 4) (hu : u.oneCell' = true) (hc : (cellsP p v).set q u = cellsP p2 v) (hl : p2.lvs = p.lvs) :
    Sep w0 (W.setCell ⟨ga, ps.length * 4 + q, none⟩ u) (MtS gm vt (.slice (some ⟨ga, 0, none⟩) (ps.length + 1) c) tt ps p2 deep vs v F) := by
  have h2 : Sep w0 W (Row (Kd.raw 4) 92 (.slice (some ⟨ga, 0, none⟩) (ps.length + 1) c) (rawC ps vs ++ [cellsP p v]) :: _) := Sep.pull [_, _] h
  have hl2 := rawC_len ps vs hv
  have h3 := h2.putRaw (j := ps.length) (q := q) (u := u) (by rw [List.length_append, hl2]; exact Nat.lt_succ_self _) hq hu
  have e1 : (rawC ps vs ++ [cellsP p v]).getD ps.length [] = cellsP p v := by rw [List.getD_eq_getElem?_getD, List.getElem?_append_right (by omega), hl2, Nat.sub_self]; rfl
  have e2 : (rawC ps vs ++ [cellsP p v]).set ps.length (cellsP p2 v) = rawC ps vs ++ [cellsP p2 v] := by rw [List.set_append_right _ _ (by omega), hl2, Nat.sub_self]; rfl
  rw [e1, hc, e2] at h3
  unfold MtS
  rw [hl]
  exact Sep.push [_, _] h3
theorem topForm (h : Sep w0 W (MtS gm vt vo tt ps p deep vs v F)) (hp : 0 < tt.length) : ∃ gt ct, vt = .slice (some ⟨gt, 0, none⟩) tt.length ct := by
  have h2 : Sep w0 W (Row I64 3 vt tt :: _) := Sep.pull [_] h
  exact h2.rowForm hp
theorem otherPut {ga c : Nat} (hv : vs.length = ps.length) (h : Sep w0 W (MtL gm vt (.slice (some ⟨ga, 0, none⟩) (ps.length + 1) c) tt (ps ++ [p]) deep (vs ++ [v]) ++ F)) (i : Nat) :
    Aside0 (Sep w0 (W.setCell ⟨ga, ps.length * 4 + 2, none⟩ (.int .i64 (i : Int))) (MtS gm vt (.slice (some ⟨ga, 0, none⟩) (ps.length + 1) c) tt ps { p with oth := i } deep vs v F)) :=
  ⟨topPut (p2 := { p with oth := i }) (q := 2) (u := .int .i64 (i : Int)) hv (mts hv h) (by omega) rfl rfl rfl⟩
set_option maxHeartbeats 1600000 in
theorem other_nil (h : Sep w0 W (MtL gm vt vo tt [] deep [] ++ F)) (i : Nat) : Calls Try.prog 41 #[.pointer (some ⟨gm, 0, none⟩), .int .i64 (i : Int)] W fun e w' => e = .returned (.bool false) ∧ W = w' := by
  have H := Aside0.mk h
  clear h
  go_enter Try.func41, Try.ntmps41
  go_wp2_with (go_at_call 46; refine (top_nil H.out).mono ?_; rintro e w1 ⟨rfl, rfl⟩)
  go_ret
  exact ⟨by first | rfl | (simp; done), rfl⟩
set_option maxHeartbeats 1600000 in
theorem other_no (hv : vs.length = ps.length) (h : Sep w0 W (MtL gm vt vo tt (ps ++ [p]) deep (vs ++ [v]) ++ F)) (i : Nat) (hn : p.loop = true ∨ 0 < p.oth) : Calls Try.prog 41 #[.pointer (some ⟨gm, 0, none⟩), .int .i64 (i : Int)] W fun e w' => e = .returned (.bool false) ∧ Sep w0 w' (MtL gm vt vo tt (ps ++ [p]) deep (vs ++ [v]) ++ F) := by
  obtain ⟨ga, c, rfl⟩ := topRow (hv := hv) (mts hv h)
  have H := Aside0.mk h
  have HV := Aside0.mk hv
  clear h hv
  rcases hn with hn | hn
  · go_enter Try.func41, Try.ntmps41
    go_wp2_with (go_at_call 46; refine (top_some (n := ps.length) H.out rfl).mono ?_; rintro e w1 ⟨rfl, hS⟩; obtain ⟨z0, z1, z2, z3, zf⟩ := topCell HV.out (mts HV.out hS); rw [hn] at z0; replace hS := Aside0.mk hS)
    go_ret
    exact ⟨by first | rfl | (simp; done), hS.out⟩
  · cases hl : p.loop
    · have hd : decide (0 < (p.oth : Int)) = true := decide_eq_true (by omega)
      have hd2 : decide (0 < p.oth) = true := decide_eq_true (by omega)
      go_enter Try.func41, Try.ntmps41
      go_wp2_with (go_at_call 46; refine (top_some (n := ps.length) H.out rfl).mono ?_; rintro e w1 ⟨rfl, hS⟩; obtain ⟨z0, z1, z2, z3, zf⟩ := topCell HV.out (mts HV.out hS); rw [hl] at z0; replace hS := Aside0.mk hS)
      go_ret
      exact ⟨by first | rfl | (simp; done), hS.out⟩
    · go_enter Try.func41, Try.ntmps41
      go_wp2_with (go_at_call 46; refine (top_some (n := ps.length) H.out rfl).mono ?_; rintro e w1 ⟨rfl, hS⟩; obtain ⟨z0, z1, z2, z3, zf⟩ := topCell HV.out (mts HV.out hS); rw [hl] at z0; replace hS := Aside0.mk hS)
      go_ret
      exact ⟨by first | rfl | (simp; done), hS.out⟩
set_option maxHeartbeats 3200000 in
set_option maxRecDepth 100000 in
theorem other_yes (hv : vs.length = ps.length) (h : Sep w0 W (MtL gm vt vo tt (ps ++ [p]) deep (vs ++ [v]) ++ F)) (i : Nat) (hl : p.loop = false) (ho : p.oth = 0) (hb : p.beg < tt.length) (hi : (i : Int) < 9223372036854775807) :
    Calls Try.prog 41 #[.pointer (some ⟨gm, 0, none⟩), .int .i64 (i : Int)] W fun e w' => e = .returned (.bool true) ∧ Sep w0 w' (MtL gm vt vo (tt.set p.beg ((i : Int) + 1)) (ps ++ [{ p with oth := i }]) deep (vs ++ [v]) ++ F) := by
  obtain ⟨ga, c, rfl⟩ := topRow (hv := hv) (mts hv h)
  obtain ⟨gt, ct, rfl⟩ := topForm (mts hv h) (by omega)
  have H := Aside0.mk h
  have HV := Aside0.mk hv
  have HL := Aside0.mk hl
  have HO := Aside0.mk ho
  have hw : wrap64 ((i : Int) + 1) = (i : Int) + 1 := IntWalk.wrap64_in _ (by omega)
  clear h hv hl ho
  go_enter Try.func41, Try.ntmps41
  go_wp2_with (go_at_call 46; go_loud (refine (top_some (n := ps.length) H.out rfl).mono ?_; rintro e w1 ⟨rfl, hS⟩; obtain ⟨z0, z1, z2, z3, zf⟩ := topCell HV.out (mts HV.out hS); rw [HL.out] at z0; rw [HO.out] at z2; have zf2 := zf (ps.length * 4 + 2); clear zf; have B1 := otherPut HV.out hS i; clear hS))
  obtain ⟨w2, hw2⟩ : ∃ x, w1.setCell ⟨ga, ps.length * 4 + 2, none⟩ (.int .i64 (i : Int)) = x := ⟨_, rfl⟩
  rw [hw2] at B1 ⊢
  clear hw2 zf2 z0 z1 z2 z3
  have c0 : w2.drew.cell? ⟨gm, 0, none⟩ = some (.slice (some ⟨gt, 0, none⟩) tt.length ct) := (Sep.cell (show Sep w0 w2.drew (Blk gm 69 #[.slice (some ⟨gt, 0, none⟩) tt.length ct, _, _] :: _) from B1.out.drew) 0).trans rfl
  have c1 : w2.drew.cell? ⟨ga, ps.length * 4 + 1, none⟩ = some (.int .i64 (p.beg : Int)) := (topCell HV.out B1.out.drew).2.1
  obtain ⟨f1, f2⟩ := Sep.rowCell (0 : Int) (Sep.pull [_] B1.out.drew) p.beg hb
  have hit : (p.beg : Int).toNat = p.beg := rfl
  have hi1 : (p.beg : Int) < (tt.length : Int) := by omega
  refine start_ (n := 12) (S := fun w' => w'.cell? ⟨gm, 0, none⟩ = some (.slice (some ⟨gt, 0, none⟩) tt.length ct) ∧ w'.cell? ⟨ga, ps.length * 4 + 1, none⟩ = some (.int .i64 (p.beg : Int))) (ds := [11]) #[false, false, false, false, false, false, false, false, false, false, false, false] (by kernel_rfl) rfl rfl ⟨c0, c1⟩ (fun hHeld => ?_)
  refine pure_ (i := 0) (N := some 27) (v := ?_) (a' := ?_) #[true, false, false, false, false, false, false, false, false, false, false, false] rfl rfl (by kernel_rfl) (fun _ _ _ h => h) (Or.inl ⟨by rfl, ?_⟩) ?_ ?_
  rotate_left
  · intro w'
    go_simp
    with_reducible rfl
  rotate_left
  · simp only [Act.put, List.setIfInBounds_toArray, List.set_cons_zero, List.set_cons_succ, i64_w, i32_w]
    rfl
  refine pure_ (i := 1) (N := some 28) (v := ?_) (a' := ?_) #[true, true, false, false, false, false, false, false, false, false, false, false] rfl rfl (by kernel_rfl) (fun _ _ _ h => h) (Or.inl ⟨by rfl, ?_⟩) ?_ ?_
  rotate_left
  · intro w'
    go_simp
    with_reducible rfl
  rotate_left
  · simp only [Act.put, List.setIfInBounds_toArray, List.set_cons_zero, List.set_cons_succ, i64_w, i32_w]
    rfl
  refine pure_ (i := 2) (N := some 29) (v := ?_) (a' := ?_) #[true, true, true, false, false, false, false, false, false, false, false, false] rfl rfl (by kernel_rfl) (fun _ _ _ h => h) (Or.inl ⟨by rfl, ?_⟩) ?_ ?_
  rotate_left
  · intro w'
    go_simp
    with_reducible rfl
  rotate_left
  · simp only [Act.put, List.setIfInBounds_toArray, List.set_cons_zero, List.set_cons_succ, i64_w, i32_w]
    rfl
  refine pure_ (i := 4) (N := some 31) (v := ?_) (a' := ?_) #[true, true, true, false, true, false, false, false, false, false, false, false] rfl rfl (by kernel_rfl) (fun _ _ _ h => h) (Or.inl ⟨by rfl, ?_⟩) ?_ ?_
  rotate_left
  · intro w'
    go_simp
    with_reducible rfl
  rotate_left
  · simp only [Act.put, List.setIfInBounds_toArray, List.set_cons_zero, List.set_cons_succ, i64_w, i32_w]
    rfl
  refine pure_ (i := 5) (N := some 32) (v := ?_) (a' := ?_) #[true, true, true, false, true, true, false, false, false, false, false, false] rfl rfl (by kernel_rfl) (fun _ _ _ h => h) (Or.inl ⟨by rfl, ?_⟩) ?_ ?_
  rotate_left
  · intro w'
    go_simp
    with_reducible rfl
  rotate_left
  · simp only [Act.put, List.setIfInBounds_toArray, List.set_cons_zero, List.set_cons_succ, i64_w, i32_w]
    rfl
  refine pure_ (i := 6) (N := some 33) (v := ?_) (a' := ?_) #[true, true, true, false, true, true, true, false, false, false, false, false] rfl rfl (by kernel_rfl) (fun _ _ _ h => h) (Or.inl ⟨by rfl, ?_⟩) ?_ ?_
  rotate_left
  · intro w'
    go_simp
    with_reducible rfl
  rotate_left
  · simp only [Act.put, List.setIfInBounds_toArray, List.set_cons_zero, List.set_cons_succ, i64_w, i32_w]
    rfl
  refine pure_ (i := 8) (N := some 35) (v := ?_) (a' := ?_) #[true, true, true, false, true, true, true, false, true, false, false, false] rfl rfl (by kernel_rfl) (fun _ _ _ h => h) (Or.inl ⟨by rfl, ?_⟩) ?_ ?_
  rotate_left
  · intro w'
    go_simp
    with_reducible rfl
  rotate_left
  · simp only [Act.put, List.setIfInBounds_toArray, List.set_cons_zero, List.set_cons_succ, i64_w, i32_w]
    rfl
  refine pure_ (i := 9) (N := some 36) (v := ?_) (a' := ?_) #[true, true, true, false, true, true, true, false, true, true, false, false] rfl rfl (by kernel_rfl) (fun _ _ _ h => h) (Or.inl ⟨by rfl, ?_⟩) ?_ ?_
  rotate_left
  · intro w'
    go_simp
    with_reducible rfl
  rotate_left
  · simp only [Act.put, List.setIfInBounds_toArray, List.set_cons_zero, List.set_cons_succ, i64_w, i32_w]
    rfl
  refine take_ (i := 3) (N := some 30) (v := ?_) (a' := ?_) #[true, true, true, true, true, true, true, false, true, true, false, false] rfl rfl (by kernel_rfl) (fun _ _ _ h => h) (Or.inl ⟨by rfl, ?_⟩) hHeld ?_ ?_
  rotate_left
  · rintro w' ⟨s0, s1⟩
    go_simp
    with_reducible rfl
  rotate_left
  · simp only [Act.put, List.setIfInBounds_toArray, List.set_cons_zero, List.set_cons_succ, i64_w, i32_w]
    rfl
  refine take_ (i := 7) (N := some 34) (v := ?_) (a' := ?_) #[true, true, true, true, true, true, true, true, true, true, false, false] rfl rfl (by kernel_rfl) (fun _ _ _ h => h) (Or.inl ⟨by rfl, ?_⟩) hHeld ?_ ?_
  rotate_left
  · rintro w' ⟨s0, s1⟩
    go_simp
    with_reducible rfl
  rotate_left
  · simp only [Act.put, List.setIfInBounds_toArray, List.set_cons_zero, List.set_cons_succ, i64_w, i32_w]
    rfl
  refine pure_ (i := 10) (N := some 37) (v := ?_) (a' := ?_) #[true, true, true, true, true, true, true, true, true, true, true, false] rfl rfl (by kernel_rfl) (fun _ _ _ h => h) (Or.inl ⟨by rfl, ?_⟩) ?_ ?_
  rotate_left
  · intro w'
    go_simp
    with_reducible rfl
  rotate_left
  · simp only [Act.put, List.setIfInBounds_toArray, List.set_cons_zero, List.set_cons_succ, i64_w, i32_w]
    rfl
  refine last_ (i := 11) (N := none) #[true, true, true, true, true, true, true, true, true, true, true, true] rfl rfl (by kernel_rfl) (by decide) (fun K hK => ?_)
  refine skip_ (w1 := ?_) (by rfl) rfl ?_ ?_
  rotate_left
  · go_simp
    rfl
  refine hK.out _ _ ?_
  clear hK K
  refine done_ (by kernel_rfl) ?_
  have B2 := Aside0.mk ((Sep.pull [_] B1.out).putRow (enc := Value.int .i64) p.beg ((i : Int) + 1)).drew
  go_wp2_with fail
  go_ret
  exact ⟨by first | rfl | (simp; done), stm HV.out (Sep.push [_] B2.out)⟩
end
end Go.Proofs.Ytkkgfpdjlohojaa.Nest
