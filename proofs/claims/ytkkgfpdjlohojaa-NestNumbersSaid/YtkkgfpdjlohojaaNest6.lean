/- Package nest: a ~. -/
import Derived.Test.YtkkgfpdjlohojaaNest5
namespace Go.Proofs.Ytkkgfpdjlohojaa.Nest
set_option linter.unusedVariables false
set_option linter.unusedSimpArgs false
open Go.RowKit Go.Proofs.YtkkgfpdjlohojaaW.PrintWords Go.Proofs.YtkkgfpdjlohojaaW.PrintLast Go.Proofs.YtkkgfpdjlohojaaW.PrintMore Go.Proofs.Ytkkgfpdjlohojaa.Kit
open Go.Proofs.Ytkkgfpdjlohojaa.NestP
theorem infoInt : (Try.prog.info? 3).map (fun i => (i.zero, i.size, i.bytes)) = some (some (.int .i64 0), 1, 8) := by kernel_rfl
theorem leaveP_no (i : Nat) : ∀ (ps : List Pt), (∀ p ∈ ps, p.loop = false) → leaveP i ps = none
  | [], _ => rfl
  | p :: r, h => by
    unfold leaveP
    rw [if_neg (by rw [h p (List.mem_cons_self ..)]; decide), leaveP_no i r (fun q hq => h q (List.mem_cons_of_mem _ hq))]
    rfl
theorem leaveP_at (i : Nat) (p : Pt) (r : List Pt) (hp : p.loop = true) : ∀ (ps : List Pt), (∀ q ∈ ps, q.loop = false) → leaveP i (ps ++ p :: r) = some (ps ++ { p with lvs := p.lvs ++ [i] } :: r)
  | [], _ => by
    show leaveP i (p :: r) = _
    unfold leaveP
    rw [if_pos hp]
    rfl
  | q :: l, h => by
    show leaveP i (q :: (l ++ p :: r)) = _
    unfold leaveP
    rw [if_neg (by rw [h q (List.mem_cons_self ..)]; decide), leaveP_at i p r hp l (fun x hx => h x (List.mem_cons_of_mem _ hx))]
    rfl
section
variable {w0 W : World} {F : List HP} {gm : Nat} {vt vo v : Value} {tt : List Int} {ps A B : List Pt} {p : Pt} {deep : Nat} {vs uA uB : List Value}
theorem rawC_get {i : Nat} : ∀ {ps : List Pt} {vs : List Value} {p : Pt}, vs.length = ps.length → ps[i]? = some p → ∃ v, (rawC ps vs)[i]? = some (cellsP p v) := by
  induction i with
  | zero =>
    intro ps vs p hv hp
    match ps, vs, hv, hp with
    | q :: qs, u :: us, _, hp =>
      cases hp
      exact ⟨u, rfl⟩
  | succ n ih =>
    intro ps vs p hv hp
    match ps, vs, hv, hp with
    | q :: qs, u :: us, hv, hp =>
      have h2 := ih (ps := qs) (vs := us) (p := p) (by simpa using hv) (by simpa using hp)
      exact h2
set_option maxHeartbeats 1600000 in
set_option maxRecDepth 100000 in
theorem leave_no (hv : vs.length = ps.length) (h : Sep w0 W (MtL gm vt vo tt ps deep vs ++ F)) (i : Nat) (hn : ∀ p ∈ ps, p.loop = false) : Calls Try.prog 44 #[.pointer (some ⟨gm, 0, none⟩), .int .i64 (i : Int)] W fun e w' => e = .returned (.bool false) ∧ Sep w0 w' (MtL gm vt vo tt ps deep vs ++ F) := by
  obtain ⟨n, hn1⟩ : ∃ n, ps.length = n := ⟨_, rfl⟩
  obtain ⟨A0, c, rfl⟩ := Sep.rowN (n := n) (show Sep w0 W (Row (Kd.raw 4) 92 vo (rawC ps vs) :: _) from Sep.pull [_, _] h) (by rw [rawC_len ps vs hv]; exact hn1)
  have hnm : (n : Int) ≤ 9223372036854775807 := by
    have := (Sep.rowC' (show Sep w0 W (Row (Kd.raw 4) 92 (.slice A0 n c) (rawC ps vs) :: _) from Sep.pull [_, _] h)).2.1
    have h2 : n ≤ 9223372036854775807 := this
    omega
  have z1 := (Sep.cell (show Sep w0 W (Blk gm 69 #[vt, .slice A0 n c, .int .i64 (deep : Int)] :: _) from h) 1).trans rfl
  have HN := Aside0.mk hn
  have HN1 := Aside0.mk hn1
  have HV := Aside0.mk hv
  have H := Aside0.mk h
  have hw : wrap64 ((n : Int) - 1) = (n : Int) - 1 := IntWalk.wrap64_in _ (by omega)
  clear h hn hn1 hv
  go_enter Try.func44, Try.ntmps44
  go_wp2_with fail
  go_loopg [5] n (fun m q wr => ∃ K : Int, q = .int .i64 K ∧ -1 ≤ K ∧ K < n ∧ K + 1 = m ∧ Sep w0 wr (MtL gm vt (.slice A0 n c) tt ps deep vs ++ F))
  case atStart => exact ⟨(n : Int) - 1, rfl, by omega, by omega, by omega, H.out⟩
  case round =>
    obtain ⟨K, rfl, h1, h2, h3, hS⟩ := hrel
    have A3 := Aside0.mk h3
    clear h3
    by_cases hj : 0 ≤ K
    · obtain ⟨k, rfl⟩ := Int.eq_ofNat_of_zero_le hj
      obtain ⟨ga, c2, e1⟩ := Sep.rowFormN (n := n) (show Sep w0 wr (Row (Kd.raw 4) 92 (.slice A0 n c) (rawC ps vs) :: _) from Sep.pull [_, _] hS) (by rw [rawC_len ps vs HV.out]; exact HN1.out) (by omega)
      injection e1 with e1 _ e11
      subst e1 e11
      have hkl : k < ps.length := by rw [HN1.out]; omega
      obtain ⟨v, hv⟩ := rawC_get HV.out (List.getElem?_eq_getElem hkl)
      have z0 := (rawAt (show Sep w0 wr (Row (Kd.raw 4) 92 (.slice (some ⟨ga, 0, none⟩) n c) (rawC ps vs) :: _) from Sep.pull [_, _] hS) hv).1 0 _ rfl
      rw [HN.out _ (List.getElem_mem hkl), Nat.add_zero] at z0
      have y1 := (Sep.cell (show Sep w0 wr (Blk gm 69 #[vt, .slice (some ⟨ga, 0, none⟩) n c, .int .i64 (deep : Int)] :: _) from hS) 1).trans rfl
      have B1 := Aside0.mk hS
      have hd : decide (0 ≤ (k : Int)) = true := decide_eq_true hj
      have hw1 : wrap64 ((k : Int) - 1) = (k : Int) - 1 := IntWalk.wrap64_in _ (by omega)
      have AK := Aside0.mk (And.intro h1 h2)
      have hil : (k : Int) < (n : Int) := h2
      clear hS hv h1 hj
      go_wp2_with fail
      go_roundg (gk - 1)
      case measure => have := A3.out; have := AK.out; omega
      case rel => exact ⟨(k : Int) - 1, rfl, by omega, by have := AK.out; omega, by have := A3.out; have := AK.out; omega, B1.out⟩
    · have hd : decide (0 ≤ K) = false := decide_eq_false hj
      have B1 := Aside0.mk hS
      clear hS
      go_wp2_with fail
      go_ret
      exact ⟨by first | rfl | (simp; done), B1.out⟩
/-- A matcher with a part within told by itself. -/
def MtM (gm : Nat) (vt vo : Value) (tt : List Int) (A B : List Pt) (p : Pt) (deep : Nat) (uA uB : List Value) (v : Value) (F : List HP) : List HP :=
  Blk gm 69 #[vt, vo, .int .i64 (deep : Int)] :: Row I64 3 vt tt :: Row (Kd.raw 4) 92 vo (rawC A uA ++ cellsP p v :: rawC B uB) :: Row I64 3 v (p.lvs.map (fun k : Nat => (k : Int))) :: (lvR A uA ++ (lvR B uB ++ F))
theorem mtm (hA : uA.length = A.length) (h : Sep w0 W (MtL gm vt vo tt (A ++ p :: B) deep (uA ++ v :: uB) ++ F)) : Sep w0 W (MtM gm vt vo tt A B p deep uA uB v F) := by
  unfold MtL at h
  rw [rawC_app A _ uA _ hA, lvR_app A _ uA _ hA, List.cons_append, List.cons_append, List.cons_append, List.append_assoc] at h
  exact Sep.push [_, _, _] (Sep.pull (Blk gm 69 #[vt, vo, .int .i64 (deep : Int)] :: Row I64 3 vt tt :: Row (Kd.raw 4) 92 vo (rawC A uA ++ cellsP p v :: rawC B uB) :: lvR A uA) h)
theorem mtl (hA : uA.length = A.length) (h : Sep w0 W (MtM gm vt vo tt A B p deep uA uB v F)) : Sep w0 W (MtL gm vt vo tt (A ++ p :: B) deep (uA ++ v :: uB) ++ F) := by
  have h3 := Sep.push (Blk gm 69 #[vt, vo, .int .i64 (deep : Int)] :: Row I64 3 vt tt :: Row (Kd.raw 4) 92 vo (rawC A uA ++ cellsP p v :: rawC B uB) :: lvR A uA) (Sep.pull [_, _, _] h)
  unfold MtL
  rw [rawC_app A _ uA _ hA, lvR_app A _ uA _ hA, List.cons_append, List.cons_append, List.cons_append, List.append_assoc]
  exact h3
theorem midCell {ga n c : Nat} (hA : uA.length = A.length) (h : Sep w0 W (MtM gm vt (.slice (some ⟨ga, 0, none⟩) n c) tt A B p deep uA uB v F)) :
    W.cell? ⟨ga, A.length * 4, none⟩ = some (.bool p.loop) ∧ W.cell? ⟨ga, A.length * 4 + 3, none⟩ = some v ∧ ∀ q, W.frozen? ⟨ga, q, none⟩ = false := by
  have h2 : Sep w0 W (Row (Kd.raw 4) 92 (.slice (some ⟨ga, 0, none⟩) n c) (rawC A uA ++ cellsP p v :: rawC B uB) :: _) := Sep.pull [_, _] h
  obtain ⟨h3, h4⟩ := rawAt (k := A.length) (cl := cellsP p v) h2 (by rw [List.getElem?_append_right (by rw [rawC_len A uA hA]; omega), rawC_len A uA hA, Nat.sub_self]; rfl)
  exact ⟨h3 0 _ rfl, h3 3 _ rfl, h4⟩
theorem midPut {ga n c i : Nat} {u : Value} (hA : uA.length = A.length) (hu : u.oneCell' = true)
    (h : Sep w0 W (Blk gm 69 #[vt, .slice (some ⟨ga, 0, none⟩) n c, .int .i64 (deep : Int)] :: Row I64 3 vt tt :: Row (Kd.raw 4) 92 (.slice (some ⟨ga, 0, none⟩) n c) (rawC A uA ++ cellsP p v :: rawC B uB) :: Row I64 3 u ((p.lvs ++ [i]).map (fun k : Nat => (k : Int))) :: (lvR A uA ++ (lvR B uB ++ F)))) :
    Sep w0 (W.setCell ⟨ga, A.length * 4 + 3, none⟩ u) (MtM gm vt (.slice (some ⟨ga, 0, none⟩) n c) tt A B { p with lvs := p.lvs ++ [i] } deep uA uB u F) := by
  have h2 : Sep w0 W (Row (Kd.raw 4) 92 (.slice (some ⟨ga, 0, none⟩) n c) (rawC A uA ++ cellsP p v :: rawC B uB) :: _) := Sep.pull [_, _] h
  have hl2 := rawC_len A uA hA
  have h3 := h2.putRaw (j := A.length) (q := 3) (u := u) (by rw [List.length_append, hl2, List.length_cons]; omega) (by omega) hu
  have e1 : (rawC A uA ++ cellsP p v :: rawC B uB).getD A.length [] = cellsP p v := by rw [List.getD_eq_getElem?_getD, List.getElem?_append_right (by omega), hl2, Nat.sub_self]; rfl
  have e2 : (rawC A uA ++ cellsP p v :: rawC B uB).set A.length ((cellsP p v).set 3 u) = rawC A uA ++ cellsP { p with lvs := p.lvs ++ [i] } u :: rawC B uB := by rw [List.set_append_right _ _ (by omega), hl2, Nat.sub_self]; rfl
  rw [e1, e2] at h3
  exact Sep.push [_, _] h3
/-- What the append of a ~ leaves. -/
theorem leaveSep {ga n c i : Nat} {x : HP} {v5 : Value} (h : Sep w0 W (Row I64 3 v5 (p.lvs.map (fun k : Nat => (k : Int)) ++ [(i : Int)]) :: ([x, Blk gm 69 #[vt, .slice (some ⟨ga, 0, none⟩) n c, .int .i64 (deep : Int)], Row I64 3 vt tt, Row (Kd.raw 4) 92 (.slice (some ⟨ga, 0, none⟩) n c) (rawC A uA ++ cellsP p v :: rawC B uB)] ++ (lvR A uA ++ (lvR B uB ++ F))))) (hA : uA.length = A.length := by assumption) :
    W.cell? ⟨gm, 1, none⟩ = some (.slice (some ⟨ga, 0, none⟩) n c) ∧ W.cell? ⟨ga, A.length * 4 + 3, none⟩ = some v ∧ W.frozen? ⟨ga, A.length * 4 + 3, none⟩ = false ∧
    Sep w0 W (Blk gm 69 #[vt, .slice (some ⟨ga, 0, none⟩) n c, .int .i64 (deep : Int)] :: Row I64 3 vt tt :: Row (Kd.raw 4) 92 (.slice (some ⟨ga, 0, none⟩) n c) (rawC A uA ++ cellsP p v :: rawC B uB) :: Row I64 3 v5 ((p.lvs ++ [i]).map (fun k : Nat => (k : Int))) :: (lvR A uA ++ (lvR B uB ++ F))) := by
  have h1 := h.at2.tail
  have h2 := Sep.push [Blk gm 69 #[vt, .slice (some ⟨ga, 0, none⟩) n c, .int .i64 (deep : Int)], Row I64 3 vt tt, Row (Kd.raw 4) 92 (.slice (some ⟨ga, 0, none⟩) n c) (rawC A uA ++ cellsP p v :: rawC B uB)] h1
  have e1 : (p.lvs ++ [i]).map (fun k : Nat => (k : Int)) = p.lvs.map (fun k : Nat => (k : Int)) ++ [(i : Int)] := by rw [List.map_append]; rfl
  rw [← e1] at h2
  obtain ⟨h3, h4⟩ := rawAt (k := A.length) (cl := cellsP p v) (show Sep w0 W (Row (Kd.raw 4) 92 (.slice (some ⟨ga, 0, none⟩) n c) _ :: _) from Sep.pull [_, _] h2) (by rw [List.getElem?_append_right (by rw [rawC_len A uA hA]; omega), rawC_len A uA hA, Nat.sub_self]; rfl)
  refine ⟨(Sep.cell (show Sep w0 W (Blk gm 69 #[vt, .slice (some ⟨ga, 0, none⟩) n c, .int .i64 (deep : Int)] :: _) from h2) 1).trans rfl, ?_, ?_, h2⟩
  · exact h3 3 _ rfl
  · exact h4 _
set_option maxHeartbeats 3200000 in
set_option maxRecDepth 100000 in
theorem leave_yes (hA : uA.length = A.length) (hB : uB.length = B.length) (h : Sep w0 W (MtL gm vt vo tt (A ++ p :: B) deep (uA ++ v :: uB) ++ F)) (i : Nat) (hp : p.loop = true) (hn : ∀ q ∈ B, q.loop = false) (hl : p.lvs.length ≤ 1000000) :
    Calls Try.prog 44 #[.pointer (some ⟨gm, 0, none⟩), .int .i64 (i : Int)] W fun e w' => e = .returned (.bool true) ∧ ∃ u, Sep w0 w' (MtL gm vt vo tt (A ++ { p with lvs := p.lvs ++ [i] } :: B) deep (uA ++ u :: uB) ++ F) := by
  have hv : (uA ++ v :: uB).length = (A ++ p :: B).length := by simp [hA, hB]
  obtain ⟨n, hn1⟩ : ∃ n, (A ++ p :: B).length = n := ⟨_, rfl⟩
  have hAB : A.length + B.length + 1 = n := by rw [← hn1]; simp; omega
  obtain ⟨ga, c, rfl⟩ := Sep.rowFormN (n := n) (show Sep w0 W (Row (Kd.raw 4) 92 vo (rawC (A ++ p :: B) (uA ++ v :: uB)) :: _) from Sep.pull [_, _] h) (by rw [rawC_len _ _ hv]; exact hn1) (by omega)
  have hnm : (n : Int) ≤ 9223372036854775807 := by
    have := (Sep.rowC' (show Sep w0 W (Row (Kd.raw 4) 92 (.slice (some ⟨ga, 0, none⟩) n c) (rawC (A ++ p :: B) (uA ++ v :: uB)) :: _) from Sep.pull [_, _] h)).2.1
    have h2 : n ≤ 9223372036854775807 := this
    omega
  obtain ⟨Al, cl, rfl⟩ := Sep.rowN (n := p.lvs.length) (show Sep w0 W (Row I64 3 v (p.lvs.map (fun k : Nat => (k : Int))) :: _) from Sep.pull [_, _, _] (mtm hA h)) (by rw [List.length_map])
  have z1 := (Sep.cell (show Sep w0 W (Blk gm 69 #[vt, .slice (some ⟨ga, 0, none⟩) n c, .int .i64 (deep : Int)] :: _) from h) 1).trans rfl
  have HN := Aside0.mk hn
  have HN1 := Aside0.mk hn1
  have HV := Aside0.mk hv
  have HA := Aside0.mk hA
  have HL := Aside0.mk hl
  have HP := Aside0.mk hp
  have H := Aside0.mk h
  have HAB := Aside0.mk hAB
  have hw : wrap64 ((n : Int) - 1) = (n : Int) - 1 := IntWalk.wrap64_in _ (by omega)
  clear h hn hn1 hv hA hB hl hp hAB
  go_enter Try.func44, Try.ntmps44
  go_wp2_with fail
  go_loopg [5] B.length (fun m q wr => ∃ k : Nat, q = .int .i64 (k : Int) ∧ k = A.length + m ∧ k < n ∧ Sep w0 wr (MtL gm vt (.slice (some ⟨ga, 0, none⟩) n c) tt (A ++ p :: B) deep (uA ++ .slice Al p.lvs.length cl :: uB) ++ F))
  case atStart =>
    have := HAB.out
    exact ⟨A.length + B.length, by congr 1; omega, rfl, by omega, H.out⟩
  case round =>
    obtain ⟨k, rfl, h1, h2, hS⟩ := hrel
    have y1 := (Sep.cell (show Sep w0 wr (Blk gm 69 #[vt, .slice (some ⟨ga, 0, none⟩) n c, .int .i64 (deep : Int)] :: _) from hS) 1).trans rfl
    have hd : decide (0 ≤ (k : Int)) = true := decide_eq_true (by omega)
    have hil : (k : Int) < (n : Int) := by omega
    have A1 := Aside0.mk (And.intro h1 h2)
    by_cases hj : A.length < k
    · have hkl : k < (A ++ p :: B).length := by rw [HN1.out]; exact h2
      have hlo : (A ++ p :: B)[k].loop = false := by
        refine HN.out _ ?_
        rw [List.getElem_append_right (by omega)]
        obtain ⟨x, hx⟩ : ∃ x, k - A.length = x + 1 := ⟨k - A.length - 1, by omega⟩
        rw [List.getElem_cons, dif_neg (by omega)]
        exact List.getElem_mem _
      obtain ⟨v, hv⟩ := rawC_get HV.out (List.getElem?_eq_getElem hkl)
      have z0 := (rawAt (show Sep w0 wr (Row (Kd.raw 4) 92 (.slice (some ⟨ga, 0, none⟩) n c) (rawC _ _) :: _) from Sep.pull [_, _] hS) hv).1 0 _ rfl
      rw [hlo, Nat.add_zero] at z0
      have B1 := Aside0.mk hS
      have hw1 : wrap64 ((k : Int) - 1) = ((k - 1 : Nat) : Int) := by rw [IntWalk.wrap64_in _ (by omega)]; omega
      have AJ := Aside0.mk hj
      clear hS hv hj hlo hkl h1 h2 hd
      go_wp2_with fail
      go_roundg (gk - 1)
      case measure => have := A1.out; have := AJ.out; omega
      case rel => exact ⟨k - 1, by have := A1.out; have := AJ.out; congr 1; omega, by have := A1.out; have := AJ.out; omega, by have := A1.out; omega, B1.out⟩
    · have hkA : k = A.length := by omega
      subst hkA
      obtain ⟨z0, z3, zf⟩ := midCell HA.out (mtm HA.out hS)
      rw [HP.out] at z0
      have B1 := Aside0.mk (mtm HA.out hS.drew)
      have zf3 := zf (A.length * 4 + 3)
      have y1d : wr.drew.cell? ⟨gm, 1, none⟩ = some (.slice (some ⟨ga, 0, none⟩) n c) := y1
      have z3d : wr.drew.cell? ⟨ga, A.length * 4 + 3, none⟩ = some (.slice Al p.lvs.length cl) := z3
      have hA := HA.out
      clear hS zf hj h1 h2
      go_upto_region 5 with fail
      refine start_ (n := 19) (S := fun w' => w'.cell? ⟨gm, 1, none⟩ = some (.slice (some ⟨ga, 0, none⟩) n c) ∧ w'.cell? ⟨ga, A.length * 4 + 3, none⟩ = some (.slice Al p.lvs.length cl)) (ds := [18]) #[false, false, false, false, false, false, false, false, false, false, false, false, false, false, false, false, false, false, false] (by kernel_rfl) rfl rfl ⟨y1d, z3d⟩ (fun hHeld => ?_)
      refine pure_ (i := 0) (N := some 24) (v := ?_) (a' := ?_) #[true, false, false, false, false, false, false, false, false, false, false, false, false, false, false, false, false, false, false] rfl rfl (by kernel_rfl) (fun _ _ _ h => h) (Or.inl ⟨by rfl, ?_⟩) ?_ ?_
      rotate_left
      · intro w'
        go_simp
        with_reducible rfl
      rotate_left
      · simp only [Act.put, List.setIfInBounds_toArray, List.set_cons_zero, List.set_cons_succ, i64_w, i32_w]
        rfl
      refine pure_ (i := 1) (N := some 25) (v := ?_) (a' := ?_) #[true, true, false, false, false, false, false, false, false, false, false, false, false, false, false, false, false, false, false] rfl rfl (by kernel_rfl) (fun _ _ _ h => h) (Or.inl ⟨by rfl, ?_⟩) ?_ ?_
      rotate_left
      · intro w'
        go_simp
        with_reducible rfl
      rotate_left
      · simp only [Act.put, List.setIfInBounds_toArray, List.set_cons_zero, List.set_cons_succ, i64_w, i32_w]
        rfl
      refine pure_ (i := 2) (N := some 26) (v := ?_) (a' := ?_) #[true, true, true, false, false, false, false, false, false, false, false, false, false, false, false, false, false, false, false] rfl rfl (by kernel_rfl) (fun _ _ _ h => h) (Or.inl ⟨by rfl, ?_⟩) ?_ ?_
      rotate_left
      · intro w'
        go_simp
        with_reducible rfl
      rotate_left
      · simp only [Act.put, List.setIfInBounds_toArray, List.set_cons_zero, List.set_cons_succ, i64_w, i32_w]
        rfl
      refine pure_ (i := 4) (N := some 28) (v := ?_) (a' := ?_) #[true, true, true, false, true, false, false, false, false, false, false, false, false, false, false, false, false, false, false] rfl rfl (by kernel_rfl) (fun _ _ _ h => h) (Or.inl ⟨by rfl, ?_⟩) ?_ ?_
      rotate_left
      · intro w'
        go_simp
        with_reducible rfl
      rotate_left
      · simp only [Act.put, List.setIfInBounds_toArray, List.set_cons_zero, List.set_cons_succ, i64_w, i32_w]
        rfl
      refine pure_ (i := 5) (N := some 29) (v := ?_) (a' := ?_) #[true, true, true, false, true, true, false, false, false, false, false, false, false, false, false, false, false, false, false] rfl rfl (by kernel_rfl) (fun _ _ _ h => h) (Or.inl ⟨by rfl, ?_⟩) ?_ ?_
      rotate_left
      · intro w'
        go_simp
        with_reducible rfl
      rotate_left
      · simp only [Act.put, List.setIfInBounds_toArray, List.set_cons_zero, List.set_cons_succ, i64_w, i32_w]
        rfl
      refine pure_ (i := 6) (N := some 30) (v := ?_) (a' := ?_) #[true, true, true, false, true, true, true, false, false, false, false, false, false, false, false, false, false, false, false] rfl rfl (by kernel_rfl) (fun _ _ _ h => h) (Or.inl ⟨by rfl, ?_⟩) ?_ ?_
      rotate_left
      · intro w'
        go_simp
        with_reducible rfl
      rotate_left
      · simp only [Act.put, List.setIfInBounds_toArray, List.set_cons_zero, List.set_cons_succ, i64_w, i32_w]
        rfl
      refine pure_ (i := 7) (N := some 31) (v := ?_) (a' := ?_) #[true, true, true, false, true, true, true, true, false, false, false, false, false, false, false, false, false, false, false] rfl rfl (by kernel_rfl) (fun _ _ _ h => h) (Or.inl ⟨by rfl, ?_⟩) ?_ ?_
      rotate_left
      · intro w'
        go_simp
        with_reducible rfl
      rotate_left
      · simp only [Act.put, List.setIfInBounds_toArray, List.set_cons_zero, List.set_cons_succ, i64_w, i32_w]
        rfl
      refine pure_ (i := 9) (N := some 33) (v := ?_) (a' := ?_) #[true, true, true, false, true, true, true, true, false, true, false, false, false, false, false, false, false, false, false] rfl rfl (by kernel_rfl) (fun _ _ _ h => h) (Or.inl ⟨by rfl, ?_⟩) ?_ ?_
      rotate_left
      · intro w'
        go_simp
        with_reducible rfl
      rotate_left
      · simp only [Act.put, List.setIfInBounds_toArray, List.set_cons_zero, List.set_cons_succ, i64_w, i32_w]
        rfl
      refine pure_ (i := 13) (N := some 37) (v := ?_) (a' := ?_) #[true, true, true, false, true, true, true, true, false, true, false, false, false, true, false, false, false, false, false] rfl rfl (by kernel_rfl) (fun _ _ _ h => h) (Or.inl ⟨by rfl, ?_⟩) ?_ ?_
      rotate_left
      · intro w'
        go_simp
        with_reducible rfl
      rotate_left
      · simp only [Act.put, List.setIfInBounds_toArray, List.set_cons_zero, List.set_cons_succ, i64_w, i32_w]
        rfl
      refine take_ (i := 3) (N := some 27) (v := ?_) (a' := ?_) #[true, true, true, true, true, true, true, true, false, true, false, false, false, true, false, false, false, false, false] rfl rfl (by kernel_rfl) (fun _ _ _ h => h) (Or.inl ⟨by rfl, ?_⟩) hHeld ?_ ?_
      rotate_left
      · rintro w' ⟨s0, s1⟩
        go_simp
        with_reducible rfl
      rotate_left
      · simp only [Act.put, List.setIfInBounds_toArray, List.set_cons_zero, List.set_cons_succ, i64_w, i32_w]
        rfl
      refine take_ (i := 8) (N := some 32) (v := ?_) (a' := ?_) #[true, true, true, true, true, true, true, true, true, true, false, false, false, true, false, false, false, false, false] rfl rfl (by kernel_rfl) (fun _ _ _ h => h) (Or.inl ⟨by rfl, ?_⟩) hHeld ?_ ?_
      rotate_left
      · rintro w' ⟨s0, s1⟩
        go_simp
        with_reducible rfl
      rotate_left
      · simp only [Act.put, List.setIfInBounds_toArray, List.set_cons_zero, List.set_cons_succ, i64_w, i32_w]
        rfl
      refine pure_ (i := 10) (N := some 34) (v := ?_) (a' := ?_) #[true, true, true, true, true, true, true, true, true, true, true, false, false, true, false, false, false, false, false] rfl rfl (by kernel_rfl) (fun _ _ _ h => h) (Or.inl ⟨by rfl, ?_⟩) ?_ ?_
      rotate_left
      · intro w'
        go_simp
        with_reducible rfl
      rotate_left
      · simp only [Act.put, List.setIfInBounds_toArray, List.set_cons_zero, List.set_cons_succ, i64_w, i32_w]
        rfl
      refine pure_ (i := 11) (N := some 35) (v := ?_) (a' := ?_) #[true, true, true, true, true, true, true, true, true, true, true, true, false, true, false, false, false, false, false] rfl rfl (by kernel_rfl) (fun _ _ _ h => h) (Or.inl ⟨by rfl, ?_⟩) ?_ ?_
      rotate_left
      · intro w'
        go_simp
        with_reducible rfl
      rotate_left
      · simp only [Act.put, List.setIfInBounds_toArray, List.set_cons_zero, List.set_cons_succ, i64_w, i32_w]
        rfl
      refine take_ (i := 12) (N := some 36) (v := ?_) (a' := ?_) #[true, true, true, true, true, true, true, true, true, true, true, true, true, true, false, false, false, false, false] rfl rfl (by kernel_rfl) (fun _ _ _ h => h) (Or.inl ⟨by rfl, ?_⟩) hHeld ?_ ?_
      rotate_left
      · rintro w' ⟨s0, s1⟩
        go_simp
        with_reducible rfl
      rotate_left
      · simp only [Act.put, List.setIfInBounds_toArray, List.set_cons_zero, List.set_cons_succ, i64_w, i32_w]
        rfl
      refine one_ (i := 14) (N := some 38) #[true, true, true, true, true, true, true, true, true, true, true, true, true, true, true, false, false, false, false] rfl rfl (by kernel_rfl) (by decide) (fun K hK => ?_)
      have B4 := Aside0.mk (Sep.litRow (enc := Value.int .i64) (h1 := fun _ => rfl) (e := 3) [(i : Int)] (B1.out) (by simp))
      refine value_ (w1 := ?_) (v := ?_) (by rfl) rfl ?_ ?_
      rotate_left 2
      · go_simp
        constructor
        · rfl
        · rfl
      refine hK.out _ _ ⟨cell_later (below_alloc (Below.refl _ _) _) y1d, cell_later (below_alloc (Below.refl _ _) _) z3d⟩ (fun hHeld => ?_)
      clear hK K
      refine norm_ (a' := ?_) ?_ ?_
      rotate_left
      · show Act.put _ (some 38) _ = _
        simp only [Act.put, List.setIfInBounds_toArray, List.set_cons_zero, List.set_cons_succ, i64_w, i32_w]
        rfl
      refine one_ (i := 15) (N := some 39) #[true, true, true, true, true, true, true, true, true, true, true, true, true, true, true, true, false, false, false] rfl rfl (by kernel_rfl) (by decide) (fun K hK => ?_)
      refine (Sep.pull [_, _, _, _] B4.out).appendStep (by rfl) (.tmp 36) (.tmp 38) 22 (.int .i64 0) 8 rfl Try.underlying22 infoInt rfl (by decide) (some ⟨wr.drew.heap.size, 0, none⟩) 1 1 (by rfl) (by rfl) B4.out.rowC.2.2 (by have := HL.out; rw [List.length_map]; simp; omega) ?_
      intro v5 w5 hS5
      obtain ⟨A5, c5, rfl⟩ := hS5.rowN (n := p.lvs.length + 1) (by simp)
      have zf5 := (leaveSep hS5).2.2.1
      have B5 := Aside0.mk (leaveSep hS5)
      clear hS5
      refine hK.out _ _ ⟨B5.out.1, B5.out.2.1⟩ (fun hHeld => ?_)
      clear hK K
      refine norm_ (a' := ?_) ?_ ?_
      rotate_left
      · show Act.put _ (some 39) _ = _
        simp only [Act.put, List.setIfInBounds_toArray, List.set_cons_zero, List.set_cons_succ, i64_w, i32_w]
        rfl
      refine pure_ (i := 16) (N := some 40) (v := ?_) (a' := ?_) #[true, true, true, true, true, true, true, true, true, true, true, true, true, true, true, true, true, false, false] rfl rfl (by kernel_rfl) (fun _ _ _ h => h) (Or.inl ⟨by rfl, ?_⟩) ?_ ?_
      rotate_left
      · intro w'
        go_simp
        with_reducible rfl
      rotate_left
      · simp only [Act.put, List.setIfInBounds_toArray, List.set_cons_zero, List.set_cons_succ, i64_w, i32_w]
        rfl
      refine pure_ (i := 17) (N := some 41) (v := ?_) (a' := ?_) #[true, true, true, true, true, true, true, true, true, true, true, true, true, true, true, true, true, true, false] rfl rfl (by kernel_rfl) (fun _ _ _ h => h) (Or.inl ⟨by rfl, ?_⟩) ?_ ?_
      rotate_left
      · intro w'
        go_simp
        with_reducible rfl
      rotate_left
      · simp only [Act.put, List.setIfInBounds_toArray, List.set_cons_zero, List.set_cons_succ, i64_w, i32_w]
        rfl
      refine last_ (i := 18) (N := none) #[true, true, true, true, true, true, true, true, true, true, true, true, true, true, true, true, true, true, true] rfl rfl (by kernel_rfl) (by decide) (fun K hK => ?_)
      refine skip_ (w1 := ?_) (by rfl) rfl ?_ ?_
      rotate_left
      · go_simp
        rfl
      refine hK.out _ _ ?_
      clear hK K
      refine done_ (by kernel_rfl) ?_
      have B6 := Aside0.mk (midPut (i := i) HA.out rfl B5.out.2.2.2)
      go_wp2_with fail
      go_ret
      exact ⟨by first | rfl | (simp; done), _, mtl HA.out B6.out⟩
end
end Go.Proofs.Ytkkgfpdjlohojaa.Nest
