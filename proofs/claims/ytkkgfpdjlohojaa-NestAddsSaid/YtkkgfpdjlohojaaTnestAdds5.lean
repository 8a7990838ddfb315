/- Nest6, Nest7, TokP, Tok, Nest8: what NestAdds needs. -/
import Derived.Test.YtkkgfpdjlohojaaTnestAdds4
set_option linter.unusedVariables false
set_option linter.unusedSimpArgs false
namespace Go.Proofs.Ytkkgfpdjlohojaa.Nest
open Go.RowKit Go.Proofs.YtkkgfpdjlohojaaW.PrintWords Go.Proofs.YtkkgfpdjlohojaaW.PrintLast Go.Proofs.YtkkgfpdjlohojaaW.PrintMore Go.Proofs.Ytkkgfpdjlohojaa.Kit
open Go.Proofs.Ytkkgfpdjlohojaa.NestP
theorem infoInt : (Try.prog.info? 3).map (fun i => (i.zero, i.size, i.bytes)) = some (some (.int .i64 0), 1, 8) := by kernel_rfl
theorem leaveP_no (i : Nat) : ∀ (ps : List Pt), (∀ p ∈ ps, p.loop = false) → leaveP i ps = none
  | [], _ => rfl
  | p :: r, h => by
    unfold leaveP
    rw [if_neg (by rw [h p (List.mem_cons_self ..)]; decide), leaveP_no i r (fun q hq => h q (List.mem_cons_of_mem _ hq))]
    rfl
theorem leaveP_at (i : Nat) (p : Pt) (r : List Pt) (hp : p.loop = true) : ∀ (ps : List Pt), (∀ q ∈ ps, q.loop = false) → leaveP i (ps ++ p :: r) = some (ps ++ { p with lvs := p.lvs ++ [i] } :: r)
  | [], _ => by
    show leaveP i (p :: r) = _
    unfold leaveP
    rw [if_pos hp]
    rfl
  | q :: l, h => by
    show leaveP i (q :: (l ++ p :: r)) = _
    unfold leaveP
    rw [if_neg (by rw [h q (List.mem_cons_self ..)]; decide), leaveP_at i p r hp l (fun x hx => h x (List.mem_cons_of_mem _ hx))]
    rfl
section
variable {w0 W : World} {F : List HP} {gm : Nat} {vt vo v : Value} {tt : List Int} {ps A B : List Pt} {p : Pt} {deep : Nat} {vs uA uB : List Value}
theorem rawC_get {i : Nat} : ∀ {ps : List Pt} {vs : List Value} {p : Pt}, vs.length = ps.length → ps[i]? = some p → ∃ v, (rawC ps vs)[i]? = some (cellsP p v) := by
  induction i with
  | zero =>
    intro ps vs p hv hp
    match ps, vs, hv, hp with
    | q :: qs, u :: us, _, hp =>
      cases hp
      exact ⟨u, rfl⟩
  | succ n ih =>
    intro ps vs p hv hp
    match ps, vs, hv, hp with
    | q :: qs, u :: us, hv, hp =>
      have h2 := ih (ps := qs) (vs := us) (p := p) (by simpa using hv) (by simpa using hp)
      exact h2
set_option maxHeartbeats 1600000 in
set_option maxRecDepth 100000 in
theorem leave_no (hv : vs.length = ps.length) (h : Sep w0 W (MtL gm vt vo tt ps deep vs ++ F)) (i : Nat) (hn : ∀ p ∈ ps, p.loop = false) : Calls Try.prog 44 #[.pointer (some ⟨gm, 0, none⟩), .int .i64 (i : Int)] W fun e w' => e = .returned (.bool false) ∧ Sep w0 w' (MtL gm vt vo tt ps deep vs ++ F) := by
  obtain ⟨n, hn1⟩ : ∃ n, ps.length = n := ⟨_, rfl⟩
  obtain ⟨A0, c, rfl⟩ := Sep.rowN (n := n) (show Sep w0 W (Row (Kd.raw 4) 92 vo (rawC ps vs) :: _) from Sep.pull [_, _] h) (by rw [rawC_len ps vs hv]; exact hn1)
  have hnm : (n : Int) ≤ 9223372036854775807 := by
    have := (Sep.rowC' (show Sep w0 W (Row (Kd.raw 4) 92 (.slice A0 n c) (rawC ps vs) :: _) from Sep.pull [_, _] h)).2.1
    have h2 : n ≤ 9223372036854775807 := this
    omega
  have z1 := (Sep.cell (show Sep w0 W (Blk gm 69 #[vt, .slice A0 n c, .int .i64 (deep : Int)] :: _) from h) 1).trans rfl
  have HN := Aside0.mk hn
  have HN1 := Aside0.mk hn1
  have HV := Aside0.mk hv
  have H := Aside0.mk h
  have hw : wrap64 ((n : Int) - 1) = (n : Int) - 1 := IntWalk.wrap64_in _ (by omega)
  clear h hn hn1 hv
  go_enter Try.func44, Try.ntmps44
  go_wp2_with fail
  go_loopg [5] n (fun m q wr => ∃ K : Int, q = .int .i64 K ∧ -1 ≤ K ∧ K < n ∧ K + 1 = m ∧ Sep w0 wr (MtL gm vt (.slice A0 n c) tt ps deep vs ++ F))
  case atStart => exact ⟨(n : Int) - 1, rfl, by omega, by omega, by omega, H.out⟩
  case round =>
    obtain ⟨K, rfl, h1, h2, h3, hS⟩ := hrel
    have A3 := Aside0.mk h3
    clear h3
    by_cases hj : 0 ≤ K
    · obtain ⟨k, rfl⟩ := Int.eq_ofNat_of_zero_le hj
      obtain ⟨ga, c2, e1⟩ := Sep.rowFormN (n := n) (show Sep w0 wr (Row (Kd.raw 4) 92 (.slice A0 n c) (rawC ps vs) :: _) from Sep.pull [_, _] hS) (by rw [rawC_len ps vs HV.out]; exact HN1.out) (by omega)
      injection e1 with e1 _ e11
      subst e1 e11
      have hkl : k < ps.length := by rw [HN1.out]; omega
      obtain ⟨v, hv⟩ := rawC_get HV.out (List.getElem?_eq_getElem hkl)
      have z0 := (rawAt (show Sep w0 wr (Row (Kd.raw 4) 92 (.slice (some ⟨ga, 0, none⟩) n c) (rawC ps vs) :: _) from Sep.pull [_, _] hS) hv).1 0 _ rfl
      rw [HN.out _ (List.getElem_mem hkl), Nat.add_zero] at z0
      have y1 := (Sep.cell (show Sep w0 wr (Blk gm 69 #[vt, .slice (some ⟨ga, 0, none⟩) n c, .int .i64 (deep : Int)] :: _) from hS) 1).trans rfl
      have B1 := Aside0.mk hS
      have hd : decide (0 ≤ (k : Int)) = true := decide_eq_true hj
      have hw1 : wrap64 ((k : Int) - 1) = (k : Int) - 1 := IntWalk.wrap64_in _ (by omega)
      have AK := Aside0.mk (And.intro h1 h2)
      have hil : (k : Int) < (n : Int) := h2
      clear hS hv h1 hj
      go_wp2_with fail
      go_roundg (gk - 1)
      case measure => have := A3.out; have := AK.out; omega
      case rel => exact ⟨(k : Int) - 1, rfl, by omega, by have := AK.out; omega, by have := A3.out; have := AK.out; omega, B1.out⟩
    · have hd : decide (0 ≤ K) = false := decide_eq_false hj
      have B1 := Aside0.mk hS
      clear hS
      go_wp2_with fail
      go_ret
      exact ⟨by first | rfl | (simp; done), B1.out⟩
def MtM (gm : Nat) (vt vo : Value) (tt : List Int) (A B : List Pt) (p : Pt) (deep : Nat) (uA uB : List Value) (v : Value) (F : List HP) : List HP :=
  Blk gm 69 #[vt, vo, .int .i64 (deep : Int)] :: Row I64 3 vt tt :: Row (Kd.raw 4) 92 vo (rawC A uA ++ cellsP p v :: rawC B uB) :: Row I64 3 v (p.lvs.map (fun k : Nat => (k : Int))) :: (lvR A uA ++ (lvR B uB ++ F))
theorem mtm (hA : uA.length = A.length) (h : Sep w0 W (MtL gm vt vo tt (A ++ p :: B) deep (uA ++ v :: uB) ++ F)) : Sep w0 W (MtM gm vt vo tt A B p deep uA uB v F) := by
  unfold MtL at h
  rw [rawC_app A _ uA _ hA, lvR_app A _ uA _ hA, List.cons_append, List.cons_append, List.cons_append, List.append_assoc] at h
  exact Sep.push [_, _, _] (Sep.pull (Blk gm 69 #[vt, vo, .int .i64 (deep : Int)] :: Row I64 3 vt tt :: Row (Kd.raw 4) 92 vo (rawC A uA ++ cellsP p v :: rawC B uB) :: lvR A uA) h)
theorem mtl (hA : uA.length = A.length) (h : Sep w0 W (MtM gm vt vo tt A B p deep uA uB v F)) : Sep w0 W (MtL gm vt vo tt (A ++ p :: B) deep (uA ++ v :: uB) ++ F) := by
  have h3 := Sep.push (Blk gm 69 #[vt, vo, .int .i64 (deep : Int)] :: Row I64 3 vt tt :: Row (Kd.raw 4) 92 vo (rawC A uA ++ cellsP p v :: rawC B uB) :: lvR A uA) (Sep.pull [_, _, _] h)
  unfold MtL
  rw [rawC_app A _ uA _ hA, lvR_app A _ uA _ hA, List.cons_append, List.cons_append, List.cons_append, List.append_assoc]
  exact h3
theorem midCell {ga n c : Nat} (hA : uA.length = A.length) (h : Sep w0 W (MtM gm vt (.slice (some ⟨ga, 0, none⟩) n c) tt A B p deep uA uB v F)) :
    W.cell? ⟨ga, A.length * 4, none⟩ = some (.bool p.loop) ∧ W.cell? ⟨ga, A.length * 4 + 3, none⟩ = some v ∧ ∀ q, W.frozen? ⟨ga, q, none⟩ = false := by
  have h2 : Sep w0 W (Row (Kd.raw 4) 92 (.slice (some ⟨ga, 0, none⟩) n c) (rawC A uA ++ cellsP p v :: rawC B uB) :: _) := Sep.pull [_, _] h
  obtain ⟨h3, h4⟩ := rawAt (k := A.length) (cl := cellsP p v) h2 (by rw [List.getElem?_append_right (by rw [rawC_len A uA hA]; omega), rawC_len A uA hA, Nat.sub_self]; rfl)
  exact ⟨h3 0 _ rfl, h3 3 _ rfl, h4⟩
theorem midPut {ga n c i : Nat} {u : Value} (hA : uA.length = A.length) (hu : u.oneCell' = true)
    (h : Sep w0 W (Blk gm 69 #[vt, .slice (some ⟨ga, 0, none⟩) n c, .int .i64 (deep : Int)] :: Row I64 3 vt tt :: Row (Kd.raw 4) 92 (.slice (some ⟨ga, 0, none⟩) n c) (rawC A uA ++ cellsP p v :: rawC B uB) :: Row I64 3 u ((p.lvs ++ [i]).map (fun k : Nat => (k : Int))) :: (lvR A uA ++ (lvR B uB ++ F)))) :
    Sep w0 (W.setCell ⟨ga, A.length * 4 + 3, none⟩ u) (MtM gm vt (.slice (some ⟨ga, 0, none⟩) n c) tt A B { p with lvs := p.lvs ++ [i] } deep uA uB u F) := by
  have h2 : Sep w0 W (Row (Kd.raw 4) 92 (.slice (some ⟨ga, 0, none⟩) n c) (rawC A uA ++ cellsP p v :: rawC B uB) :: _) := Sep.pull [_, _] h
  have hl2 := rawC_len A uA hA
  have h3 := h2.putRaw (j := A.length) (q := 3) (u := u) (by rw [List.length_append, hl2, List.length_cons]; omega) (by omega) hu
  have e1 : (rawC A uA ++ cellsP p v :: rawC B uB).getD A.length [] = cellsP p v := by rw [List.getD_eq_getElem?_getD, List.getElem?_append_right (by omega), hl2, Nat.sub_self]; rfl
  have e2 : (rawC A uA ++ cellsP p v :: rawC B uB).set A.length ((cellsP p v).set 3 u) = rawC A uA ++ cellsP { p with lvs := p.lvs ++ [i] } u :: rawC B uB := by rw [List.set_append_right _ _ (by omega), hl2, Nat.sub_self]; rfl
  rw [e1, e2] at h3
  exact Sep.push [_, _] h3
theorem leaveSep {ga n c i : Nat} {x : HP} {v5 : Value} (h : Sep w0 W (Row I64 3 v5 (p.lvs.map (fun k : Nat => (k : Int)) ++ [(i : Int)]) :: ([x, Blk gm 69 #[vt, .slice (some ⟨ga, 0, none⟩) n c, .int .i64 (deep : Int)], Row I64 3 vt tt, Row (Kd.raw 4) 92 (.slice (some ⟨ga, 0, none⟩) n c) (rawC A uA ++ cellsP p v :: rawC B uB)] ++ (lvR A uA ++ (lvR B uB ++ F))))) (hA : uA.length = A.length := by assumption) :
    W.cell? ⟨gm, 1, none⟩ = some (.slice (some ⟨ga, 0, none⟩) n c) ∧ W.cell? ⟨ga, A.length * 4 + 3, none⟩ = some v ∧ W.frozen? ⟨ga, A.length * 4 + 3, none⟩ = false ∧
    Sep w0 W (Blk gm 69 #[vt, .slice (some ⟨ga, 0, none⟩) n c, .int .i64 (deep : Int)] :: Row I64 3 vt tt :: Row (Kd.raw 4) 92 (.slice (some ⟨ga, 0, none⟩) n c) (rawC A uA ++ cellsP p v :: rawC B uB) :: Row I64 3 v5 ((p.lvs ++ [i]).map (fun k : Nat => (k : Int))) :: (lvR A uA ++ (lvR B uB ++ F))) := by
  have h1 := h.at2.tail
  have h2 := Sep.push [Blk gm 69 #[vt, .slice (some ⟨ga, 0, none⟩) n c, .int .i64 (deep : Int)], Row I64 3 vt tt, Row (Kd.raw 4) 92 (.slice (some ⟨ga, 0, none⟩) n c) (rawC A uA ++ cellsP p v :: rawC B uB)] h1
  have e1 : (p.lvs ++ [i]).map (fun k : Nat => (k : Int)) = p.lvs.map (fun k : Nat => (k : Int)) ++ [(i : Int)] := by rw [List.map_append]; rfl
  rw [← e1] at h2
  obtain ⟨h3, h4⟩ := rawAt (k := A.length) (cl := cellsP p v) (show Sep w0 W (Row (Kd.raw 4) 92 (.slice (some ⟨ga, 0, none⟩) n c) _ :: _) from Sep.pull [_, _] h2) (by rw [List.getElem?_append_right (by rw [rawC_len A uA hA]; omega), rawC_len A uA hA, Nat.sub_self]; rfl)
  refine ⟨(Sep.cell (show Sep w0 W (Blk gm 69 #[vt, .slice (some ⟨ga, 0, none⟩) n c, .int .i64 (deep : Int)] :: _) from h2) 1).trans rfl, ?_, ?_, h2⟩
  · exact h3 3 _ rfl
  · exact h4 _
set_option maxHeartbeats 3200000 in
set_option maxRecDepth 100000 in
theorem leave_yes (hA : uA.length = A.length) (hB : uB.length = B.length) (h : Sep w0 W (MtL gm vt vo tt (A ++ p :: B) deep (uA ++ v :: uB) ++ F)) (i : Nat) (hp : p.loop = true) (hn : ∀ q ∈ B, q.loop = false) (hl : p.lvs.length ≤ 1000000) :
    Calls Try.prog 44 #[.pointer (some ⟨gm, 0, none⟩), .int .i64 (i : Int)] W fun e w' => e = .returned (.bool true) ∧ ∃ u, Sep w0 w' (MtL gm vt vo tt (A ++ { p with lvs := p.lvs ++ [i] } :: B) deep (uA ++ u :: uB) ++ F) := by
  have hv : (uA ++ v :: uB).length = (A ++ p :: B).length := by simp [hA, hB]
  obtain ⟨n, hn1⟩ : ∃ n, (A ++ p :: B).length = n := ⟨_, rfl⟩
  have hAB : A.length + B.length + 1 = n := by rw [← hn1]; simp; omega
  obtain ⟨ga, c, rfl⟩ := Sep.rowFormN (n := n) (show Sep w0 W (Row (Kd.raw 4) 92 vo (rawC (A ++ p :: B) (uA ++ v :: uB)) :: _) from Sep.pull [_, _] h) (by rw [rawC_len _ _ hv]; exact hn1) (by omega)
  have hnm : (n : Int) ≤ 9223372036854775807 := by
    have := (Sep.rowC' (show Sep w0 W (Row (Kd.raw 4) 92 (.slice (some ⟨ga, 0, none⟩) n c) (rawC (A ++ p :: B) (uA ++ v :: uB)) :: _) from Sep.pull [_, _] h)).2.1
    have h2 : n ≤ 9223372036854775807 := this
    omega
  obtain ⟨Al, cl, rfl⟩ := Sep.rowN (n := p.lvs.length) (show Sep w0 W (Row I64 3 v (p.lvs.map (fun k : Nat => (k : Int))) :: _) from Sep.pull [_, _, _] (mtm hA h)) (by rw [List.length_map])
  have z1 := (Sep.cell (show Sep w0 W (Blk gm 69 #[vt, .slice (some ⟨ga, 0, none⟩) n c, .int .i64 (deep : Int)] :: _) from h) 1).trans rfl
  have HN := Aside0.mk hn
  have HN1 := Aside0.mk hn1
  have HV := Aside0.mk hv
  have HA := Aside0.mk hA
  have HL := Aside0.mk hl
  have HP := Aside0.mk hp
  have H := Aside0.mk h
  have HAB := Aside0.mk hAB
  have hw : wrap64 ((n : Int) - 1) = (n : Int) - 1 := IntWalk.wrap64_in _ (by omega)
  clear h hn hn1 hv hA hB hl hp hAB
  go_enter Try.func44, Try.ntmps44
  go_wp2_with fail
  go_loopg [5] B.length (fun m q wr => ∃ k : Nat, q = .int .i64 (k : Int) ∧ k = A.length + m ∧ k < n ∧ Sep w0 wr (MtL gm vt (.slice (some ⟨ga, 0, none⟩) n c) tt (A ++ p :: B) deep (uA ++ .slice Al p.lvs.length cl :: uB) ++ F))
  case atStart =>
    have := HAB.out
    exact ⟨A.length + B.length, by congr 1; omega, rfl, by omega, H.out⟩
  case round =>
    obtain ⟨k, rfl, h1, h2, hS⟩ := hrel
    have y1 := (Sep.cell (show Sep w0 wr (Blk gm 69 #[vt, .slice (some ⟨ga, 0, none⟩) n c, .int .i64 (deep : Int)] :: _) from hS) 1).trans rfl
    have hd : decide (0 ≤ (k : Int)) = true := decide_eq_true (by omega)
    have hil : (k : Int) < (n : Int) := by omega
    have A1 := Aside0.mk (And.intro h1 h2)
    by_cases hj : A.length < k
    · have hkl : k < (A ++ p :: B).length := by rw [HN1.out]; exact h2
      have hlo : (A ++ p :: B)[k].loop = false := by
        refine HN.out _ ?_
        rw [List.getElem_append_right (by omega)]
        obtain ⟨x, hx⟩ : ∃ x, k - A.length = x + 1 := ⟨k - A.length - 1, by omega⟩
        rw [List.getElem_cons, dif_neg (by omega)]
        exact List.getElem_mem _
      obtain ⟨v, hv⟩ := rawC_get HV.out (List.getElem?_eq_getElem hkl)
      have z0 := (rawAt (show Sep w0 wr (Row (Kd.raw 4) 92 (.slice (some ⟨ga, 0, none⟩) n c) (rawC _ _) :: _) from Sep.pull [_, _] hS) hv).1 0 _ rfl
      rw [hlo, Nat.add_zero] at z0
      have B1 := Aside0.mk hS
      have hw1 : wrap64 ((k : Int) - 1) = ((k - 1 : Nat) : Int) := by rw [IntWalk.wrap64_in _ (by omega)]; omega
      have AJ := Aside0.mk hj
      clear hS hv hj hlo hkl h1 h2 hd
      go_wp2_with fail
      go_roundg (gk - 1)
      case measure => have := A1.out; have := AJ.out; omega
      case rel => exact ⟨k - 1, by have := A1.out; have := AJ.out; congr 1; omega, by have := A1.out; have := AJ.out; omega, by have := A1.out; omega, B1.out⟩
    · have hkA : k = A.length := by omega
      subst hkA
      obtain ⟨z0, z3, zf⟩ := midCell HA.out (mtm HA.out hS)
      rw [HP.out] at z0
      have B1 := Aside0.mk (mtm HA.out hS.drew)
      have zf3 := zf (A.length * 4 + 3)
      have y1d : wr.drew.cell? ⟨gm, 1, none⟩ = some (.slice (some ⟨ga, 0, none⟩) n c) := y1
      have z3d : wr.drew.cell? ⟨ga, A.length * 4 + 3, none⟩ = some (.slice Al p.lvs.length cl) := z3
      have hA := HA.out
      clear hS zf hj h1 h2
      go_upto_region 5 with fail
      refine start_ (n := 19) (S := fun w' => w'.cell? ⟨gm, 1, none⟩ = some (.slice (some ⟨ga, 0, none⟩) n c) ∧ w'.cell? ⟨ga, A.length * 4 + 3, none⟩ = some (.slice Al p.lvs.length cl)) (ds := [18]) #[Z,Z,Z,Z,Z,Z,Z,Z,Z,Z,Z,Z,Z,Z,Z,Z,Z,Z,Z] (by kernel_rfl) rfl rfl ⟨y1d, z3d⟩ (fun hHeld => ?_)
      refine pu_ 0 24 ?_ #[J,Z,Z,Z,Z,Z,Z,Z,Z,Z,Z,Z,Z,Z,Z,Z,Z,Z,Z] rfl rfl ?_ ?_ ?_ ?_
      rotate_left
      · intro w'
        go_simp
        with_reducible rfl
      rotate_left
      · simp only [aP]
        rfl
      refine pu_ 1 25 ?_ #[J,J,Z,Z,Z,Z,Z,Z,Z,Z,Z,Z,Z,Z,Z,Z,Z,Z,Z] rfl rfl ?_ ?_ ?_ ?_
      rotate_left
      · intro w'
        go_simp
        with_reducible rfl
      rotate_left
      · simp only [aP]
        rfl
      refine pu_ 2 26 ?_ #[J,J,J,Z,Z,Z,Z,Z,Z,Z,Z,Z,Z,Z,Z,Z,Z,Z,Z] rfl rfl ?_ ?_ ?_ ?_
      rotate_left
      · intro w'
        go_simp
        with_reducible rfl
      rotate_left
      · simp only [aP]
        rfl
      refine pu_ 4 28 ?_ #[J,J,J,Z,J,Z,Z,Z,Z,Z,Z,Z,Z,Z,Z,Z,Z,Z,Z] rfl rfl ?_ ?_ ?_ ?_
      rotate_left
      · intro w'
        go_simp
        with_reducible rfl
      rotate_left
      · simp only [aP]
        rfl
      refine pu_ 5 29 ?_ #[J,J,J,Z,J,J,Z,Z,Z,Z,Z,Z,Z,Z,Z,Z,Z,Z,Z] rfl rfl ?_ ?_ ?_ ?_
      rotate_left
      · intro w'
        go_simp
        with_reducible rfl
      rotate_left
      · simp only [aP]
        rfl
      refine pu_ 6 30 ?_ #[J,J,J,Z,J,J,J,Z,Z,Z,Z,Z,Z,Z,Z,Z,Z,Z,Z] rfl rfl ?_ ?_ ?_ ?_
      rotate_left
      · intro w'
        go_simp
        with_reducible rfl
      rotate_left
      · simp only [aP]
        rfl
      refine pu_ 7 31 ?_ #[J,J,J,Z,J,J,J,J,Z,Z,Z,Z,Z,Z,Z,Z,Z,Z,Z] rfl rfl ?_ ?_ ?_ ?_
      rotate_left
      · intro w'
        go_simp
        with_reducible rfl
      rotate_left
      · simp only [aP]
        rfl
      refine pu_ 9 33 ?_ #[J,J,J,Z,J,J,J,J,Z,J,Z,Z,Z,Z,Z,Z,Z,Z,Z] rfl rfl ?_ ?_ ?_ ?_
      rotate_left
      · intro w'
        go_simp
        with_reducible rfl
      rotate_left
      · simp only [aP]
        rfl
      refine pu_ 13 37 ?_ #[J,J,J,Z,J,J,J,J,Z,J,Z,Z,Z,J,Z,Z,Z,Z,Z] rfl rfl ?_ ?_ ?_ ?_
      rotate_left
      · intro w'
        go_simp
        with_reducible rfl
      rotate_left
      · simp only [aP]
        rfl
      refine ta_ 3 27 ?_ #[J,J,J,J,J,J,J,J,Z,J,Z,Z,Z,J,Z,Z,Z,Z,Z] rfl rfl ?_ hHeld ?_ ?_ ?_
      rotate_left
      · rintro w' ⟨s0, s1⟩
        go_simp
        with_reducible rfl
      rotate_left
      · simp only [aP]
        rfl
      refine ta_ 8 32 ?_ #[J,J,J,J,J,J,J,J,J,J,Z,Z,Z,J,Z,Z,Z,Z,Z] rfl rfl ?_ hHeld ?_ ?_ ?_
      rotate_left
      · rintro w' ⟨s0, s1⟩
        go_simp
        with_reducible rfl
      rotate_left
      · simp only [aP]
        rfl
      refine pu_ 10 34 ?_ #[J,J,J,J,J,J,J,J,J,J,J,Z,Z,J,Z,Z,Z,Z,Z] rfl rfl ?_ ?_ ?_ ?_
      rotate_left
      · intro w'
        go_simp
        with_reducible rfl
      rotate_left
      · simp only [aP]
        rfl
      refine pu_ 11 35 ?_ #[J,J,J,J,J,J,J,J,J,J,J,J,Z,J,Z,Z,Z,Z,Z] rfl rfl ?_ ?_ ?_ ?_
      rotate_left
      · intro w'
        go_simp
        with_reducible rfl
      rotate_left
      · simp only [aP]
        rfl
      refine ta_ 12 36 ?_ #[J,J,J,J,J,J,J,J,J,J,J,J,J,J,Z,Z,Z,Z,Z] rfl rfl ?_ hHeld ?_ ?_ ?_
      rotate_left
      · rintro w' ⟨s0, s1⟩
        go_simp
        with_reducible rfl
      rotate_left
      · simp only [aP]
        rfl
      refine one_ (i := 14) (N := some 38) #[J,J,J,J,J,J,J,J,J,J,J,J,J,J,J,Z,Z,Z,Z] rfl rfl (by kernel_rfl) (by decide) (fun K hK => ?_)
      have B4 := Aside0.mk (Sep.litRow (enc := Value.int .i64) (h1 := fun _ => rfl) (e := 3) [(i : Int)] (B1.out) (by simp))
      refine value_ (w1 := ?_) (v := ?_) (by rfl) rfl ?_ ?_
      rotate_left 2
      · go_simp
        constructor
        · rfl
        · rfl
      refine hK.out _ _ ⟨cell_later (below_alloc (Below.refl _ _) _) y1d, cell_later (below_alloc (Below.refl _ _) _) z3d⟩ (fun hHeld => ?_)
      clear hK K
      refine norm_ (a' := ?_) ?_ ?_
      rotate_left
      · show Act.put _ (some 38) _ = _
        simp only [aP]
        rfl
      refine one_ (i := 15) (N := some 39) #[J,J,J,J,J,J,J,J,J,J,J,J,J,J,J,J,Z,Z,Z] rfl rfl (by kernel_rfl) (by decide) (fun K hK => ?_)
      refine (Sep.pull [_, _, _, _] B4.out).appendStep (by rfl) (.tmp 36) (.tmp 38) 22 (.int .i64 0) 8 rfl Try.underlying22 infoInt rfl (by decide) (some ⟨wr.drew.heap.size, 0, none⟩) 1 1 (by rfl) (by rfl) B4.out.rowC.2.2 (by have := HL.out; rw [List.length_map]; simp; omega) ?_
      intro v5 w5 hS5
      obtain ⟨A5, c5, rfl⟩ := hS5.rowN (n := p.lvs.length + 1) (by simp)
      have zf5 := (leaveSep hS5).2.2.1
      have B5 := Aside0.mk (leaveSep hS5)
      clear hS5
      refine hK.out _ _ ⟨B5.out.1, B5.out.2.1⟩ (fun hHeld => ?_)
      clear hK K
      refine norm_ (a' := ?_) ?_ ?_
      rotate_left
      · show Act.put _ (some 39) _ = _
        simp only [aP]
        rfl
      refine pu_ 16 40 ?_ #[J,J,J,J,J,J,J,J,J,J,J,J,J,J,J,J,J,Z,Z] rfl rfl ?_ ?_ ?_ ?_
      rotate_left
      · intro w'
        go_simp
        with_reducible rfl
      rotate_left
      · simp only [aP]
        rfl
      refine pu_ 17 41 ?_ #[J,J,J,J,J,J,J,J,J,J,J,J,J,J,J,J,J,J,Z] rfl rfl ?_ ?_ ?_ ?_
      rotate_left
      · intro w'
        go_simp
        with_reducible rfl
      rotate_left
      · simp only [aP]
        rfl
      refine last_ (i := 18) (N := none) #[J,J,J,J,J,J,J,J,J,J,J,J,J,J,J,J,J,J,J] rfl rfl (by kernel_rfl) (by decide) (fun K hK => ?_)
      refine skip_ (w1 := ?_) (by rfl) rfl ?_ ?_
      rotate_left
      · go_simp
        rfl
      refine hK.out _ _ ?_
      clear hK K
      refine done_ (by kernel_rfl) ?_
      have B6 := Aside0.mk (midPut (i := i) HA.out rfl B5.out.2.2.2)
      go_wp2_with fail
      go_ret
      exact ⟨by first | rfl | (simp; done), _, mtl HA.out B6.out⟩
end
end Go.Proofs.Ytkkgfpdjlohojaa.Nest
namespace Go.Proofs.Ytkkgfpdjlohojaa.Nest
open Go.RowKit Go.Proofs.YtkkgfpdjlohojaaW.PrintWords Go.Proofs.YtkkgfpdjlohojaaW.PrintLast Go.Proofs.YtkkgfpdjlohojaaW.PrintMore Go.Proofs.Ytkkgfpdjlohojaa.Kit
open Go.Proofs.Ytkkgfpdjlohojaa.NestP
def Mt (gm : Nat) (m : MS) : HP := Ex fun x : Value × Value × List Value => Star (Pu (x.2.2.length = m.opn.reverse.length) :: MtL gm x.1 x.2.1 m.tt m.opn.reverse m.deep x.2.2)
structure PB (i : Nat) (p : Pt) : Prop where
  b : p.beg < i
  o : p.oth < i
  k : ∀ k ∈ p.lvs, k < i
  l : p.lvs.length ≤ i
structure Bd (i n : Nat) (m : MS) : Prop where
  len : m.tt.length = n
  op : m.opn.length ≤ 16
  pts : ∀ p ∈ m.opn, PB i p
theorem PB.mono {i : Nat} {p : Pt} (h : PB i p) : PB (i + 1) p := ⟨by have := h.b; omega, by have := h.o; omega, fun k hk => by have := h.k k hk; omega, by have := h.l; omega⟩
theorem leave_pb {i : Nat} : ∀ {ps o : List Pt}, (∀ p ∈ ps, PB i p) → leaveP i ps = some o → (∀ p ∈ o, PB (i + 1) p) ∧ o.length = ps.length
  | [], o, _, h => by cases h
  | p :: r, o, hp, h => by
    unfold leaveP at h
    have h1 := hp p (List.mem_cons_self ..)
    split at h
    · cases h
      refine ⟨fun q hq => ?_, rfl⟩
      rcases List.mem_cons.1 hq with rfl | hq
      · refine ⟨h1.mono.b, h1.mono.o, fun k hk => ?_, ?_⟩
        · rcases List.mem_append.1 hk with hk | hk
          · exact h1.mono.k k hk
          · rw [List.mem_singleton.1 hk]; omega
        · show (p.lvs ++ [i]).length ≤ i + 1
          rw [List.length_append]
          have := h1.l
          simp; omega
      · exact (hp q (List.mem_cons_of_mem _ hq)).mono
    · cases hr : leaveP i r with
      | none => rw [hr] at h; cases h
      | some o2 =>
        rw [hr] at h
        cases h
        obtain ⟨a, b⟩ := leave_pb (fun q hq => hp q (List.mem_cons_of_mem _ hq)) hr
        refine ⟨fun q hq => ?_, by rw [List.length_cons, List.length_cons, b]⟩
        rcases List.mem_cons.1 hq with rfl | hq
        · exact h1.mono
        · exact a q hq
theorem Bd.tok {i n : Nat} {s : Int} {m m2 : MS} (h : Bd i n m) (hi : i < n) (e : tokN i s m = some m2) : Bd (i + 1) n m2 := by
  obtain ⟨len, op, pts⟩ := h
  have hm : ∀ p ∈ m.opn, PB (i + 1) p := fun p hp => (pts p hp).mono
  unfold tokN at e
  split at e
  · split at e
    · cases e
      refine ⟨len, by simp; omega, fun p hp => ?_⟩
      rcases List.mem_cons.1 hp with rfl | hp
      · exact ⟨by simp, by simp, by simp, by simp⟩
      · exact hm p hp
    · cases e
  · split at e
    · cases ho : m.opn with
      | nil => rw [ho] at e; cases e
      | cons p r =>
        rw [ho] at e op hm
        dsimp only at e
        split at e
        · cases e
        · cases e
          refine ⟨by rw [List.length_set]; exact len, op, fun q hq => ?_⟩
          rcases List.mem_cons.1 hq with rfl | hq
          · have h1 := hm p (List.mem_cons_self ..)
            exact ⟨h1.b, by simp, h1.k, h1.l⟩
          · exact hm q (List.mem_cons_of_mem _ hq)
    · split at e
      · cases ho : m.opn with
        | nil => rw [ho] at e; cases e
        | cons p r =>
          rw [ho] at e op hm
          dsimp only at e
          split at e
          · cases e
          · cases e
            exact ⟨by rw [List.length_set]; exact len, by simp only [List.length_cons] at op; show r.length ≤ 16; omega, fun q hq => hm q (List.mem_cons_of_mem _ hq)⟩
      · split at e
        · cases ho : m.opn with
          | nil => rw [ho] at e; cases e
          | cons p r =>
            rw [ho] at e op hm
            dsimp only at e
            split at e
            · cases e
              exact ⟨by rw [setAll_len, List.length_set]; exact len, by simp only [List.length_cons] at op; show r.length ≤ 16; omega, fun q hq => hm q (List.mem_cons_of_mem _ hq)⟩
            · cases e
        · split at e
          · cases hl : leaveP i m.opn with
            | none => rw [hl] at e; cases e
            | some o =>
              rw [hl] at e
              cases e
              obtain ⟨a, b⟩ := leave_pb pts hl
              exact ⟨len, by rw [b]; exact op, a⟩
          · cases e
            exact ⟨len, op, hm⟩
def Ans (w0 w' : World) (F : List HP) (gm : Nat) (e : Ending) : Option MS → Prop
  | some m2 => e = .returned (.bool true) ∧ Sep w0 w' (Mt gm m2 :: F)
  | none => e = .returned (.bool false) ∧ Sep w0 w' F
section
variable {w0 W : World} {F : List HP} {gm : Nat} {vt vo v : Value} {m : MS} {vs : List Value}
theorem mt_open (h : Sep w0 W (Mt gm m :: F)) : ∃ vt vo vs, vs.length = m.opn.reverse.length ∧ Sep w0 W (MtL gm vt vo m.tt m.opn.reverse m.deep vs ++ F) := by
  obtain ⟨⟨vt, vo, vs⟩, h⟩ := h.ex
  have h2 := h.star
  obtain ⟨h3, h4⟩ := Sep.pu (show Sep w0 W (Pu (vs.length = m.opn.reverse.length) :: _) from h2)
  exact ⟨vt, vo, vs, h3, h4⟩
theorem mt_shut {vt vo : Value} {vs : List Value} (hv : vs.length = m.opn.reverse.length) (h : Sep w0 W (MtL gm vt vo m.tt m.opn.reverse m.deep vs ++ F)) : Sep w0 W (Mt gm m :: F) :=
  Sep.unex (vt, vo, vs) (Sep.unstar (Sep.unpu hv h))
theorem mt_top {p : Pt} {r : List Pt} (ho : m.opn = p :: r) (h : Sep w0 W (Mt gm m :: F)) : ∃ vt vo vs v, vs.length = r.reverse.length ∧ Sep w0 W (MtL gm vt vo m.tt (r.reverse ++ [p]) m.deep (vs ++ [v]) ++ F) := by
  obtain ⟨vt, vo, vs, hv, h⟩ := mt_open h
  rw [ho, List.reverse_cons] at h hv
  rw [List.length_append, List.length_singleton] at hv
  have h0 : vs ≠ [] := fun h0 => by rw [h0] at hv; simp at hv
  refine ⟨vt, vo, vs.dropLast, vs.getLast h0, by rw [List.length_dropLast]; omega, ?_⟩
  rw [List.dropLast_concat_getLast]
  exact h
set_option maxHeartbeats 1600000 in
theorem begins_ (h : Sep w0 W (Mt gm m :: F)) (hb : m.opn.length ≤ 16) (lp : Bool) (i : Nat) :
    Calls Try.prog 40 #[.pointer (some ⟨gm, 0, none⟩), .int .i64 (i : Int), .bool lp] W fun e w' => Ans w0 w' F gm e (if m.opn.length < 16 then some ⟨m.tt, ⟨lp, i, 0, []⟩ :: m.opn, max m.deep (m.opn.length + 1)⟩ else none) := by
  obtain ⟨vt, vo, vs, hv, h⟩ := mt_open h
  refine (begin_ h hv (by rw [List.length_reverse]; omega) lp i).mono ?_
  rintro e w1 ⟨rfl, vo2, hS⟩
  rw [List.length_reverse] at hS ⊢
  by_cases h16 : m.opn.length < 16
  · rw [if_pos h16, decide_eq_true h16]
    refine ⟨rfl, mt_shut (m := ⟨m.tt, ⟨lp, i, 0, []⟩ :: m.opn, max m.deep (m.opn.length + 1)⟩) (vt := vt) (vo := vo2) (vs := vs ++ [.slice none 0 0]) ?_ ?_⟩
    · show _ = (_ :: m.opn).reverse.length
      rw [List.reverse_cons, List.length_append, List.length_append, hv]; rfl
    · show Sep w0 w1 (MtL gm vt vo2 m.tt (_ :: m.opn).reverse _ _ ++ F)
      rw [List.reverse_cons]
      exact hS
  · rw [if_neg h16, decide_eq_false h16]
    exact ⟨rfl, hS.weak⟩
set_option maxHeartbeats 1600000 in
theorem others_ {i n : Nat} (h : Sep w0 W (Mt gm m :: F)) (hb : Bd i n m) (hi : i < n) (hn : n ≤ 1000000) :
    Calls Try.prog 41 #[.pointer (some ⟨gm, 0, none⟩), .int .i64 (i : Int)] W fun e w' => Ans w0 w' F gm e (match m.opn with
      | p :: r => if p.loop = true ∨ 0 < p.oth then none else some ⟨m.tt.set p.beg ((i : Int) + 1), { p with oth := i } :: r, m.deep⟩
      | [] => none) := by
  cases ho : m.opn with
  | nil =>
    obtain ⟨vt, vo, vs, hv, h⟩ := mt_open h
    rw [ho] at h hv
    obtain rfl : vs = [] := List.eq_nil_of_length_eq_zero (by rw [hv]; rfl)
    refine (other_nil h i).mono ?_
    rintro e w1 ⟨rfl, rfl⟩
    exact ⟨rfl, h.weak⟩
  | cons p r =>
    have hp := hb.pts p (by rw [ho]; exact List.mem_cons_self ..)
    obtain ⟨vt, vo, vs, v, hv, h⟩ := mt_top ho h
    dsimp only
    by_cases hn : p.loop = true ∨ 0 < p.oth
    · rw [if_pos hn]
      refine (other_no hv h i hn).mono ?_
      rintro e w1 ⟨rfl, hS⟩
      exact ⟨rfl, hS.weak⟩
    · rw [if_neg hn]
      have hl : p.loop = false := by
        cases hq : p.loop
        · rfl
        · exact absurd (.inl hq) hn
      have h0 : p.oth = 0 := by
        have : ¬ 0 < p.oth := fun hq => hn (.inr hq)
        omega
      refine (other_yes hv h i hl h0 (by rw [hb.len]; have := hp.b; omega) (by omega)).mono ?_
      rintro e w1 ⟨rfl, hS⟩
      refine ⟨rfl, mt_shut (m := ⟨m.tt.set p.beg ((i : Int) + 1), { p with oth := i } :: r, m.deep⟩) (vt := vt) (vo := vo) (vs := vs ++ [v]) ?_ ?_⟩
      · show _ = (_ :: r).reverse.length
        rw [List.reverse_cons, List.length_append, List.length_append, hv]; rfl
      · show Sep w0 w1 (MtL gm vt vo _ (_ :: r).reverse _ _ ++ F)
        rw [List.reverse_cons]
        exact hS
set_option maxHeartbeats 1600000 in
theorem endIfs_ {i n : Nat} (h : Sep w0 W (Mt gm m :: F)) (hb : Bd i n m) (hi : i < n) (hn : n ≤ 1000000) :
    Calls Try.prog 42 #[.pointer (some ⟨gm, 0, none⟩), .int .i64 (i : Int)] W fun e w' => Ans w0 w' F gm e (match m.opn with
      | p :: r => if p.loop = true then none else some ⟨m.tt.set (if 0 < p.oth then p.oth else p.beg) (i : Int), r, m.deep⟩
      | [] => none) := by
  cases ho : m.opn with
  | nil =>
    obtain ⟨vt, vo, vs, hv, h⟩ := mt_open h
    rw [ho] at h hv
    obtain rfl : vs = [] := List.eq_nil_of_length_eq_zero (by rw [hv]; rfl)
    refine (endIf_nil h i).mono ?_
    rintro e w1 ⟨rfl, rfl⟩
    exact ⟨rfl, h.weak⟩
  | cons p r =>
    have hp := hb.pts p (by rw [ho]; exact List.mem_cons_self ..)
    obtain ⟨vt, vo, vs, v, hv, h⟩ := mt_top ho h
    dsimp only
    by_cases hn : p.loop = true
    · rw [if_pos hn]
      refine (endIf_no hv h i hn).mono ?_
      rintro e w1 ⟨rfl, hS⟩
      exact ⟨rfl, hS.weak⟩
    · rw [if_neg hn]
      have hl : p.loop = false := by simpa using hn
      by_cases h0 : 0 < p.oth
      · rw [if_pos h0]
        refine (endIf_o hv h i hl h0 (by rw [hb.len]; have := hp.o; omega)).mono ?_
        rintro e w1 ⟨rfl, vo2, hS⟩
        exact ⟨rfl, mt_shut (m := ⟨m.tt.set p.oth (i : Int), r, m.deep⟩) (vt := vt) (vo := vo2) (vs := vs) hv hS⟩
      · rw [if_neg h0]
        refine (endIf_b hv h i hl (by omega) (by rw [hb.len]; have := hp.b; omega)).mono ?_
        rintro e w1 ⟨rfl, vo2, hS⟩
        exact ⟨rfl, mt_shut (m := ⟨m.tt.set p.beg (i : Int), r, m.deep⟩) (vt := vt) (vo := vo2) (vs := vs) hv hS⟩
set_option maxHeartbeats 1600000 in
theorem endLoops_ {i n : Nat} (h : Sep w0 W (Mt gm m :: F)) (hb : Bd i n m) (hi : i < n) (hn : n ≤ 1000000) :
    Calls Try.prog 43 #[.pointer (some ⟨gm, 0, none⟩), .int .i64 (i : Int)] W fun e w' => Ans w0 w' F gm e (match m.opn with
      | p :: r => if p.loop = true then some ⟨setAll (m.tt.set i (p.beg : Int)) ((i : Int) + 1) p.lvs, r, m.deep⟩ else none
      | [] => none) := by
  cases ho : m.opn with
  | nil =>
    obtain ⟨vt, vo, vs, hv, h⟩ := mt_open h
    rw [ho] at h hv
    obtain rfl : vs = [] := List.eq_nil_of_length_eq_zero (by rw [hv]; rfl)
    refine (endLoop_nil h i).mono ?_
    rintro e w1 ⟨rfl, rfl⟩
    exact ⟨rfl, h.weak⟩
  | cons p r =>
    have hp := hb.pts p (by rw [ho]; exact List.mem_cons_self ..)
    obtain ⟨vt, vo, vs, v, hv, h⟩ := mt_top ho h
    dsimp only
    by_cases hn : p.loop = true
    · rw [if_pos hn]
      refine (endLoop_yes hv h i hn (by rw [hb.len]; exact hi) (fun k hk => by rw [hb.len]; have := hp.k k hk; omega)).mono ?_
      rintro e w1 ⟨rfl, vo2, hS⟩
      exact ⟨rfl, mt_shut (m := ⟨setAll (m.tt.set i (p.beg : Int)) ((i : Int) + 1) p.lvs, r, m.deep⟩) (vt := vt) (vo := vo2) (vs := vs) hv hS⟩
    · rw [if_neg hn]
      refine (endLoop_no hv h i (by simpa using hn)).mono ?_
      rintro e w1 ⟨rfl, hS⟩
      exact ⟨rfl, hS.weak⟩
theorem split_loop : ∀ (ps : List Pt), (∀ p ∈ ps, p.loop = false) ∨ ∃ A p B, ps = A ++ p :: B ∧ p.loop = true ∧ ∀ q ∈ A, q.loop = false
  | [] => .inl fun p hp => by cases hp
  | p :: r => by
    cases hl : p.loop with
    | true => exact .inr ⟨[], p, r, rfl, hl, fun q hq => by cases hq⟩
    | false =>
      rcases split_loop r with h | ⟨A, q, B, e, h1, h2⟩
      · exact .inl fun q hq => by
          rcases List.mem_cons.1 hq with rfl | hq
          · exact hl
          · exact h q hq
      · exact .inr ⟨p :: A, q, B, by rw [e]; rfl, h1, fun x hx => by
          rcases List.mem_cons.1 hx with rfl | hx
          · exact hl
          · exact h2 x hx⟩
set_option maxHeartbeats 1600000 in
theorem leaves_ {i n : Nat} (h : Sep w0 W (Mt gm m :: F)) (hb : Bd i n m) (hi : i < n) (hn : n ≤ 1000000) :
    Calls Try.prog 44 #[.pointer (some ⟨gm, 0, none⟩), .int .i64 (i : Int)] W fun e w' => Ans w0 w' F gm e (match leaveP i m.opn with
      | some o => some ⟨m.tt, o, m.deep⟩
      | none => none) := by
  obtain ⟨vt, vo, vs, hv, h⟩ := mt_open h
  rcases split_loop m.opn with hA | ⟨A, p, B, ho, hp, hA⟩
  · rw [leaveP_no i _ hA]
    refine (leave_no hv h i (fun p hp => hA p (List.mem_reverse.1 hp))).mono ?_
    rintro e w1 ⟨rfl, hS⟩
    exact ⟨rfl, hS.weak⟩
  · rw [ho, leaveP_at i p B hp A hA]
    have hr : m.opn.reverse = B.reverse ++ p :: A.reverse := by rw [ho]; simp
    have hr2 : (A ++ { p with lvs := p.lvs ++ [i] } :: B).reverse = B.reverse ++ { p with lvs := p.lvs ++ [i] } :: A.reverse := by simp
    rw [hr] at h hv
    rw [List.length_append, List.length_cons] at hv
    have hlt : B.reverse.length < vs.length := by omega
    have hvs : vs = vs.take B.reverse.length ++ vs[B.reverse.length] :: vs.drop (B.reverse.length + 1) := by rw [← List.drop_eq_getElem_cons hlt, List.take_append_drop]
    rw [hvs] at h
    have hAl : (vs.take B.reverse.length).length = B.reverse.length := by rw [List.length_take]; omega
    have hBl : (vs.drop (B.reverse.length + 1)).length = A.reverse.length := by rw [List.length_drop]; omega
    have hpb := hb.pts p (by rw [ho]; simp)
    refine (leave_yes hAl hBl h i hp (fun q hq => hA q (List.mem_reverse.1 hq)) (by have := hpb.l; omega)).mono ?_
    rintro e w1 ⟨rfl, u, hS⟩
    refine ⟨rfl, mt_shut (m := ⟨m.tt, A ++ { p with lvs := p.lvs ++ [i] } :: B, m.deep⟩) (vt := vt) (vo := vo) (vs := vs.take B.reverse.length ++ u :: vs.drop (B.reverse.length + 1)) ?_ ?_⟩
    · show _ = (A ++ { p with lvs := p.lvs ++ [i] } :: B).reverse.length
      rw [hr2, List.length_append, List.length_append, List.length_cons, List.length_cons, hAl, hBl]
    · show Sep w0 w1 (MtL gm vt vo m.tt (A ++ { p with lvs := p.lvs ++ [i] } :: B).reverse m.deep _ ++ F)
      rw [hr2]
      exact hS
theorem ans_ret {w' : World} {e : Ending} {o : Option MS} (h : Ans w0 w' F gm e o) : ∃ b, e = .returned (.bool b) := by
  cases o with
  | none => exact ⟨_, h.1⟩
  | some m => exact ⟨_, h.1⟩
set_option maxHeartbeats 3200000 in
set_option maxRecDepth 100000 in
theorem token_ {i n : Nat} (h : Sep w0 W (Mt gm m :: F)) (hb : Bd i n m) (hi : i < n) (hn : n ≤ 1000000) (s : Int) :
    Calls Try.prog 35 #[.pointer (some ⟨gm, 0, none⟩), .int .i64 (i : Int), .int .i32 s] W fun e w' => Ans w0 w' F gm e (tokN i s m) := by
  obtain ⟨o, ho⟩ : ∃ o, tokN i s m = o := ⟨_, rfl⟩
  have HO := Aside0.mk ho
  have H := Aside0.mk h
  have HB := Aside0.mk (And.intro hb (And.intro hi hn))
  rw [ho]
  clear ho h hb hi hn
  by_cases h1 : s = 63
  · subst h1
    have ho := HO.out
    unfold tokN at ho
    rw [if_pos (.inl rfl)] at ho
    have HO1 := Aside0.mk ho
    clear ho
    go_enter Try.func35, Try.ntmps35
    go_wp2_with (go_at_call 40; refine (begins_ H.out HB.out.1.op false i).mono ?_; intro e w1 hA; rw [show (⟨false, i, 0, []⟩ : Pt) = ⟨decide ((63 : Int) = 91), i, 0, []⟩ from rfl, HO1.out] at hA; obtain ⟨b, rfl⟩ := ans_ret hA; replace hA := Aside0.mk hA)
    go_ret
    exact hA.out
  by_cases h2 : s = 91
  · subst h2
    have ho := HO.out
    unfold tokN at ho
    rw [if_pos (.inr rfl)] at ho
    have HO1 := Aside0.mk ho
    clear ho h1
    go_enter Try.func35, Try.ntmps35
    go_wp2_with (go_at_call 40; refine (begins_ H.out HB.out.1.op true i).mono ?_; intro e w1 hA; rw [show (⟨true, i, 0, []⟩ : Pt) = ⟨decide ((91 : Int) = 91), i, 0, []⟩ from rfl, HO1.out] at hA; obtain ⟨b, rfl⟩ := ans_ret hA; replace hA := Aside0.mk hA)
    go_ret
    exact hA.out
  by_cases h3 : s = 58
  · subst h3
    have ho := HO.out
    unfold tokN at ho
    rw [if_neg (by decide), if_pos rfl] at ho
    have HO1 := Aside0.mk ho
    clear ho h1 h2
    go_enter Try.func35, Try.ntmps35
    go_wp2_with (go_at_call 41; refine (others_ H.out HB.out.1 HB.out.2.1 HB.out.2.2).mono ?_; intro e w1 hA; replace hA : Ans w0 w1 F gm e o := (by rw [← HO1.out]; exact hA); obtain ⟨b, rfl⟩ := ans_ret hA; replace hA := Aside0.mk hA)
    go_ret
    exact hA.out
  by_cases h4 : s = 59
  · subst h4
    have ho := HO.out
    unfold tokN at ho
    rw [if_neg (by decide), if_neg (by decide), if_pos rfl] at ho
    have HO1 := Aside0.mk ho
    clear ho h1 h2 h3
    go_enter Try.func35, Try.ntmps35
    go_wp2_with (go_at_call 42; refine (endIfs_ H.out HB.out.1 HB.out.2.1 HB.out.2.2).mono ?_; intro e w1 hA; replace hA : Ans w0 w1 F gm e o := (by rw [← HO1.out]; exact hA); obtain ⟨b, rfl⟩ := ans_ret hA; replace hA := Aside0.mk hA)
    go_ret
    exact hA.out
  by_cases h5 : s = 93
  · subst h5
    have ho := HO.out
    unfold tokN at ho
    rw [if_neg (by decide), if_neg (by decide), if_neg (by decide), if_pos rfl] at ho
    have HO1 := Aside0.mk ho
    clear ho h1 h2 h3 h4
    go_enter Try.func35, Try.ntmps35
    go_wp2_with (go_at_call 43; refine (endLoops_ H.out HB.out.1 HB.out.2.1 HB.out.2.2).mono ?_; intro e w1 hA; replace hA : Ans w0 w1 F gm e o := (by rw [← HO1.out]; exact hA); obtain ⟨b, rfl⟩ := ans_ret hA; replace hA := Aside0.mk hA)
    go_ret
    exact hA.out
  by_cases h6 : s = 126
  · subst h6
    have ho := HO.out
    unfold tokN at ho
    rw [if_neg (by decide), if_neg (by decide), if_neg (by decide), if_neg (by decide), if_pos rfl] at ho
    have HO1 := Aside0.mk ho
    clear ho h1 h2 h3 h4 h5
    go_enter Try.func35, Try.ntmps35
    go_wp2_with (go_at_call 44; refine (leaves_ H.out HB.out.1 HB.out.2.1 HB.out.2.2).mono ?_; intro e w1 hA; replace hA : Ans w0 w1 F gm e o := (by rw [← HO1.out]; exact hA); obtain ⟨b, rfl⟩ := ans_ret hA; replace hA := Aside0.mk hA)
    go_ret
    exact hA.out
  · have ho := HO.out
    unfold tokN at ho
    rw [if_neg (by omega), if_neg h3, if_neg h4, if_neg h5, if_neg h6] at ho
    have HO1 := Aside0.mk ho
    clear ho
    go_enter Try.func35, Try.ntmps35
    go_wp2_with fail
    go_ret
    rw [← HO1.out]
    exact ⟨by first | rfl | (simp; done), H.out⟩
end
end Go.Proofs.Ytkkgfpdjlohojaa.Nest
namespace Go.Proofs.Ytkkgfpdjlohojaa.TokP
structure Tok where
  sign : Int
  num : Int
  name : Int
deriving DecidableEq
def nameB (r : Int) : Bool := (decide (97 ≤ r) && decide (r ≤ 122)) || (decide (255 < r) && decide (r ≠ 65533) && decide (r ≤ 1114111) && (decide (r < 55296) || decide (57343 < r)))
def signsL : List Int := [43,45,42,47,37,38,124,94,60,61,33,46,44,64,36,35,63,58,59,91,93,126,171,187,169,174,164,161,955,960]
def knownB (r : Int) : Bool := (decide (97 ≤ r) && decide (r ≤ 122)) || (decide (65 ≤ r) && decide (r ≤ 90)) || signsL.contains r
def namedB (r : Int) : Bool := decide (r = 955) || decide (r = 960)
inductive Md where
  | idle
  | num (n : Nat)
  | nm (s : Int)
def top : Nat := 9223372036854775807
def stepI (acc : List Tok) (r : Int) : Option (List Tok × Md) :=
  if r = 32 then some (acc, .idle) else if 48 ≤ r ∧ r ≤ 57 then some (acc, .num (r - 48).toNat) else if namedB r = true then some (acc, .nm r) else if knownB r = true then some (acc ++ [⟨r, 0, 0⟩], .idle) else none
def step (acc : List Tok) (r : Int) : Md → Option (List Tok × Md)
  | .idle => stepI acc r
  | .num n => if 48 ≤ r ∧ r ≤ 57 then (if (top - (r - 48).toNat) / 10 < n then none else some (acc, .num (n * 10 + (r - 48).toNat))) else stepI (acc ++ [⟨48, n, 0⟩]) r
  | .nm s => if nameB r = true then some (acc ++ [⟨s, 0, r⟩], .idle) else none
def run (acc : List Tok) (m : Md) : List Int → Option (List Tok)
  | [] => match m with
    | .idle => some acc
    | .num n => some (acc ++ [⟨48, n, 0⟩])
    | .nm _ => none
  | r :: t => match step acc r m with
    | none => none
    | some (a, m2) => run a m2 t
def tokens (rs : List Int) : Option (List Tok) := run [] .idle rs
def flush (acc : List Tok) : Md → List Tok
  | .idle => acc
  | .num n => acc ++ [⟨48, n, 0⟩]
  | .nm _ => acc
def noNm : Md → Prop
  | .nm _ => False
  | _ => True
theorem run_cons (acc : List Tok) (m : Md) (r : Int) (t : List Int) : run acc m (r :: t) = match step acc r m with
    | none => none
    | some (a, m2) => run a m2 t := rfl
theorem step_flush {acc : List Tok} {m : Md} {r : Int} (hm : noNm m) (hr : ¬ (48 ≤ r ∧ r ≤ 57)) : step acc r m = stepI (flush acc m) r := by
  cases m with
  | idle => rfl
  | num n => unfold step; dsimp only; rw [if_neg hr]; rfl
  | nm s => exact hm.elim
theorem named_not_digit {r : Int} (h : namedB r = true) : r ≠ 32 ∧ ¬ (48 ≤ r ∧ r ≤ 57) := by
  unfold namedB at h
  simp only [Bool.or_eq_true, decide_eq_true_eq] at h
  omega
theorem run_num (acc : List Tok) (t : List Int) (r : Int) (h : 48 ≤ r ∧ r ≤ 57) : run acc .idle (r :: t) = run acc (.num 0) (r :: t) := by
  rw [run_cons, run_cons]
  unfold step stepI
  dsimp only
  rw [if_neg (by omega), if_pos h, if_pos h, if_neg (by omega)]
  simp
theorem run_flush (acc : List Tok) (k : Nat) (r : Int) (t : List Int) (h : ¬ (48 ≤ r ∧ r ≤ 57)) : run acc (.num k) (r :: t) = run (acc ++ [⟨48, k, 0⟩]) .idle (r :: t) := by
  have h1 := step_flush (acc := acc) (m := .num k) (r := r) trivial h
  rw [run_cons, run_cons, h1]
  rfl
theorem run_digit (acc : List Tok) (k : Nat) (r : Int) (t : List Int) (h : 48 ≤ r ∧ r ≤ 57) : run acc (.num k) (r :: t) = if (top - (r - 48).toNat) / 10 < k then none else run acc (.num (k * 10 + (r - 48).toNat)) t := by
  rw [run_cons]
  unfold step
  dsimp only
  rw [if_pos h]
  by_cases hx : (top - (r - 48).toNat) / 10 < k
  · rw [if_pos hx, if_pos hx]
  · rw [if_neg hx, if_neg hx]
theorem run_named (acc : List Tok) (r x : Int) (t : List Int) (h : namedB r = true) : run acc .idle (r :: x :: t) = if nameB x = true then run (acc ++ [⟨r, 0, x⟩]) .idle t else none := by
  have hd := named_not_digit h
  rw [run_cons]
  unfold step stepI
  dsimp only
  rw [if_neg hd.1, if_neg hd.2, if_pos h]
  dsimp only
  rw [run_cons]
  unfold step
  dsimp only
  by_cases hx : nameB x = true
  · rw [if_pos hx, if_pos hx]
  · rw [if_neg hx, if_neg hx]
theorem run_namedE (acc : List Tok) (r : Int) (h : namedB r = true) : run acc .idle [r] = none := by
  have hd := named_not_digit h
  rw [run_cons]
  unfold step stepI
  dsimp only
  rw [if_neg hd.1, if_neg hd.2, if_pos h]
  rfl
theorem run_else (acc : List Tok) (r : Int) (t : List Int) (h1 : r ≠ 32) (h2 : ¬ (48 ≤ r ∧ r ≤ 57)) (h3 : namedB r = false) : run acc .idle (r :: t) = if knownB r = true then run (acc ++ [⟨r, 0, 0⟩]) .idle t else none := by
  rw [run_cons]
  unfold step stepI
  dsimp only
  rw [if_neg h1, if_neg h2, if_neg (by rw [h3]; decide)]
  by_cases hx : knownB r = true
  · rw [if_pos hx, if_pos hx]
  · rw [if_neg hx, if_neg hx]
def pendN : Md → Nat
  | .idle => 0
  | _ => 1
theorem stepI_len {acc a : List Tok} {r : Int} {m : Md} (e : stepI acc r = some (a, m)) : a.length + pendN m ≤ acc.length + 1 := by
  unfold stepI at e
  repeat' split at e
  all_goals first | (cases e; done) | (cases e; simp [pendN])
theorem step_len {acc a : List Tok} {r : Int} {m m2 : Md} (e : step acc r m = some (a, m2)) : a.length + pendN m2 ≤ acc.length + pendN m + 1 := by
  cases m with
  | idle => exact stepI_len e
  | num n =>
    unfold step at e
    dsimp only at e
    split at e
    · split at e
      · cases e
      · cases e; simp [pendN]
    · have := stepI_len e
      rw [List.length_append] at this
      simp [pendN] at this ⊢
      omega
  | nm s =>
    unfold step at e
    dsimp only at e
    split at e
    · cases e; simp [pendN]
    · cases e
theorem run_len : ∀ (rs : List Int) {acc a : List Tok} {m : Md}, run acc m rs = some a → a.length ≤ acc.length + pendN m + rs.length
  | [], acc, a, .idle, e => by cases e; simp [pendN]
  | [], acc, a, .num n, e => by cases e; simp [pendN]
  | [], acc, a, .nm s, e => by cases e
  | r :: t, acc, a, m, e => by
    rw [run_cons] at e
    cases hs : step acc r m with
    | none => rw [hs] at e; cases e
    | some q =>
      obtain ⟨b, m2⟩ := q
      rw [hs] at e
      have h1 := step_len hs
      have h2 := run_len t e
      rw [List.length_cons]
      omega
theorem tokens_len {rs : List Int} {l : List Tok} (h : tokens rs = some l) : l.length ≤ rs.length := by
  have := run_len rs h
  simpa [pendN] using this
end Go.Proofs.Ytkkgfpdjlohojaa.TokP
namespace Go.Proofs.Ytkkgfpdjlohojaa.Tok
open Go.RowKit Go.Proofs.YtkkgfpdjlohojaaW.PrintWords Go.Proofs.YtkkgfpdjlohojaaW.PrintLast Go.Proofs.YtkkgfpdjlohojaaW.PrintMore Go.Proofs.Ytkkgfpdjlohojaa.Kit
open Go.Proofs.Ytkkgfpdjlohojaa.TokP
def cellT (t : Tok) : List Value := [.int .i32 t.sign, .int .i64 t.num, .int .i32 t.name]
def TC (W : World) (A : Option Addr) (n : Nat) (l : List Tok) : Prop := (Kd.raw 3).C W A n (l.map cellT)
def sgn (l : List Tok) : List Int := l.map (·.sign)
abbrev RowT (v : Value) (l : List Tok) : HP := Row (Kd.raw 3) 42 v (l.map cellT)
theorem TC.len {W : World} {A : Option Addr} {n : Nat} {l : List Tok} (h : TC W A n l) : l.length = n := by
  have := h.1
  rwa [List.length_map] at this
theorem TC.lt {W : World} {A : Option Addr} {n : Nat} {l : List Tok} (h : TC W A n l) : n ≤ 9223372036854775807 := h.2.1
theorem TC.at_ {W : World} {A : Option Addr} {n : Nat} {l : List Tok} (h : TC W A n l) {i : Nat} (hi : i < n) :
    ∃ (a : Addr) (t : Tok), A = some a ∧ l[i]? = some t ∧ W.cell? (a.add (i * 3)) = some (.int .i32 t.sign) ∧ W.cell? ⟨(a.add (i * 3)).block, (a.add (i * 3)).off + 1, none⟩ = some (.int .i64 t.num) ∧ W.cell? ⟨(a.add (i * 3)).block, (a.add (i * 3)).off + 2, none⟩ = some (.int .i32 t.name) := by
  obtain ⟨hx, a, cs, ha, hK, h0, hj⟩ := elem_ h hi
  have hl : i < l.length := by rw [h.len]; exact hi
  have hK1 : cs = (l.map cellT)[i] := hK.1
  rw [List.getElem_map] at hK1
  subst hK1
  exact ⟨a, l[i], ha, List.getElem?_eq_getElem hl, h0 _ rfl, hj 1 _ (by decide) rfl, hj 2 _ (by decide) rfl⟩
theorem infoTok : (Try.prog.info? 42).map (fun i => (i.zero, i.size, i.bytes)) = some (some (.agg #[.int .i32 0, .int .i64 0, .int .i32 0]), 3, 24) := by kernel_rfl
theorem rowT_TC {w0 W : World} {F : List HP} {A : Option Addr} {n c : Nat} {l : List Tok} (h : Sep w0 W (RowT (.slice A n c) l :: F)) : TC W A n l := by
  exact h.rowC'
theorem one_raw {cl : List Value} {sz : Nat} {W : World} (hs : cl.length = sz) (h1 : ∀ u ∈ cl, u.oneCell' = true) : Reps ((Kd.raw sz).M W W.heap.size (fun _ => False)) (Kd.raw sz).sz [cl] cl :=
  ⟨by rw [List.length_singleton, Nat.one_mul]; exact hs, fun j c hj => by
    match j, hj with
    | 0, hj =>
      cases hj
      rw [Nat.zero_mul, List.drop_zero, List.take_of_length_le (by show cl.length ≤ sz; omega)]
      exact ⟨rfl, hs, h1⟩⟩
theorem oneTok {w0 W : World} {F : List HP} (h : Sep w0 W F) (t : Tok) : Sep w0 (W.alloc (.cells (cellT t).toArray 42)) (RowT (.slice (some ⟨W.heap.size, 0, none⟩) 1 1) [t] :: F) :=
  h.newLit (d := Kd.raw 3) (xs := [cellT t]) (inner := cellT t) (e := 42) (one_raw rfl (by
    intro u hu
    simp only [cellT, List.mem_cons, List.not_mem_nil, or_false] at hu
    rcases hu with rfl | rfl | rfl <;> rfl)) (by simp)
end Go.Proofs.Ytkkgfpdjlohojaa.Tok
namespace Go.Proofs.Ytkkgfpdjlohojaa.Nest
open Go.RowKit Go.Proofs.YtkkgfpdjlohojaaW.PrintWords Go.Proofs.YtkkgfpdjlohojaaW.PrintLast Go.Proofs.YtkkgfpdjlohojaaW.PrintMore Go.Proofs.Ytkkgfpdjlohojaa.Kit
open Go.Proofs.Ytkkgfpdjlohojaa.NestP Go.Proofs.Ytkkgfpdjlohojaa.TokP Go.Proofs.Ytkkgfpdjlohojaa.Tok
theorem fill_set (n j : Nat) (hj : j < n) : (List.replicate j (-1 : Int) ++ List.replicate (n - j) 0).set j (-1) = List.replicate (j + 1) (-1) ++ List.replicate (n - (j + 1)) 0 := by
  rw [List.set_append_right _ _ (by simp), List.length_replicate, Nat.sub_self, show n - j = (n - (j + 1)) + 1 by omega, List.replicate_succ, List.set_cons_zero]
  rw [List.replicate_succ' (n := j), List.append_assoc]
  rfl
theorem alloc_size (w : World) (o : Obj) : (w.alloc o).heap.size = w.heap.size + 1 := by simp
def contN (t : List Int) (i : Nat) : Option MS → Option MS
  | none => none
  | some m2 => NestP.runN i t m2
theorem runN_step (i : Nat) (s : Int) (t : List Int) (m : MS) : NestP.runN i (s :: t) m = contN t (i + 1) (tokN i s m) := by
  unfold contN
  rw [NestP.runN]
  cases tokN i s m <;> rfl
def mtch (gm : Nat) (w0 w' : World) (F : List HP) (e : Ending) : Option MS → Prop
  | some m => e = .returned (.tuple #[.pointer (some ⟨gm, 0, none⟩), .bool true]) ∧ Sep w0 w' (Mt gm m :: F)
  | none => e = .returned (.tuple #[.pointer (some ⟨gm, 0, none⟩), .bool false]) ∧ Sep w0 w' F
theorem matchN_def (sg : List Int) : matchN sg = match NestP.runN 0 sg ⟨List.replicate sg.length (-1), [], 0⟩ with
  | some m => if m.opn = [] then some m else none
  | none => none := rfl
theorem mtch_some {gm : Nat} {w0 w' : World} {F : List HP} {sg : List Int} {m : MS} {n : Nat} (hn : sg.length = n) (h : NestP.runN 0 sg ⟨List.replicate n (-1), [], 0⟩ = some m) (hS : Sep w0 w' (Mt gm m :: F)) :
    mtch gm w0 w' F (.returned (.tuple #[.pointer (some ⟨gm, 0, none⟩), .bool (decide (m.opn.length = 0))])) (matchN sg) := by
  subst hn
  rw [matchN_def, h]
  dsimp only
  by_cases h0 : m.opn = []
  · rw [if_pos h0, h0]
    exact ⟨rfl, hS⟩
  · rw [if_neg h0, decide_eq_false (fun h1 => h0 (List.eq_nil_of_length_eq_zero h1))]
    exact ⟨rfl, hS.tail⟩
theorem mtch_none {gm : Nat} {w0 w' : World} {F : List HP} {sg : List Int} {n : Nat} (hn : sg.length = n) (h : NestP.runN 0 sg ⟨List.replicate n (-1), [], 0⟩ = none) (hS : Sep w0 w' F) :
    mtch gm w0 w' F (.returned (.tuple #[.pointer (some ⟨gm, 0, none⟩), .bool false])) (matchN sg) := by
  subst hn
  rw [matchN_def, h]
  exact ⟨rfl, hS⟩
section
variable {w0 W : World} {F : List HP}
theorem mt_new {gm gt n : Nat} (h : Sep w0 W (Blk gm 69 #[.slice (some ⟨gt, 0, none⟩) n n, .slice none 0 0, .int .i64 0] :: Row I64 3 (.slice (some ⟨gt, 0, none⟩) n n) (List.replicate n (-1)) :: F)) : Sep w0 W (Mt gm ⟨List.replicate n (-1), [], 0⟩ :: F) := by
  have h2 := Sep.push [_, _] (h.nilRow (Kd.raw 4) 92)
  exact mt_shut (m := ⟨List.replicate n (-1), [], 0⟩) (vt := .slice (some ⟨gt, 0, none⟩) n n) (vo := .slice none 0 0) (vs := []) rfl h2
set_option maxHeartbeats 3200000 in
set_option maxRecDepth 100000 in
theorem match_ {A : Option Addr} {n c : Nat} {l : List Tok} (hC : ∀ W', Sep w0 W' F → TC W' A n l) (h : Sep w0 W F) (hn : n ≤ 1000000) :
    Calls Try.prog 28 #[.slice A n c] W fun e w' => ∃ gm, mtch gm w0 w' F e (matchN (sgn l)) := by
  have hll := (hC W h).len
  have hsl : (sgn l).length = n := by unfold sgn; rw [List.length_map]; exact hll
  have hmk : ∀ W : World, (Instr.makeSlice 22 (.int .i64 (n : Int)) (.int .i64 (n : Int))).run Try.prog W = .ok (.slice (some ⟨W.heap.size, 0, none⟩) n n) (W.alloc (.cells (madeCells #[.int .i64 0] n) 3)) := by
    intro W
    exact print_make (P := Try.prog) 22 3 .i64 8 Try.underlying22 infoInt (by decide) n (by omega) W
  have S2 := (h.madeRow (h1 := fun _ => rfl) (e := 3) (enc := Value.int .i64) 0 n (by omega)).newBlk 69 #[.slice (some ⟨W.heap.size, 0, none⟩) n n, .slice none 0 0, .int .i64 0]
  rw [alloc_size] at S2
  have H2 := Aside0.mk S2
  have HL := Aside0.mk (And.intro hll hsl)
  have HC := Aside0.mk hC
  clear h S2 hC hll hsl
  obtain ⟨M0, hM0⟩ : ∃ M0 : MS, (⟨List.replicate n (-1), [], 0⟩ : MS) = M0 := ⟨_, rfl⟩
  have HM0 := Aside0.mk hM0
  clear hM0
  go_enter Try.func28, Try.ntmps28
  go_wp2_with fail
  obtain ⟨w2, hw2⟩ : ∃ x, (W.alloc (.cells (madeCells #[Value.int .i64 0] n) 3)).alloc (.cells #[.slice (some ⟨W.heap.size, 0, none⟩) n n, .slice none 0 0, .int .i64 0] 69) = x := ⟨_, rfl⟩
  rw [hw2] at H2 ⊢
  obtain ⟨gt, hgt⟩ : ∃ gt, W.heap.size = gt := ⟨_, rfl⟩
  rw [hgt] at H2 ⊢
  obtain ⟨gm, hgm⟩ : ∃ gm, gt + 1 = gm := ⟨_, rfl⟩
  rw [hgm] at H2 ⊢
  clear hw2 hgt hgm
  go_loopg [15] n (fun m q wr => ∃ j : Nat, j + m = n ∧ q = .int .i64 (j : Int) ∧ Sep w0 wr (Blk gm 69 #[.slice (some ⟨gt, 0, none⟩) n n, .slice none 0 0, .int .i64 0] :: Row I64 3 (.slice (some ⟨gt, 0, none⟩) n n) (List.replicate j (-1) ++ List.replicate (n - j) 0) :: F))
  case atStart => exact ⟨0, by omega, rfl, H2.out⟩
  case round =>
    obtain ⟨j, hjm, rfl, hS⟩ := hrel
    have AK := Aside0.mk hjm
    by_cases hj : j < n
    · have z0 : wr.cell? ⟨gm, 0, none⟩ = some (.slice (some ⟨gt, 0, none⟩) n n) := (hS.cell 0).trans rfl
      obtain ⟨f1, f2⟩ := hS.tail.rowCell (0 : Int) j hj
      have B1 := Aside0.mk ((hS.at2).putRow (enc := Value.int .i64) j (-1))
      have AJ := Aside0.mk hj
      clear hS hjm
      go_wp2_with fail
      go_roundg (gk - 1)
      case measure => have := AK.out; omega
      case rel => exact ⟨j + 1, by have := AK.out; omega, by go_num, by have h9 := B1.out.at2; rw [fill_set n j AJ.out] at h9; exact h9⟩
    · have hjn : j = n := by omega
      subst hjn
      rw [Nat.sub_self, List.replicate_zero, List.append_nil] at hS
      have B0 := Aside0.mk (mt_new hS)
      rw [HM0.out] at B0
      clear hS hjm AK hj
      obtain ⟨w3, hw3⟩ : ∃ x, wr = x := ⟨_, rfl⟩
      rw [hw3] at B0 ⊢
      clear hw3
      go_wp2_with fail
      go_loopg [27] j (fun m q wr => ∃ (i : Nat) (N : MS), i + m = j ∧ q = .int .i64 (i : Int) ∧ NestP.runN 0 (sgn l) M0 = NestP.runN i ((sgn l).drop i) N ∧ Bd i j N ∧ Sep w0 wr (Mt gm N :: F))
      case atStart => exact ⟨0, M0, by omega, rfl, rfl, by rw [← HM0.out]; exact ⟨by simp, Nat.zero_le _, fun p hp => by cases hp⟩, B0.out⟩
      case round =>
        obtain ⟨i, N, him, rfl, hrun, hbd, hS⟩ := hrel
        have AK := Aside0.mk him
        have HB := Aside0.mk hbd
        have HR := Aside0.mk hrun
        have HS := Aside0.mk hS
        by_cases hi : i < j
        · obtain ⟨ad, t, rfl, ht, d0, d1, d2⟩ := TC.at_ (HC.out _ hS.tail) hi
          obtain ⟨o, ho⟩ : ∃ o, tokN i t.sign N = o := ⟨_, rfl⟩
          have HO := Aside0.mk ho
          have hdrop : (sgn l).drop i = t.sign :: (sgn l).drop (i + 1) := by
            have hil : i < (sgn l).length := by rw [HL.out.2]; exact hi
            rw [List.drop_eq_getElem_cons hil]
            congr 1
            have h8 : (sgn l)[i]? = some t.sign := by unfold sgn; rw [List.getElem?_map, ht]; rfl
            rw [List.getElem?_eq_getElem hil] at h8
            exact Option.some.inj h8
          have HR2 : Aside0 (NestP.runN 0 (sgn l) M0 = contN ((sgn l).drop (i + 1)) (i + 1) o) := ⟨by rw [hrun, hdrop, runN_step, ho]⟩
          have HA := Aside0.mk (hS.alloc (.cells #[.int .i32 t.sign, .int .i64 t.num, .int .i32 t.name] 42))
          have hij : (i : Int) < (j : Int) := by omega
          have HI := Aside0.mk hi
          clear hS hrun hbd him ho ht hdrop
          cases o with
          | none =>
            go_wp2_with (go_at_call 35; refine (token_ HA.out HB.out HI.out hn t.sign).mono ?_; intro e w4 hA; rw [HO.out] at hA; obtain ⟨rfl, hA⟩ := hA; replace hA := Aside0.mk hA)
            go_ret2
            exact ⟨gm, mtch_none HL.out.2 (by rw [HM0.out]; exact HR2.out) hA.out⟩
          | some m2 =>
            go_wp2_with (go_at_call 35; refine (token_ HA.out HB.out HI.out hn t.sign).mono ?_; intro e w4 hA; rw [HO.out] at hA; obtain ⟨rfl, hA⟩ := hA; replace hA := Aside0.mk hA)
            go_roundg (gk - 1)
            case measure => have := AK.out; omega
            case rel => exact ⟨i + 1, m2, by have := AK.out; omega, by go_num, HR2.out, HB.out.tok HI.out HO.out, hA.out⟩
        · have hij : i = j := by omega
          obtain ⟨vt, vo, vs, hv, hs⟩ := mt_open hS
          obtain ⟨A9, c9, rfl⟩ := Sep.rowN (n := N.opn.length) (show Sep w0 wr (Row (Kd.raw 4) 92 vo (rawC N.opn.reverse vs) :: _) from Sep.pull [_, _] hs) (by rw [rawC_len _ vs hv, List.length_reverse])
          have z1 : ∀ q, (wr.drewN q).cell? ⟨gm, 1, none⟩ = some (.slice A9 N.opn.length c9) := fun q => (Sep.cell (show Sep w0 (wr.drewN q) (Blk gm 69 #[vt, .slice A9 N.opn.length c9, .int .i64 (N.deep : Int)] :: _) from hs.drewN q) 1).trans rfl
          subst hij
          have hrun2 : NestP.runN 0 (sgn l) M0 = some N := by rw [hrun, List.drop_of_length_le (by rw [HL.out.2]; exact Nat.le_refl _)]; rfl
          have HR2 := Aside0.mk hrun2
          have hde : ((N.opn.length : Int) == 0) = decide (N.opn.length = 0) := by rw [Bool.eq_iff_iff, beq_iff_eq, decide_eq_true_eq]; omega
          have HDE := Aside0.mk hde
          clear hS hs hrun hbd him hi hrun2 hv hde
          go_wp2_with fail
          go_quiet (fail)
          go_wp2_with fail
          go_ret2
          refine ⟨gm, ?_⟩
          have h9 := mtch_some HL.out.2 (by rw [HM0.out]; exact HR2.out) (HS.out.drewN nq)
          rw [← HDE.out] at h9
          exact h9
end
end Go.Proofs.Ytkkgfpdjlohojaa.Nest
