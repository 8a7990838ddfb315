/- Nest2, Elem, Nest3, Nest4, Nest5: what NestAdds needs. -/
import Derived.Test.YtkkgfpdjlohojaaTnestAdds3
import Derived.Deep.QuietTactic
import Derived.Deep.RegionWith
import Derived.Deep.LoopGhost
set_option linter.unusedVariables false
set_option linter.unusedSimpArgs false
namespace Go.Proofs.Ytkkgfpdjlohojaa.Nest
open Go.RowKit Go.Proofs.YtkkgfpdjlohojaaW.PrintWords Go.Proofs.YtkkgfpdjlohojaaW.PrintLast Go.Proofs.YtkkgfpdjlohojaaW.PrintMore Go.Proofs.Ytkkgfpdjlohojaa.Kit
open Go.Proofs.Ytkkgfpdjlohojaa.NestP
theorem infoPart : (Try.prog.info? 92).map (fun i => (i.zero, i.size, i.bytes)) = some (some (.agg #[.bool false, .int .i64 0, .int .i64 0, .slice none 0 0]), 4, 48) := by kernel_rfl
theorem one_raw {cl : List Value} {W : World} (hs : cl.length = 4) (h1 : ∀ u ∈ cl, u.oneCell' = true) : Reps ((Kd.raw 4).M W W.heap.size (fun _ => False)) (Kd.raw 4).sz [cl] cl :=
  ⟨by rw [List.length_singleton, Nat.one_mul]; exact hs, fun j c hj => by
    match j, hj with
    | 0, hj =>
      cases hj
      rw [Nat.zero_mul, List.drop_zero, List.take_of_length_le (by show cl.length ≤ 4; omega)]
      exact ⟨rfl, hs, h1⟩⟩
section
variable {w0 W : World} {F : List HP} {gm : Nat} {vt vo : Value} {tt : List Int} {ps : List Pt} {deep : Nat} {vs : List Value}
theorem fin_ {v7 : Value} {d m : Nat} {lp : Bool} {i : Nat} (hm : m = d) (hv : vs.length = ps.length) (h : Sep w0 W (Blk gm 69 #[vt, v7, .int .i64 (d : Int)] :: Row (Kd.raw 4) 92 v7 (rawC ps vs ++ [cellsP ⟨lp, i, 0, []⟩ (.slice none 0 0)]) :: Row I64 3 vt tt :: (lvR ps vs ++ F))) :
    Sep w0 W (MtL gm vt v7 tt (ps ++ [⟨lp, i, 0, []⟩]) m (vs ++ [.slice none 0 0]) ++ F) := by
  subst hm
  have h2 := (Sep.pull [_] (Sep.pull [_, _] h)).nilRow I64 3
  have h3 := Sep.push (Blk gm 69 #[vt, v7, .int .i64 (m : Int)] :: Row I64 3 vt tt :: Row (Kd.raw 4) 92 v7 (rawC ps vs ++ [cellsP ⟨lp, i, 0, []⟩ (.slice none 0 0)]) :: lvR ps vs) h2
  unfold MtL
  rw [rawC_app ps _ vs _ hv, lvR_app ps _ vs _ hv, List.cons_append, List.cons_append, List.cons_append, List.append_assoc]
  exact h3
set_option maxHeartbeats 1600000 in
set_option maxRecDepth 100000 in
theorem begin_ (h : Sep w0 W (MtL gm vt vo tt ps deep vs ++ F)) (hv : vs.length = ps.length) (hl : ps.length ≤ 1000) (lp : Bool) (i : Nat) :
    Calls Try.prog 40 #[.pointer (some ⟨gm, 0, none⟩), .int .i64 (i : Int), .bool lp] W fun e w' => e = .returned (.bool (decide (ps.length < 16))) ∧ ∃ vo2, Sep w0 w' (MtL gm vt vo2 tt (ps ++ [⟨lp, i, 0, []⟩]) (max deep (ps.length + 1)) (vs ++ [.slice none 0 0]) ++ F) := by
  have hrl := rawC_len ps vs hv
  have h1 : Sep w0 W (Row (Kd.raw 4) 92 vo (rawC ps vs) :: Blk gm 69 #[vt, vo, .int .i64 (deep : Int)] :: Row I64 3 vt tt :: (lvR ps vs ++ F)) := Sep.pull [_, _] h
  have z1 := (h1.at2.cell 1).trans rfl
  have h2 := h1.newLit (d := Kd.raw 4) (xs := [cellsP ⟨lp, i, 0, []⟩ (.slice none 0 0)]) (inner := cellsP ⟨lp, i, 0, []⟩ (.slice none 0 0)) (e := 92) (one_raw rfl (by
    intro u hu
    simp only [cellsP, List.mem_cons, List.not_mem_nil, or_false] at hu
    rcases hu with rfl | rfl | rfl | rfl <;> rfl)) (by simp)
  have L : Aside0 (Sep w0 (W.alloc (.cells #[.bool lp, .int .i64 (i : Int), .int .i64 0, .slice none 0 0] 92)) (Row (Kd.raw 4) 92 vo (rawC ps vs) :: Row (Kd.raw 4) 92 (.slice (some ⟨W.heap.size, 0, none⟩) 1 1) [cellsP ⟨lp, i, 0, []⟩ (.slice none 0 0)] :: Blk gm 69 #[vt, vo, .int .i64 (deep : Int)] :: Row I64 3 vt tt :: (lvR ps vs ++ F))) := ⟨h2.at2⟩
  have HRL := Aside0.mk (And.intro hrl (And.intro hl hv))
  clear h h1 h2 hrl hl hv
  go_enter Try.func40, Try.ntmps40
  go_wp2_with (first | (refine gate_builtin (b := .append) (xs := #[.tmp 11, .tmp 15]) rfl ?_; go_loud (refine L.out.appendRaw rfl (.tmp 11) (.tmp 15) 67 (.agg #[.bool false, .int .i64 0, .int .i64 0, .slice none 0 0]) 48 rfl Try.underlying67 infoPart rfl (by decide) (by decide) (some ⟨W.heap.size, 0, none⟩) 1 1 rfl rfl L.out.at2.rowC' (by rw [HRL.out.1]; have := HRL.out.2.1; simp; omega) ?_; intro v7 w7 hS7; obtain ⟨A7, c7, rfl⟩ := hS7.rowN (n := ps.length + 1) (by rw [List.length_append, HRL.out.1]; rfl); have z7 := (hS7.at3.cell 1).trans rfl; have f7 := hS7.at3.frozen 1; have B7 := Aside0.mk (hS7.at3.setBlk 1 (.slice A7 (ps.length + 1) c7)); clear hS7)))
  obtain ⟨w8, hw8⟩ : ∃ x, w7.setCell ⟨gm, 1, none⟩ (.slice A7 (ps.length + 1) c7) = x := ⟨_, rfl⟩
  rw [hw8] at B7 ⊢
  clear hw8 z7 f7 z1 L
  have BD := Aside0.mk B7.out.drew
  have f8 := BD.out.frozen 2
  have HV : Aside0 (vs.length = ps.length) := ⟨HRL.out.2.2⟩
  obtain ⟨M, hM⟩ : ∃ M, max deep (ps.length + 1) = M := ⟨_, rfl⟩
  have hmx : (if (deep : Int) < (ps.length : Int) + 1 then (ps.length : Int) + 1 else (deep : Int)) = (M : Int) := by split <;> omega
  have HM := Aside0.mk hM
  have HV : Aside0 (vs.length = ps.length) := ⟨HRL.out.2.2⟩
  clear hM
  refine start_ (n := 14) (S := fun w' => w'.cell? ⟨gm, 2, none⟩ = some (.int .i64 (deep : Int)) ∧ w'.cell? ⟨gm, 1, none⟩ = some (.slice A7 (ps.length + 1) c7)) (ds := [13]) #[Z,Z,Z,Z,Z,Z,Z,Z,Z,Z,Z,Z,Z,Z] (by kernel_rfl) rfl rfl ⟨(BD.out.cell 2).trans rfl, (BD.out.cell 1).trans rfl⟩ (fun hHeld => ?_)
  refine pu_ 0 19 ?_ #[J,Z,Z,Z,Z,Z,Z,Z,Z,Z,Z,Z,Z,Z] rfl rfl ?_ ?_ ?_ ?_
  rotate_left
  · intro w'
    go_simp
    with_reducible rfl
  rotate_left
  · simp only [aP]
    rfl
  refine pu_ 1 20 ?_ #[J,J,Z,Z,Z,Z,Z,Z,Z,Z,Z,Z,Z,Z] rfl rfl ?_ ?_ ?_ ?_
  rotate_left
  · intro w'
    go_simp
    with_reducible rfl
  rotate_left
  · simp only [aP]
    rfl
  refine pu_ 2 21 ?_ #[J,J,J,Z,Z,Z,Z,Z,Z,Z,Z,Z,Z,Z] rfl rfl ?_ ?_ ?_ ?_
  rotate_left
  · intro w'
    go_simp
    with_reducible rfl
  rotate_left
  · simp only [aP]
    rfl
  refine pu_ 3 22 ?_ #[J,J,J,J,Z,Z,Z,Z,Z,Z,Z,Z,Z,Z] rfl rfl ?_ ?_ ?_ ?_
  rotate_left
  · intro w'
    go_simp
    with_reducible rfl
  rotate_left
  · simp only [aP]
    rfl
  refine pu_ 5 24 ?_ #[J,J,J,J,Z,J,Z,Z,Z,Z,Z,Z,Z,Z] rfl rfl ?_ ?_ ?_ ?_
  rotate_left
  · intro w'
    go_simp
    with_reducible rfl
  rotate_left
  · simp only [aP]
    rfl
  refine pu_ 6 25 ?_ #[J,J,J,J,Z,J,J,Z,Z,Z,Z,Z,Z,Z] rfl rfl ?_ ?_ ?_ ?_
  rotate_left
  · intro w'
    go_simp
    with_reducible rfl
  rotate_left
  · simp only [aP]
    rfl
  refine pu_ 7 26 ?_ #[J,J,J,J,Z,J,J,J,Z,Z,Z,Z,Z,Z] rfl rfl ?_ ?_ ?_ ?_
  rotate_left
  · intro w'
    go_simp
    with_reducible rfl
  rotate_left
  · simp only [aP]
    rfl
  refine ta_ 4 23 ?_ #[J,J,J,J,J,J,J,J,Z,Z,Z,Z,Z,Z] rfl rfl ?_ hHeld ?_ ?_ ?_
  rotate_left
  · rintro w' ⟨s0, s1⟩
    go_simp
    with_reducible rfl
  rotate_left
  · simp only [aP]
    rfl
  refine ta_ 8 27 ?_ #[J,J,J,J,J,J,J,J,J,Z,Z,Z,Z,Z] rfl rfl ?_ hHeld ?_ ?_ ?_
  rotate_left
  · rintro w' ⟨s0, s1⟩
    go_simp
    with_reducible rfl
  rotate_left
  · simp only [aP]
    rfl
  refine pu_ 9 28 ?_ #[J,J,J,J,J,J,J,J,J,J,Z,Z,Z,Z] rfl rfl ?_ ?_ ?_ ?_
  rotate_left
  · intro w'
    go_simp
    with_reducible rfl
  rotate_left
  · simp only [aP]
    rfl
  refine pu_ 10 29 ?_ #[J,J,J,J,J,J,J,J,J,J,J,Z,Z,Z] rfl rfl ?_ ?_ ?_ ?_
  rotate_left
  · intro w'
    go_simp
    with_reducible rfl
  rotate_left
  · simp only [aP]
    rfl
  refine pu_ 11 30 ?_ #[J,J,J,J,J,J,J,J,J,J,J,J,Z,Z] rfl rfl ?_ ?_ ?_ ?_
  rotate_left
  · intro w'
    go_simp
    with_reducible rfl
  rotate_left
  · simp only [aP]
    rfl
  refine pu_ 12 31 ?_ #[J,J,J,J,J,J,J,J,J,J,J,J,J,Z] rfl rfl ?_ ?_ ?_ ?_
  rotate_left
  · intro w'
    go_simp
    with_reducible rfl
  rotate_left
  · simp only [aP]
    rfl
  refine last_ (i := 13) (N := none) #[J,J,J,J,J,J,J,J,J,J,J,J,J,J] rfl rfl (by kernel_rfl) (by decide) (fun K hK => ?_)
  refine skip_ (w1 := ?_) (by rfl) rfl ?_ ?_
  rotate_left
  · go_simp
    rfl
  refine hK.out _ _ ?_
  clear hK K
  refine done_ (by kernel_rfl) ?_
  have B9 := Aside0.mk (B7.out.setBlk 2 (.int .i64 (M : Int))).drew
  obtain ⟨w9, hw9⟩ : ∃ x, (w8.setCell ⟨gm, 2, none⟩ (.int .i64 (M : Int))).drew = x := ⟨_, rfl⟩
  rw [hw9] at B9 ⊢
  have z9 : w9.cell? ⟨gm, 1, none⟩ = some (.slice A7 (ps.length + 1) c7) := (B9.out.cell 1).trans rfl
  clear hw9 hmx
  have HD : Aside0 (decide ((ps.length : Int) + 1 ≤ 16) = decide (ps.length < 16)) := ⟨decide_eq_decide.2 (by omega)⟩
  go_wp2_with fail
  go_ret
  exact ⟨by rw [HD.out]; rfl, _, fin_ HM.out HV.out (Sep.pull [_, _] B9.out).tail⟩
end
end Go.Proofs.Ytkkgfpdjlohojaa.Nest
namespace Go.Proofs.Ytkkgfpdjlohojaa.Kit
open Go.RowKit Go.Proofs.YtkkgfpdjlohojaaW.PrintWords Go.Proofs.YtkkgfpdjlohojaaW.PrintLast Go.Proofs.YtkkgfpdjlohojaaW.PrintMore
theorem elem_ {α : Type} {d : Kd α} {W : World} {A : Option Addr} {n : Nat} {xs : List α} (h : d.C W A n xs) {i : Nat} (hi : i < n) :
    ∃ (hx : i < xs.length) (a : Addr) (cs : List Value), A = some a ∧ d.K W xs[i] cs ∧ (∀ u, cs[0]? = some u → W.cell? (a.add (i * d.sz)) = some u) ∧
      ∀ j u, 0 < j → cs[j]? = some u → W.cell? ⟨(a.add (i * d.sz)).block, (a.add (i * d.sz)).off + j, none⟩ = some u := by
  have hx : i < xs.length := by rw [h.1]; exact hi
  obtain ⟨a, e, hr⟩ := h.2.2 (by omega)
  obtain ⟨cs, hl, hk, hc⟩ := hr i _ (List.getElem?_eq_getElem hx)
  refine ⟨hx, a, cs, e, hk, fun u hu => ?_, fun j u hj hu => ?_⟩
  · have := hc 0 u hu; rwa [Nat.add_zero] at this
  · have := hc j u hu
    rwa [add_field _ _ j hj] at this
end Go.Proofs.Ytkkgfpdjlohojaa.Kit
namespace Go.Proofs.Ytkkgfpdjlohojaa.Nest
open Go.RowKit Go.Proofs.YtkkgfpdjlohojaaW.PrintWords Go.Proofs.YtkkgfpdjlohojaaW.PrintLast Go.Proofs.YtkkgfpdjlohojaaW.PrintMore Go.Proofs.Ytkkgfpdjlohojaa.Kit
open Go.Proofs.Ytkkgfpdjlohojaa.NestP
theorem rawAt {w0 W : World} {F : List HP} {sz T ga N c k : Nat} {xs : List (List Value)} {cl : List Value} (h : Sep w0 W (Row (Kd.raw sz) T (.slice (some ⟨ga, 0, none⟩) N c) xs :: F)) (hk : xs[k]? = some cl) :
    (∀ q u, cl[q]? = some u → W.cell? ⟨ga, k * sz + q, none⟩ = some u) ∧ ∀ q, W.frozen? ⟨ga, q, none⟩ = false := by
  obtain ⟨hN, hc, hC⟩ := h.rowC
  have hkl : k < xs.length := (List.getElem?_eq_some_iff.1 hk).1
  constructor
  · intro q u hu
    obtain ⟨hx, a, cs, ha, hK, h0, hj⟩ := elem_ hC hkl
    cases ha
    have hK1 : cs = xs[k] := hK.1
    have hcl : xs[k] = cl := by rw [List.getElem?_eq_getElem hkl] at hk; exact Option.some.inj hk
    rw [hcl] at hK1
    subst hK1
    have e1 : (Kd.raw sz).sz = sz := rfl
    rw [e1, add_plain] at h0 hj
    rcases Nat.eq_zero_or_pos q with rfl | hq
    · exact h0 u hu
    · exact hj q u hq hu
  · intro q
    obtain ⟨ok, hr⟩ := h.row
    obtain ⟨inner, ho, _⟩ := hr.2
    obtain ⟨cells, hcell⟩ := own_typed ho ga (by simp [Value.ownBlock])
    simp [World.frozen?, hcell]
section
variable {w0 W : World} {F : List HP} {gm : Nat} {vt vo v : Value} {tt : List Int} {ps : List Pt} {p : Pt} {deep : Nat} {vs : List Value}
def MtS (gm : Nat) (vt vo : Value) (tt : List Int) (ps : List Pt) (p : Pt) (deep : Nat) (vs : List Value) (v : Value) (F : List HP) : List HP :=
  Blk gm 69 #[vt, vo, .int .i64 (deep : Int)] :: Row I64 3 vt tt :: Row (Kd.raw 4) 92 vo (rawC ps vs ++ [cellsP p v]) :: Row I64 3 v (p.lvs.map (fun k : Nat => (k : Int))) :: (lvR ps vs ++ F)
theorem mts (hv : vs.length = ps.length) (h : Sep w0 W (MtL gm vt vo tt (ps ++ [p]) deep (vs ++ [v]) ++ F)) : Sep w0 W (MtS gm vt vo tt ps p deep vs v F) := by
  unfold MtL at h
  rw [rawC_app ps _ vs _ hv, lvR_app ps _ vs _ hv, List.cons_append, List.cons_append, List.cons_append, List.append_assoc] at h
  exact Sep.push [_, _, _] (Sep.pull (Blk gm 69 #[vt, vo, .int .i64 (deep : Int)] :: Row I64 3 vt tt :: Row (Kd.raw 4) 92 vo (rawC ps vs ++ [cellsP p v]) :: lvR ps vs) h)
theorem stm (hv : vs.length = ps.length) (h : Sep w0 W (MtS gm vt vo tt ps p deep vs v F)) : Sep w0 W (MtL gm vt vo tt (ps ++ [p]) deep (vs ++ [v]) ++ F) := by
  have h3 := Sep.push (Blk gm 69 #[vt, vo, .int .i64 (deep : Int)] :: Row I64 3 vt tt :: Row (Kd.raw 4) 92 vo (rawC ps vs ++ [cellsP p v]) :: lvR ps vs) (Sep.pull [_, _, _] h)
  unfold MtL
  rw [rawC_app ps _ vs _ hv, lvR_app ps _ vs _ hv, List.cons_append, List.cons_append, List.cons_append, List.append_assoc]
  exact h3
theorem topRow {hv : vs.length = ps.length} (h : Sep w0 W (MtS gm vt vo tt ps p deep vs v F)) : ∃ ga c, vo = .slice (some ⟨ga, 0, none⟩) (ps.length + 1) c := by
  have h2 : Sep w0 W (Row (Kd.raw 4) 92 vo (rawC ps vs ++ [cellsP p v]) :: _) := Sep.pull [_, _] h
  exact h2.rowFormN (by rw [List.length_append, rawC_len ps vs hv]; rfl) (by omega)
theorem topCell {ga c : Nat} (hv : vs.length = ps.length) (h : Sep w0 W (MtS gm vt (.slice (some ⟨ga, 0, none⟩) (ps.length + 1) c) tt ps p deep vs v F)) :
    W.cell? ⟨ga, ps.length * 4, none⟩ = some (.bool p.loop) ∧ W.cell? ⟨ga, ps.length * 4 + 1, none⟩ = some (.int .i64 (p.beg : Int)) ∧ W.cell? ⟨ga, ps.length * 4 + 2, none⟩ = some (.int .i64 (p.oth : Int)) ∧ W.cell? ⟨ga, ps.length * 4 + 3, none⟩ = some v ∧ ∀ q, W.frozen? ⟨ga, q, none⟩ = false := by
  have h2 : Sep w0 W (Row (Kd.raw 4) 92 (.slice (some ⟨ga, 0, none⟩) (ps.length + 1) c) (rawC ps vs ++ [cellsP p v]) :: _) := Sep.pull [_, _] h
  obtain ⟨h3, h4⟩ := rawAt (k := ps.length) (cl := cellsP p v) h2 (by rw [List.getElem?_append_right (by rw [rawC_len ps vs hv]; omega), rawC_len ps vs hv, Nat.sub_self]; rfl)
  exact ⟨h3 0 _ rfl, h3 1 _ rfl, h3 2 _ rfl, h3 3 _ rfl, h4⟩
theorem topPut {ga c q : Nat} {u : Value} {p2 : Pt} (hv : vs.length = ps.length) (h : Sep w0 W (MtS gm vt (.slice (some ⟨ga, 0, none⟩) (ps.length + 1) c) tt ps p deep vs v F)) (hq : q < 4) (hu : u.oneCell' = true) (hc : (cellsP p v).set q u = cellsP p2 v) (hl : p2.lvs = p.lvs) :
    Sep w0 (W.setCell ⟨ga, ps.length * 4 + q, none⟩ u) (MtS gm vt (.slice (some ⟨ga, 0, none⟩) (ps.length + 1) c) tt ps p2 deep vs v F) := by
  have h2 : Sep w0 W (Row (Kd.raw 4) 92 (.slice (some ⟨ga, 0, none⟩) (ps.length + 1) c) (rawC ps vs ++ [cellsP p v]) :: _) := Sep.pull [_, _] h
  have hl2 := rawC_len ps vs hv
  have h3 := h2.putRaw (j := ps.length) (q := q) (u := u) (by rw [List.length_append, hl2]; exact Nat.lt_succ_self _) hq hu
  have e1 : (rawC ps vs ++ [cellsP p v]).getD ps.length [] = cellsP p v := by rw [List.getD_eq_getElem?_getD, List.getElem?_append_right (by omega), hl2, Nat.sub_self]; rfl
  have e2 : (rawC ps vs ++ [cellsP p v]).set ps.length (cellsP p2 v) = rawC ps vs ++ [cellsP p2 v] := by rw [List.set_append_right _ _ (by omega), hl2, Nat.sub_self]; rfl
  rw [e1, hc, e2] at h3
  unfold MtS
  rw [hl]
  exact Sep.push [_, _] h3
theorem topForm (h : Sep w0 W (MtS gm vt vo tt ps p deep vs v F)) (hp : 0 < tt.length) : ∃ gt ct, vt = .slice (some ⟨gt, 0, none⟩) tt.length ct := by
  have h2 : Sep w0 W (Row I64 3 vt tt :: _) := Sep.pull [_] h
  exact h2.rowForm hp
theorem otherPut {ga c : Nat} (hv : vs.length = ps.length) (h : Sep w0 W (MtL gm vt (.slice (some ⟨ga, 0, none⟩) (ps.length + 1) c) tt (ps ++ [p]) deep (vs ++ [v]) ++ F)) (i : Nat) :
    Aside0 (Sep w0 (W.setCell ⟨ga, ps.length * 4 + 2, none⟩ (.int .i64 (i : Int))) (MtS gm vt (.slice (some ⟨ga, 0, none⟩) (ps.length + 1) c) tt ps { p with oth := i } deep vs v F)) :=
  ⟨topPut (p2 := { p with oth := i }) (q := 2) (u := .int .i64 (i : Int)) hv (mts hv h) (by omega) rfl rfl rfl⟩
set_option maxHeartbeats 1600000 in
theorem other_nil (h : Sep w0 W (MtL gm vt vo tt [] deep [] ++ F)) (i : Nat) : Calls Try.prog 41 #[.pointer (some ⟨gm, 0, none⟩), .int .i64 (i : Int)] W fun e w' => e = .returned (.bool false) ∧ W = w' := by
  have H := Aside0.mk h
  clear h
  go_enter Try.func41, Try.ntmps41
  go_wp2_with (go_at_call 46; refine (top_nil H.out).mono ?_; rintro e w1 ⟨rfl, rfl⟩)
  go_ret
  exact ⟨by first | rfl | (simp; done), rfl⟩
set_option maxHeartbeats 1600000 in
theorem other_no (hv : vs.length = ps.length) (h : Sep w0 W (MtL gm vt vo tt (ps ++ [p]) deep (vs ++ [v]) ++ F)) (i : Nat) (hn : p.loop = true ∨ 0 < p.oth) : Calls Try.prog 41 #[.pointer (some ⟨gm, 0, none⟩), .int .i64 (i : Int)] W fun e w' => e = .returned (.bool false) ∧ Sep w0 w' (MtL gm vt vo tt (ps ++ [p]) deep (vs ++ [v]) ++ F) := by
  obtain ⟨ga, c, rfl⟩ := topRow (hv := hv) (mts hv h)
  have H := Aside0.mk h
  have HV := Aside0.mk hv
  clear h hv
  rcases hn with hn | hn
  · go_enter Try.func41, Try.ntmps41
    go_wp2_with (go_at_call 46; refine (top_some (n := ps.length) H.out rfl).mono ?_; rintro e w1 ⟨rfl, hS⟩; obtain ⟨z0, z1, z2, z3, zf⟩ := topCell HV.out (mts HV.out hS); rw [hn] at z0; replace hS := Aside0.mk hS)
    go_ret
    exact ⟨by first | rfl | (simp; done), hS.out⟩
  · cases hl : p.loop
    · have hd : decide (0 < (p.oth : Int)) = true := decide_eq_true (by omega)
      have hd2 : decide (0 < p.oth) = true := decide_eq_true (by omega)
      go_enter Try.func41, Try.ntmps41
      go_wp2_with (go_at_call 46; refine (top_some (n := ps.length) H.out rfl).mono ?_; rintro e w1 ⟨rfl, hS⟩; obtain ⟨z0, z1, z2, z3, zf⟩ := topCell HV.out (mts HV.out hS); rw [hl] at z0; replace hS := Aside0.mk hS)
      go_ret
      exact ⟨by first | rfl | (simp; done), hS.out⟩
    · go_enter Try.func41, Try.ntmps41
      go_wp2_with (go_at_call 46; refine (top_some (n := ps.length) H.out rfl).mono ?_; rintro e w1 ⟨rfl, hS⟩; obtain ⟨z0, z1, z2, z3, zf⟩ := topCell HV.out (mts HV.out hS); rw [hl] at z0; replace hS := Aside0.mk hS)
      go_ret
      exact ⟨by first | rfl | (simp; done), hS.out⟩
set_option maxHeartbeats 3200000 in
set_option maxRecDepth 100000 in
theorem other_yes (hv : vs.length = ps.length) (h : Sep w0 W (MtL gm vt vo tt (ps ++ [p]) deep (vs ++ [v]) ++ F)) (i : Nat) (hl : p.loop = false) (ho : p.oth = 0) (hb : p.beg < tt.length) (hi : (i : Int) < 9223372036854775807) :
    Calls Try.prog 41 #[.pointer (some ⟨gm, 0, none⟩), .int .i64 (i : Int)] W fun e w' => e = .returned (.bool true) ∧ Sep w0 w' (MtL gm vt vo (tt.set p.beg ((i : Int) + 1)) (ps ++ [{ p with oth := i }]) deep (vs ++ [v]) ++ F) := by
  obtain ⟨ga, c, rfl⟩ := topRow (hv := hv) (mts hv h)
  obtain ⟨gt, ct, rfl⟩ := topForm (mts hv h) (by omega)
  have H := Aside0.mk h
  have HV := Aside0.mk hv
  have HL := Aside0.mk hl
  have HO := Aside0.mk ho
  have hw : wrap64 ((i : Int) + 1) = (i : Int) + 1 := IntWalk.wrap64_in _ (by omega)
  clear h hv hl ho
  go_enter Try.func41, Try.ntmps41
  go_wp2_with (go_at_call 46; go_loud (refine (top_some (n := ps.length) H.out rfl).mono ?_; rintro e w1 ⟨rfl, hS⟩; obtain ⟨z0, z1, z2, z3, zf⟩ := topCell HV.out (mts HV.out hS); rw [HL.out] at z0; rw [HO.out] at z2; have zf2 := zf (ps.length * 4 + 2); clear zf; have B1 := otherPut HV.out hS i; clear hS))
  obtain ⟨w2, hw2⟩ : ∃ x, w1.setCell ⟨ga, ps.length * 4 + 2, none⟩ (.int .i64 (i : Int)) = x := ⟨_, rfl⟩
  rw [hw2] at B1 ⊢
  clear hw2 zf2 z0 z1 z2 z3
  have c0 : w2.drew.cell? ⟨gm, 0, none⟩ = some (.slice (some ⟨gt, 0, none⟩) tt.length ct) := (Sep.cell (show Sep w0 w2.drew (Blk gm 69 #[.slice (some ⟨gt, 0, none⟩) tt.length ct, _, _] :: _) from B1.out.drew) 0).trans rfl
  have c1 : w2.drew.cell? ⟨ga, ps.length * 4 + 1, none⟩ = some (.int .i64 (p.beg : Int)) := (topCell HV.out B1.out.drew).2.1
  obtain ⟨f1, f2⟩ := Sep.rowCell (0 : Int) (Sep.pull [_] B1.out.drew) p.beg hb
  have hit : (p.beg : Int).toNat = p.beg := rfl
  have hi1 : (p.beg : Int) < (tt.length : Int) := by omega
  refine start_ (n := 12) (S := fun w' => w'.cell? ⟨gm, 0, none⟩ = some (.slice (some ⟨gt, 0, none⟩) tt.length ct) ∧ w'.cell? ⟨ga, ps.length * 4 + 1, none⟩ = some (.int .i64 (p.beg : Int))) (ds := [11]) #[Z,Z,Z,Z,Z,Z,Z,Z,Z,Z,Z,Z] (by kernel_rfl) rfl rfl ⟨c0, c1⟩ (fun hHeld => ?_)
  refine pu_ 0 27 ?_ #[J,Z,Z,Z,Z,Z,Z,Z,Z,Z,Z,Z] rfl rfl ?_ ?_ ?_ ?_
  rotate_left
  · intro w'
    go_simp
    with_reducible rfl
  rotate_left
  · simp only [aP]
    rfl
  refine pu_ 1 28 ?_ #[J,J,Z,Z,Z,Z,Z,Z,Z,Z,Z,Z] rfl rfl ?_ ?_ ?_ ?_
  rotate_left
  · intro w'
    go_simp
    with_reducible rfl
  rotate_left
  · simp only [aP]
    rfl
  refine pu_ 2 29 ?_ #[J,J,J,Z,Z,Z,Z,Z,Z,Z,Z,Z] rfl rfl ?_ ?_ ?_ ?_
  rotate_left
  · intro w'
    go_simp
    with_reducible rfl
  rotate_left
  · simp only [aP]
    rfl
  refine pu_ 4 31 ?_ #[J,J,J,Z,J,Z,Z,Z,Z,Z,Z,Z] rfl rfl ?_ ?_ ?_ ?_
  rotate_left
  · intro w'
    go_simp
    with_reducible rfl
  rotate_left
  · simp only [aP]
    rfl
  refine pu_ 5 32 ?_ #[J,J,J,Z,J,J,Z,Z,Z,Z,Z,Z] rfl rfl ?_ ?_ ?_ ?_
  rotate_left
  · intro w'
    go_simp
    with_reducible rfl
  rotate_left
  · simp only [aP]
    rfl
  refine pu_ 6 33 ?_ #[J,J,J,Z,J,J,J,Z,Z,Z,Z,Z] rfl rfl ?_ ?_ ?_ ?_
  rotate_left
  · intro w'
    go_simp
    with_reducible rfl
  rotate_left
  · simp only [aP]
    rfl
  refine pu_ 8 35 ?_ #[J,J,J,Z,J,J,J,Z,J,Z,Z,Z] rfl rfl ?_ ?_ ?_ ?_
  rotate_left
  · intro w'
    go_simp
    with_reducible rfl
  rotate_left
  · simp only [aP]
    rfl
  refine pu_ 9 36 ?_ #[J,J,J,Z,J,J,J,Z,J,J,Z,Z] rfl rfl ?_ ?_ ?_ ?_
  rotate_left
  · intro w'
    go_simp
    with_reducible rfl
  rotate_left
  · simp only [aP]
    rfl
  refine ta_ 3 30 ?_ #[J,J,J,J,J,J,J,Z,J,J,Z,Z] rfl rfl ?_ hHeld ?_ ?_ ?_
  rotate_left
  · rintro w' ⟨s0, s1⟩
    go_simp
    with_reducible rfl
  rotate_left
  · simp only [aP]
    rfl
  refine ta_ 7 34 ?_ #[J,J,J,J,J,J,J,J,J,J,Z,Z] rfl rfl ?_ hHeld ?_ ?_ ?_
  rotate_left
  · rintro w' ⟨s0, s1⟩
    go_simp
    with_reducible rfl
  rotate_left
  · simp only [aP]
    rfl
  refine pu_ 10 37 ?_ #[J,J,J,J,J,J,J,J,J,J,J,Z] rfl rfl ?_ ?_ ?_ ?_
  rotate_left
  · intro w'
    go_simp
    with_reducible rfl
  rotate_left
  · simp only [aP]
    rfl
  refine last_ (i := 11) (N := none) #[J,J,J,J,J,J,J,J,J,J,J,J] rfl rfl (by kernel_rfl) (by decide) (fun K hK => ?_)
  refine skip_ (w1 := ?_) (by rfl) rfl ?_ ?_
  rotate_left
  · go_simp
    rfl
  refine hK.out _ _ ?_
  clear hK K
  refine done_ (by kernel_rfl) ?_
  have B2 := Aside0.mk ((Sep.pull [_] B1.out).putRow (enc := Value.int .i64) p.beg ((i : Int) + 1)).drew
  go_wp2_with fail
  go_ret
  exact ⟨by first | rfl | (simp; done), stm HV.out (Sep.push [_] B2.out)⟩
end
end Go.Proofs.Ytkkgfpdjlohojaa.Nest
namespace Go.Proofs.Ytkkgfpdjlohojaa.Nest
open Go.RowKit Go.Proofs.YtkkgfpdjlohojaaW.PrintWords Go.Proofs.YtkkgfpdjlohojaaW.PrintLast Go.Proofs.YtkkgfpdjlohojaaW.PrintMore Go.Proofs.Ytkkgfpdjlohojaa.Kit
open Go.Proofs.Ytkkgfpdjlohojaa.NestP
section
variable {w0 W : World} {F : List HP} {gm : Nat} {vt vo v : Value} {tt : List Int} {ps : List Pt} {p : Pt} {deep : Nat} {vs : List Value}
theorem popFin {ga N c : Nat} (hv : vs.length = ps.length) (h : Sep w0 W (MtS gm vt (.slice (some ⟨ga, 0, none⟩) N c) tt ps p deep vs v F)) :
    Sep w0 (W.setCell ⟨gm, 1, none⟩ (.slice (some ⟨ga, 0, none⟩) ps.length c)) (MtL gm vt (.slice (some ⟨ga, 0, none⟩) ps.length c) tt ps deep vs ++ F) := by
  have hl2 := rawC_len ps vs hv
  have h1 := Sep.setBlk (show Sep w0 W (Blk gm 69 #[vt, .slice (some ⟨ga, 0, none⟩) N c, .int .i64 (deep : Int)] :: _) from h) 1 (.slice (some ⟨ga, 0, none⟩) ps.length c)
  have h2 := Sep.rowTake (m := ps.length) (Sep.pull [_, _] h1) (by rw [List.length_append, hl2]; omega)
  rw [List.take_append_of_le_length (by omega), List.take_of_length_le (by omega)] at h2
  unfold MtL
  exact Sep.push [_, _] ((Sep.pull [_, _, _] h2).tail)
theorem capN {ga N c : Nat} (h : Sep w0 W (MtS gm vt (.slice (some ⟨ga, 0, none⟩) N c) tt ps p deep vs v F)) : N ≤ c ∧ N ≤ 9223372036854775807 := by
  have h1 := Sep.rowC' (show Sep w0 W (Row (Kd.raw 4) 92 (.slice (some ⟨ga, 0, none⟩) N c) _ :: _) from Sep.pull [_, _] h)
  have h2 := Sep.rowC (show Sep w0 W (Row (Kd.raw 4) 92 (.slice (some ⟨ga, 0, none⟩) N c) _ :: _) from Sep.pull [_, _] h)
  exact ⟨h2.2.1, h1.2.1⟩
set_option maxHeartbeats 1600000 in
theorem endIf_nil (h : Sep w0 W (MtL gm vt vo tt [] deep [] ++ F)) (i : Nat) : Calls Try.prog 42 #[.pointer (some ⟨gm, 0, none⟩), .int .i64 (i : Int)] W fun e w' => e = .returned (.bool false) ∧ W = w' := by
  have H := Aside0.mk h
  clear h
  go_enter Try.func42, Try.ntmps42
  go_wp2_with (go_at_call 46; refine (top_nil H.out).mono ?_; rintro e w1 ⟨rfl, rfl⟩)
  go_ret
  exact ⟨by first | rfl | (simp; done), rfl⟩
set_option maxHeartbeats 1600000 in
theorem endIf_no (hv : vs.length = ps.length) (h : Sep w0 W (MtL gm vt vo tt (ps ++ [p]) deep (vs ++ [v]) ++ F)) (i : Nat) (hn : p.loop = true) : Calls Try.prog 42 #[.pointer (some ⟨gm, 0, none⟩), .int .i64 (i : Int)] W fun e w' => e = .returned (.bool false) ∧ Sep w0 w' (MtL gm vt vo tt (ps ++ [p]) deep (vs ++ [v]) ++ F) := by
  obtain ⟨ga, c, rfl⟩ := topRow (hv := hv) (mts hv h)
  have H := Aside0.mk h
  have HV := Aside0.mk hv
  have HN := Aside0.mk hn
  clear h hv hn
  go_enter Try.func42, Try.ntmps42
  go_wp2_with (go_at_call 46; refine (top_some (n := ps.length) H.out rfl).mono ?_; rintro e w1 ⟨rfl, hS⟩; obtain ⟨z0, z1, z2, z3, zf⟩ := topCell HV.out (mts HV.out hS); rw [HN.out] at z0; replace hS := Aside0.mk hS)
  go_ret
  exact ⟨by first | rfl | (simp; done), hS.out⟩
set_option maxHeartbeats 3200000 in
set_option maxRecDepth 100000 in
theorem endIf_o (hv : vs.length = ps.length) (h : Sep w0 W (MtL gm vt vo tt (ps ++ [p]) deep (vs ++ [v]) ++ F)) (i : Nat) (hl : p.loop = false) (ho : 0 < p.oth) (hb : p.oth < tt.length) :
    Calls Try.prog 42 #[.pointer (some ⟨gm, 0, none⟩), .int .i64 (i : Int)] W fun e w' => e = .returned (.bool true) ∧ ∃ vo2, Sep w0 w' (MtL gm vt vo2 (tt.set p.oth (i : Int)) ps deep vs ++ F) := by
  obtain ⟨ga, c, rfl⟩ := topRow (hv := hv) (mts hv h)
  obtain ⟨gt, ct, rfl⟩ := topForm (mts hv h) (by omega)
  have HL := Aside0.mk hl
  obtain ⟨q, hq⟩ : ∃ q, p.oth = q := ⟨_, rfl⟩
  have HQ := Aside0.mk hq
  have hd : decide (0 < (q : Int)) = true := decide_eq_true (by omega)
  have hd2 : decide (0 < q) = true := decide_eq_true (by omega)
  have HV := Aside0.mk hv
  obtain ⟨N, hN⟩ : ∃ N, ps.length + 1 = N := ⟨_, rfl⟩
  rw [hN] at h
  have hNc := capN (mts hv h)
  have hw : wrap64 ((N : Int) - 1) = (ps.length : Int) := by rw [IntWalk.wrap64_in _ (by omega)]; omega
  have hcut := cutHi (z := (.agg #[.bool false, .int .i64 0, .int .i64 0, .slice none 0 0])) (sz := 4) (bytes := 48) Try.underlying67 infoPart (some ⟨ga, 0, none⟩) N c ps.length (K := (ps.length : Int)) rfl (by omega) hNc.1
  have HN := Aside0.mk hN
  have HB := Aside0.mk hb
  have H := Aside0.mk h
  clear h hv hl ho hNc hN
  go_enter Try.func42, Try.ntmps42
  go_wp2_with (go_at_call 46; refine (top_some (n := ps.length) H.out HN.out.symm).mono ?_; rintro e w1 ⟨rfl, hS⟩; obtain ⟨z0, z1, z2, z3, zf⟩ := topCell HV.out (mts HV.out (by rw [HN.out]; exact hS)); rw [HL.out] at z0; rw [HQ.out] at z2; have B1 := Aside0.mk (mts HV.out hS); clear hS)
  clear zf hb
  have c0 : w1.drew.cell? ⟨gm, 0, none⟩ = some (.slice (some ⟨gt, 0, none⟩) tt.length ct) := (Sep.cell (show Sep w0 w1.drew (Blk gm 69 #[.slice (some ⟨gt, 0, none⟩) tt.length ct, _, _] :: _) from B1.out.drew) 0).trans rfl
  have c1 : w1.drew.cell? ⟨ga, ps.length * 4 + 2, none⟩ = some (.int .i64 (q : Int)) := z2
  obtain ⟨f1, f2⟩ := Sep.rowCell (0 : Int) (Sep.pull [_] B1.out.drew) q (by have := HB.out; have := HQ.out; omega)
  have hit : (q : Int).toNat = q := rfl
  have hi1 : (q : Int) < (tt.length : Int) := by have := HB.out; have := HQ.out; omega
  clear z0 z1 z2 z3
  refine start_ (n := 11) (S := fun w' => w'.cell? ⟨gm, 0, none⟩ = some (.slice (some ⟨gt, 0, none⟩) tt.length ct) ∧ w'.cell? ⟨ga, ps.length * 4 + 2, none⟩ = some (.int .i64 (q : Int))) (ds := [10]) #[Z,Z,Z,Z,Z,Z,Z,Z,Z,Z,Z] (by kernel_rfl) rfl rfl ⟨c0, c1⟩ (fun hHeld => ?_)
  refine pu_ 0 21 ?_ #[J,Z,Z,Z,Z,Z,Z,Z,Z,Z,Z] rfl rfl ?_ ?_ ?_ ?_
  rotate_left
  · intro w'
    go_simp
    with_reducible rfl
  rotate_left
  · simp only [aP]
    rfl
  refine pu_ 1 22 ?_ #[J,J,Z,Z,Z,Z,Z,Z,Z,Z,Z] rfl rfl ?_ ?_ ?_ ?_
  rotate_left
  · intro w'
    go_simp
    with_reducible rfl
  rotate_left
  · simp only [aP]
    rfl
  refine pu_ 2 23 ?_ #[J,J,J,Z,Z,Z,Z,Z,Z,Z,Z] rfl rfl ?_ ?_ ?_ ?_
  rotate_left
  · intro w'
    go_simp
    with_reducible rfl
  rotate_left
  · simp only [aP]
    rfl
  refine pu_ 4 25 ?_ #[J,J,J,Z,J,Z,Z,Z,Z,Z,Z] rfl rfl ?_ ?_ ?_ ?_
  rotate_left
  · intro w'
    go_simp
    with_reducible rfl
  rotate_left
  · simp only [aP]
    rfl
  refine pu_ 5 26 ?_ #[J,J,J,Z,J,J,Z,Z,Z,Z,Z] rfl rfl ?_ ?_ ?_ ?_
  rotate_left
  · intro w'
    go_simp
    with_reducible rfl
  rotate_left
  · simp only [aP]
    rfl
  refine pu_ 6 27 ?_ #[J,J,J,Z,J,J,J,Z,Z,Z,Z] rfl rfl ?_ ?_ ?_ ?_
  rotate_left
  · intro w'
    go_simp
    with_reducible rfl
  rotate_left
  · simp only [aP]
    rfl
  refine pu_ 8 29 ?_ #[J,J,J,Z,J,J,J,Z,J,Z,Z] rfl rfl ?_ ?_ ?_ ?_
  rotate_left
  · intro w'
    go_simp
    with_reducible rfl
  rotate_left
  · simp only [aP]
    rfl
  refine ta_ 3 24 ?_ #[J,J,J,J,J,J,J,Z,J,Z,Z] rfl rfl ?_ hHeld ?_ ?_ ?_
  rotate_left
  · rintro w' ⟨s0, s1⟩
    go_simp
    with_reducible rfl
  rotate_left
  · simp only [aP]
    rfl
  refine ta_ 7 28 ?_ #[J,J,J,J,J,J,J,J,J,Z,Z] rfl rfl ?_ hHeld ?_ ?_ ?_
  rotate_left
  · rintro w' ⟨s0, s1⟩
    go_simp
    with_reducible rfl
  rotate_left
  · simp only [aP]
    rfl
  refine pu_ 9 30 ?_ #[J,J,J,J,J,J,J,J,J,J,Z] rfl rfl ?_ ?_ ?_ ?_
  rotate_left
  · intro w'
    go_simp
    with_reducible rfl
  rotate_left
  · simp only [aP]
    rfl
  refine last_ (i := 10) (N := none) #[J,J,J,J,J,J,J,J,J,J,J] rfl rfl (by kernel_rfl) (by decide) (fun K hK => ?_)
  refine skip_ (w1 := ?_) (by rfl) rfl ?_ ?_
  rotate_left
  · go_simp
    rfl
  refine hK.out _ _ ?_
  clear hK K
  refine done_ (by kernel_rfl) ?_
  have B2 := Aside0.mk ((Sep.pull [_] B1.out).putRow (enc := Value.int .i64) q (i : Int)).drew
  obtain ⟨w2, hw2⟩ : ∃ x, (w1.setCell ⟨gt, q, none⟩ (.int .i64 (i : Int))).drew = x := ⟨_, rfl⟩
  rw [hw2] at B2 ⊢
  clear hw2 c0 c1 f1 f2 hit hi1
  have B3 : Aside0 (Sep w0 w2 (MtS gm (.slice (some ⟨gt, 0, none⟩) tt.length ct) (.slice (some ⟨ga, 0, none⟩) N c) (tt.set q (i : Int)) ps p deep vs v F)) := ⟨Sep.push [_] B2.out⟩
  have d1 : w2.drew.cell? ⟨gm, 1, none⟩ = some (.slice (some ⟨ga, 0, none⟩) N c) := (Sep.cell (show Sep w0 w2.drew (Blk gm 69 #[_, .slice (some ⟨ga, 0, none⟩) N c, _] :: _) from B3.out.drew) 1).trans rfl
  have d2 : w2.drew.frozen? ⟨gm, 1, none⟩ = false := Sep.frozen (show Sep w0 w2.drew (Blk gm 69 #[_, .slice (some ⟨ga, 0, none⟩) N c, _] :: _) from B3.out.drew) 1
  go_wp2_with fail
  refine start_ (n := 15) (S := fun w' => w'.cell? ⟨gm, 1, none⟩ = some (.slice (some ⟨ga, 0, none⟩) N c)) (ds := [14]) #[Z,Z,Z,Z,Z,Z,Z,Z,Z,Z,Z,Z,Z,Z,Z] (by kernel_rfl) rfl rfl (d1) (fun hHeld => ?_)
  refine pu_ 0 41 ?_ #[J,Z,Z,Z,Z,Z,Z,Z,Z,Z,Z,Z,Z,Z,Z] rfl rfl ?_ ?_ ?_ ?_
  rotate_left
  · intro w'
    go_simp
    with_reducible rfl
  rotate_left
  · simp only [aP]
    rfl
  refine pu_ 1 42 ?_ #[J,J,Z,Z,Z,Z,Z,Z,Z,Z,Z,Z,Z,Z,Z] rfl rfl ?_ ?_ ?_ ?_
  rotate_left
  · intro w'
    go_simp
    with_reducible rfl
  rotate_left
  · simp only [aP]
    rfl
  refine pu_ 2 43 ?_ #[J,J,J,Z,Z,Z,Z,Z,Z,Z,Z,Z,Z,Z,Z] rfl rfl ?_ ?_ ?_ ?_
  rotate_left
  · intro w'
    go_simp
    with_reducible rfl
  rotate_left
  · simp only [aP]
    rfl
  refine pu_ 3 44 ?_ #[J,J,J,J,Z,Z,Z,Z,Z,Z,Z,Z,Z,Z,Z] rfl rfl ?_ ?_ ?_ ?_
  rotate_left
  · intro w'
    go_simp
    with_reducible rfl
  rotate_left
  · simp only [aP]
    rfl
  refine pu_ 5 46 ?_ #[J,J,J,J,Z,J,Z,Z,Z,Z,Z,Z,Z,Z,Z] rfl rfl ?_ ?_ ?_ ?_
  rotate_left
  · intro w'
    go_simp
    with_reducible rfl
  rotate_left
  · simp only [aP]
    rfl
  refine pu_ 6 47 ?_ #[J,J,J,J,Z,J,J,Z,Z,Z,Z,Z,Z,Z,Z] rfl rfl ?_ ?_ ?_ ?_
  rotate_left
  · intro w'
    go_simp
    with_reducible rfl
  rotate_left
  · simp only [aP]
    rfl
  refine pu_ 7 48 ?_ #[J,J,J,J,Z,J,J,J,Z,Z,Z,Z,Z,Z,Z] rfl rfl ?_ ?_ ?_ ?_
  rotate_left
  · intro w'
    go_simp
    with_reducible rfl
  rotate_left
  · simp only [aP]
    rfl
  refine ta_ 4 45 ?_ #[J,J,J,J,J,J,J,J,Z,Z,Z,Z,Z,Z,Z] rfl rfl ?_ hHeld ?_ ?_ ?_
  rotate_left
  · intro w' s0
    go_simp
    with_reducible rfl
  rotate_left
  · simp only [aP]
    rfl
  refine ta_ 8 49 ?_ #[J,J,J,J,J,J,J,J,J,Z,Z,Z,Z,Z,Z] rfl rfl ?_ hHeld ?_ ?_ ?_
  rotate_left
  · intro w' s0
    go_simp
    with_reducible rfl
  rotate_left
  · simp only [aP]
    rfl
  refine pu_ 9 50 ?_ #[J,J,J,J,J,J,J,J,J,J,Z,Z,Z,Z,Z] rfl rfl ?_ ?_ ?_ ?_
  rotate_left
  · intro w'
    go_simp
    with_reducible rfl
  rotate_left
  · simp only [aP]
    rfl
  refine pu_ 10 51 ?_ #[J,J,J,J,J,J,J,J,J,J,J,Z,Z,Z,Z] rfl rfl ?_ ?_ ?_ ?_
  rotate_left
  · intro w'
    go_simp
    with_reducible rfl
  rotate_left
  · simp only [aP]
    rfl
  refine pu_ 11 52 ?_ #[J,J,J,J,J,J,J,J,J,J,J,J,Z,Z,Z] rfl rfl ?_ ?_ ?_ ?_
  rotate_left
  · intro w'
    go_simp
    with_reducible rfl
  rotate_left
  · simp only [aP]
    rfl
  refine pu_ 12 53 ?_ #[J,J,J,J,J,J,J,J,J,J,J,J,J,Z,Z] rfl rfl ?_ ?_ ?_ ?_
  rotate_left
  · intro w'
    go_simp
    with_reducible rfl
  rotate_left
  · simp only [aP]
    rfl
  refine pu_ 13 54 ?_ #[J,J,J,J,J,J,J,J,J,J,J,J,J,J,Z] rfl rfl ?_ ?_ ?_ ?_
  rotate_left
  · intro w'
    go_simp
    with_reducible rfl
  rotate_left
  · simp only [aP]
    rfl
  refine last_ (i := 14) (N := none) #[J,J,J,J,J,J,J,J,J,J,J,J,J,J,J] rfl rfl (by kernel_rfl) (by decide) (fun K hK => ?_)
  refine skip_ (w1 := ?_) (by rfl) rfl ?_ ?_
  rotate_left
  · go_simp
    rfl
  refine hK.out _ _ ?_
  clear hK K
  refine done_ (by kernel_rfl) ?_
  have B4 := Aside0.mk (popFin HV.out B3.out)
  go_wp2_with fail
  go_ret
  exact ⟨by first | rfl | (simp; done), _, by rw [HQ.out]; exact B4.out.drew⟩
set_option maxHeartbeats 3200000 in
set_option maxRecDepth 100000 in
theorem endIf_b (hv : vs.length = ps.length) (h : Sep w0 W (MtL gm vt vo tt (ps ++ [p]) deep (vs ++ [v]) ++ F)) (i : Nat) (hl : p.loop = false) (ho : p.oth = 0) (hb : p.beg < tt.length) :
    Calls Try.prog 42 #[.pointer (some ⟨gm, 0, none⟩), .int .i64 (i : Int)] W fun e w' => e = .returned (.bool true) ∧ ∃ vo2, Sep w0 w' (MtL gm vt vo2 (tt.set p.beg (i : Int)) ps deep vs ++ F) := by
  obtain ⟨ga, c, rfl⟩ := topRow (hv := hv) (mts hv h)
  obtain ⟨gt, ct, rfl⟩ := topForm (mts hv h) (by omega)
  have HL := Aside0.mk hl
  obtain ⟨q, hq⟩ : ∃ q, p.oth = q := ⟨_, rfl⟩
  have HQ := Aside0.mk hq
  have hd : decide (0 < (q : Int)) = false := decide_eq_false (by omega)
  have hd2 : decide (0 < q) = false := decide_eq_false (by omega)
  have HV := Aside0.mk hv
  obtain ⟨N, hN⟩ : ∃ N, ps.length + 1 = N := ⟨_, rfl⟩
  rw [hN] at h
  have hNc := capN (mts hv h)
  have hw : wrap64 ((N : Int) - 1) = (ps.length : Int) := by rw [IntWalk.wrap64_in _ (by omega)]; omega
  have hcut := cutHi (z := (.agg #[.bool false, .int .i64 0, .int .i64 0, .slice none 0 0])) (sz := 4) (bytes := 48) Try.underlying67 infoPart (some ⟨ga, 0, none⟩) N c ps.length (K := (ps.length : Int)) rfl (by omega) hNc.1
  have HN := Aside0.mk hN
  have HB := Aside0.mk hb
  have H := Aside0.mk h
  clear h hv hl ho hNc hN
  go_enter Try.func42, Try.ntmps42
  go_wp2_with (go_at_call 46; refine (top_some (n := ps.length) H.out HN.out.symm).mono ?_; rintro e w1 ⟨rfl, hS⟩; obtain ⟨z0, z1, z2, z3, zf⟩ := topCell HV.out (mts HV.out (by rw [HN.out]; exact hS)); rw [HL.out] at z0; rw [HQ.out] at z2; have B1 := Aside0.mk (mts HV.out hS); clear hS)
  clear zf hb
  have c0 : w1.drew.cell? ⟨gm, 0, none⟩ = some (.slice (some ⟨gt, 0, none⟩) tt.length ct) := (Sep.cell (show Sep w0 w1.drew (Blk gm 69 #[.slice (some ⟨gt, 0, none⟩) tt.length ct, _, _] :: _) from B1.out.drew) 0).trans rfl
  have c1 : w1.drew.cell? ⟨ga, ps.length * 4 + 1, none⟩ = some (.int .i64 (p.beg : Int)) := z1
  obtain ⟨f1, f2⟩ := Sep.rowCell (0 : Int) (Sep.pull [_] B1.out.drew) p.beg (by have := HB.out; have := HQ.out; omega)
  have hit : (p.beg : Int).toNat = p.beg := rfl
  have hi1 : (p.beg : Int) < (tt.length : Int) := by have := HB.out; have := HQ.out; omega
  clear z0 z1 z2 z3
  refine start_ (n := 11) (S := fun w' => w'.cell? ⟨gm, 0, none⟩ = some (.slice (some ⟨gt, 0, none⟩) tt.length ct) ∧ w'.cell? ⟨ga, ps.length * 4 + 1, none⟩ = some (.int .i64 (p.beg : Int))) (ds := [10]) #[Z,Z,Z,Z,Z,Z,Z,Z,Z,Z,Z] (by kernel_rfl) rfl rfl ⟨c0, c1⟩ (fun hHeld => ?_)
  refine pu_ 0 31 ?_ #[J,Z,Z,Z,Z,Z,Z,Z,Z,Z,Z] rfl rfl ?_ ?_ ?_ ?_
  rotate_left
  · intro w'
    go_simp
    with_reducible rfl
  rotate_left
  · simp only [aP]
    rfl
  refine pu_ 1 32 ?_ #[J,J,Z,Z,Z,Z,Z,Z,Z,Z,Z] rfl rfl ?_ ?_ ?_ ?_
  rotate_left
  · intro w'
    go_simp
    with_reducible rfl
  rotate_left
  · simp only [aP]
    rfl
  refine pu_ 2 33 ?_ #[J,J,J,Z,Z,Z,Z,Z,Z,Z,Z] rfl rfl ?_ ?_ ?_ ?_
  rotate_left
  · intro w'
    go_simp
    with_reducible rfl
  rotate_left
  · simp only [aP]
    rfl
  refine pu_ 4 35 ?_ #[J,J,J,Z,J,Z,Z,Z,Z,Z,Z] rfl rfl ?_ ?_ ?_ ?_
  rotate_left
  · intro w'
    go_simp
    with_reducible rfl
  rotate_left
  · simp only [aP]
    rfl
  refine pu_ 5 36 ?_ #[J,J,J,Z,J,J,Z,Z,Z,Z,Z] rfl rfl ?_ ?_ ?_ ?_
  rotate_left
  · intro w'
    go_simp
    with_reducible rfl
  rotate_left
  · simp only [aP]
    rfl
  refine pu_ 6 37 ?_ #[J,J,J,Z,J,J,J,Z,Z,Z,Z] rfl rfl ?_ ?_ ?_ ?_
  rotate_left
  · intro w'
    go_simp
    with_reducible rfl
  rotate_left
  · simp only [aP]
    rfl
  refine pu_ 8 39 ?_ #[J,J,J,Z,J,J,J,Z,J,Z,Z] rfl rfl ?_ ?_ ?_ ?_
  rotate_left
  · intro w'
    go_simp
    with_reducible rfl
  rotate_left
  · simp only [aP]
    rfl
  refine ta_ 3 34 ?_ #[J,J,J,J,J,J,J,Z,J,Z,Z] rfl rfl ?_ hHeld ?_ ?_ ?_
  rotate_left
  · rintro w' ⟨s0, s1⟩
    go_simp
    with_reducible rfl
  rotate_left
  · simp only [aP]
    rfl
  refine ta_ 7 38 ?_ #[J,J,J,J,J,J,J,J,J,Z,Z] rfl rfl ?_ hHeld ?_ ?_ ?_
  rotate_left
  · rintro w' ⟨s0, s1⟩
    go_simp
    with_reducible rfl
  rotate_left
  · simp only [aP]
    rfl
  refine pu_ 9 40 ?_ #[J,J,J,J,J,J,J,J,J,J,Z] rfl rfl ?_ ?_ ?_ ?_
  rotate_left
  · intro w'
    go_simp
    with_reducible rfl
  rotate_left
  · simp only [aP]
    rfl
  refine last_ (i := 10) (N := none) #[J,J,J,J,J,J,J,J,J,J,J] rfl rfl (by kernel_rfl) (by decide) (fun K hK => ?_)
  refine skip_ (w1 := ?_) (by rfl) rfl ?_ ?_
  rotate_left
  · go_simp
    rfl
  refine hK.out _ _ ?_
  clear hK K
  refine done_ (by kernel_rfl) ?_
  have B2 := Aside0.mk ((Sep.pull [_] B1.out).putRow (enc := Value.int .i64) p.beg (i : Int)).drew
  obtain ⟨w2, hw2⟩ : ∃ x, (w1.setCell ⟨gt, p.beg, none⟩ (.int .i64 (i : Int))).drew = x := ⟨_, rfl⟩
  rw [hw2] at B2 ⊢
  clear hw2 c0 c1 f1 f2 hit hi1
  have B3 : Aside0 (Sep w0 w2 (MtS gm (.slice (some ⟨gt, 0, none⟩) tt.length ct) (.slice (some ⟨ga, 0, none⟩) N c) (tt.set p.beg (i : Int)) ps p deep vs v F)) := ⟨Sep.push [_] B2.out⟩
  have d1 : w2.drew.cell? ⟨gm, 1, none⟩ = some (.slice (some ⟨ga, 0, none⟩) N c) := (Sep.cell (show Sep w0 w2.drew (Blk gm 69 #[_, .slice (some ⟨ga, 0, none⟩) N c, _] :: _) from B3.out.drew) 1).trans rfl
  have d2 : w2.drew.frozen? ⟨gm, 1, none⟩ = false := Sep.frozen (show Sep w0 w2.drew (Blk gm 69 #[_, .slice (some ⟨ga, 0, none⟩) N c, _] :: _) from B3.out.drew) 1
  go_wp2_with fail
  refine start_ (n := 15) (S := fun w' => w'.cell? ⟨gm, 1, none⟩ = some (.slice (some ⟨ga, 0, none⟩) N c)) (ds := [14]) #[Z,Z,Z,Z,Z,Z,Z,Z,Z,Z,Z,Z,Z,Z,Z] (by kernel_rfl) rfl rfl (d1) (fun hHeld => ?_)
  refine pu_ 0 41 ?_ #[J,Z,Z,Z,Z,Z,Z,Z,Z,Z,Z,Z,Z,Z,Z] rfl rfl ?_ ?_ ?_ ?_
  rotate_left
  · intro w'
    go_simp
    with_reducible rfl
  rotate_left
  · simp only [aP]
    rfl
  refine pu_ 1 42 ?_ #[J,J,Z,Z,Z,Z,Z,Z,Z,Z,Z,Z,Z,Z,Z] rfl rfl ?_ ?_ ?_ ?_
  rotate_left
  · intro w'
    go_simp
    with_reducible rfl
  rotate_left
  · simp only [aP]
    rfl
  refine pu_ 2 43 ?_ #[J,J,J,Z,Z,Z,Z,Z,Z,Z,Z,Z,Z,Z,Z] rfl rfl ?_ ?_ ?_ ?_
  rotate_left
  · intro w'
    go_simp
    with_reducible rfl
  rotate_left
  · simp only [aP]
    rfl
  refine pu_ 3 44 ?_ #[J,J,J,J,Z,Z,Z,Z,Z,Z,Z,Z,Z,Z,Z] rfl rfl ?_ ?_ ?_ ?_
  rotate_left
  · intro w'
    go_simp
    with_reducible rfl
  rotate_left
  · simp only [aP]
    rfl
  refine pu_ 5 46 ?_ #[J,J,J,J,Z,J,Z,Z,Z,Z,Z,Z,Z,Z,Z] rfl rfl ?_ ?_ ?_ ?_
  rotate_left
  · intro w'
    go_simp
    with_reducible rfl
  rotate_left
  · simp only [aP]
    rfl
  refine pu_ 6 47 ?_ #[J,J,J,J,Z,J,J,Z,Z,Z,Z,Z,Z,Z,Z] rfl rfl ?_ ?_ ?_ ?_
  rotate_left
  · intro w'
    go_simp
    with_reducible rfl
  rotate_left
  · simp only [aP]
    rfl
  refine pu_ 7 48 ?_ #[J,J,J,J,Z,J,J,J,Z,Z,Z,Z,Z,Z,Z] rfl rfl ?_ ?_ ?_ ?_
  rotate_left
  · intro w'
    go_simp
    with_reducible rfl
  rotate_left
  · simp only [aP]
    rfl
  refine ta_ 4 45 ?_ #[J,J,J,J,J,J,J,J,Z,Z,Z,Z,Z,Z,Z] rfl rfl ?_ hHeld ?_ ?_ ?_
  rotate_left
  · intro w' s0
    go_simp
    with_reducible rfl
  rotate_left
  · simp only [aP]
    rfl
  refine ta_ 8 49 ?_ #[J,J,J,J,J,J,J,J,J,Z,Z,Z,Z,Z,Z] rfl rfl ?_ hHeld ?_ ?_ ?_
  rotate_left
  · intro w' s0
    go_simp
    with_reducible rfl
  rotate_left
  · simp only [aP]
    rfl
  refine pu_ 9 50 ?_ #[J,J,J,J,J,J,J,J,J,J,Z,Z,Z,Z,Z] rfl rfl ?_ ?_ ?_ ?_
  rotate_left
  · intro w'
    go_simp
    with_reducible rfl
  rotate_left
  · simp only [aP]
    rfl
  refine pu_ 10 51 ?_ #[J,J,J,J,J,J,J,J,J,J,J,Z,Z,Z,Z] rfl rfl ?_ ?_ ?_ ?_
  rotate_left
  · intro w'
    go_simp
    with_reducible rfl
  rotate_left
  · simp only [aP]
    rfl
  refine pu_ 11 52 ?_ #[J,J,J,J,J,J,J,J,J,J,J,J,Z,Z,Z] rfl rfl ?_ ?_ ?_ ?_
  rotate_left
  · intro w'
    go_simp
    with_reducible rfl
  rotate_left
  · simp only [aP]
    rfl
  refine pu_ 12 53 ?_ #[J,J,J,J,J,J,J,J,J,J,J,J,J,Z,Z] rfl rfl ?_ ?_ ?_ ?_
  rotate_left
  · intro w'
    go_simp
    with_reducible rfl
  rotate_left
  · simp only [aP]
    rfl
  refine pu_ 13 54 ?_ #[J,J,J,J,J,J,J,J,J,J,J,J,J,J,Z] rfl rfl ?_ ?_ ?_ ?_
  rotate_left
  · intro w'
    go_simp
    with_reducible rfl
  rotate_left
  · simp only [aP]
    rfl
  refine last_ (i := 14) (N := none) #[J,J,J,J,J,J,J,J,J,J,J,J,J,J,J] rfl rfl (by kernel_rfl) (by decide) (fun K hK => ?_)
  refine skip_ (w1 := ?_) (by rfl) rfl ?_ ?_
  rotate_left
  · go_simp
    rfl
  refine hK.out _ _ ?_
  clear hK K
  refine done_ (by kernel_rfl) ?_
  have B4 := Aside0.mk (popFin HV.out B3.out)
  go_wp2_with fail
  go_ret
  exact ⟨by first | rfl | (simp; done), _, B4.out.drew⟩
end
end Go.Proofs.Ytkkgfpdjlohojaa.Nest
namespace Go.Proofs.Ytkkgfpdjlohojaa.Nest
open Go.RowKit Go.Proofs.YtkkgfpdjlohojaaW.PrintWords Go.Proofs.YtkkgfpdjlohojaaW.PrintLast Go.Proofs.YtkkgfpdjlohojaaW.PrintMore Go.Proofs.Ytkkgfpdjlohojaa.Kit
open Go.Proofs.Ytkkgfpdjlohojaa.NestP
theorem setAll_take (t : List Int) (v : Int) (l : List Nat) (j : Nat) (h : j < l.length) : setAll t v (l.take (j + 1)) = (setAll t v (l.take j)).set (l.getD j 0) v := by
  rw [List.take_add_one, List.getElem?_eq_getElem h]
  unfold setAll
  rw [List.foldl_append, List.getD_eq_getElem?_getD, List.getElem?_eq_getElem h]
  rfl
section
variable {w0 W : World} {F : List HP} {gm : Nat} {vt vo v : Value} {tt : List Int} {ps : List Pt} {p : Pt} {deep : Nat} {vs : List Value}
set_option maxHeartbeats 1600000 in
theorem endLoop_nil (h : Sep w0 W (MtL gm vt vo tt [] deep [] ++ F)) (i : Nat) : Calls Try.prog 43 #[.pointer (some ⟨gm, 0, none⟩), .int .i64 (i : Int)] W fun e w' => e = .returned (.bool false) ∧ W = w' := by
  have H := Aside0.mk h
  clear h
  go_enter Try.func43, Try.ntmps43
  go_wp2_with (go_at_call 46; refine (top_nil H.out).mono ?_; rintro e w1 ⟨rfl, rfl⟩)
  go_ret
  exact ⟨by first | rfl | (simp; done), rfl⟩
set_option maxHeartbeats 1600000 in
theorem endLoop_no (hv : vs.length = ps.length) (h : Sep w0 W (MtL gm vt vo tt (ps ++ [p]) deep (vs ++ [v]) ++ F)) (i : Nat) (hn : p.loop = false) : Calls Try.prog 43 #[.pointer (some ⟨gm, 0, none⟩), .int .i64 (i : Int)] W fun e w' => e = .returned (.bool false) ∧ Sep w0 w' (MtL gm vt vo tt (ps ++ [p]) deep (vs ++ [v]) ++ F) := by
  obtain ⟨ga, c, rfl⟩ := topRow (hv := hv) (mts hv h)
  have H := Aside0.mk h
  have HV := Aside0.mk hv
  have HN := Aside0.mk hn
  clear h hv hn
  go_enter Try.func43, Try.ntmps43
  go_wp2_with (go_at_call 46; refine (top_some (n := ps.length) H.out rfl).mono ?_; rintro e w1 ⟨rfl, hS⟩; obtain ⟨z0, z1, z2, z3, zf⟩ := topCell HV.out (mts HV.out hS); rw [HN.out] at z0; replace hS := Aside0.mk hS)
  go_ret
  exact ⟨by first | rfl | (simp; done), hS.out⟩
set_option maxHeartbeats 3200000 in
set_option maxRecDepth 100000 in
theorem endLoop_yes (hv : vs.length = ps.length) (h : Sep w0 W (MtL gm vt vo tt (ps ++ [p]) deep (vs ++ [v]) ++ F)) (i : Nat) (hl : p.loop = true) (hi : i < tt.length) (hk : ∀ k ∈ p.lvs, k < tt.length) :
    Calls Try.prog 43 #[.pointer (some ⟨gm, 0, none⟩), .int .i64 (i : Int)] W fun e w' => e = .returned (.bool true) ∧ ∃ vo2, Sep w0 w' (MtL gm vt vo2 (setAll (tt.set i (p.beg : Int)) ((i : Int) + 1) p.lvs) ps deep vs ++ F) := by
  obtain ⟨ga, c, rfl⟩ := topRow (hv := hv) (mts hv h)
  obtain ⟨gt, ct, rfl⟩ := topForm (mts hv h) (by omega)
  have htl : (tt.length : Int) ≤ 9223372036854775807 := by
    have := (Sep.rowC' (show Sep w0 W (Row I64 3 (.slice (some ⟨gt, 0, none⟩) tt.length ct) tt :: _) from Sep.pull [_] (mts hv h))).2.1
    have h2 : tt.length ≤ 9223372036854775807 := this
    omega
  have HL := Aside0.mk hl
  have HV := Aside0.mk hv
  obtain ⟨N, hN⟩ : ∃ N, ps.length + 1 = N := ⟨_, rfl⟩
  rw [hN] at h
  have hNc := capN (mts hv h)
  have hw : wrap64 ((N : Int) - 1) = (ps.length : Int) := by rw [IntWalk.wrap64_in _ (by omega)]; omega
  have hwi : wrap64 ((i : Int) + 1) = (i : Int) + 1 := IntWalk.wrap64_in _ (by omega)
  have hcut := cutHi (z := (.agg #[.bool false, .int .i64 0, .int .i64 0, .slice none 0 0])) (sz := 4) (bytes := 48) Try.underlying67 infoPart (some ⟨ga, 0, none⟩) N c ps.length (K := (ps.length : Int)) rfl (by omega) hNc.1
  obtain ⟨n, hn⟩ : ∃ n, p.lvs.length = n := ⟨_, rfl⟩
  obtain ⟨Al, cl, rfl⟩ := Sep.rowN (n := n) (show Sep w0 W (Row I64 3 v (p.lvs.map (fun k : Nat => (k : Int))) :: _) from Sep.pull [_, _, _] (mts hv h)) (by rw [List.length_map]; exact hn)
  have hnm : (n : Int) ≤ 9223372036854775807 := by
    have := (Sep.rowC' (show Sep w0 W (Row I64 3 (.slice Al n cl) (p.lvs.map (fun k : Nat => (k : Int))) :: _) from Sep.pull [_, _, _] (mts hv h))).2.1
    have h2 : n ≤ 9223372036854775807 := this
    omega
  have HN := Aside0.mk hN
  have HI := Aside0.mk hi
  have HK := Aside0.mk hk
  have HM := Aside0.mk hn
  have H := Aside0.mk h
  clear h hv hl hNc hN hk hn
  go_enter Try.func43, Try.ntmps43
  go_wp2_with (go_at_call 46; refine (top_some (n := ps.length) H.out HN.out.symm).mono ?_; rintro e w1 ⟨rfl, hS⟩; obtain ⟨z0, z1, z2, z3, zf⟩ := topCell HV.out (mts HV.out (by rw [HN.out]; exact hS)); rw [HL.out] at z0; have B1 := Aside0.mk (mts HV.out hS); clear hS)
  clear zf
  have c0 : w1.drew.cell? ⟨gm, 0, none⟩ = some (.slice (some ⟨gt, 0, none⟩) tt.length ct) := (Sep.cell (show Sep w0 w1.drew (Blk gm 69 #[.slice (some ⟨gt, 0, none⟩) tt.length ct, _, _] :: _) from B1.out.drew) 0).trans rfl
  have c1 : w1.drew.cell? ⟨ga, ps.length * 4 + 1, none⟩ = some (.int .i64 (p.beg : Int)) := z1
  obtain ⟨f1, f2⟩ := Sep.rowCell (0 : Int) (Sep.pull [_] B1.out.drew) i hi
  have hit : (i : Int).toNat = i := rfl
  have hi1 : (i : Int) < (tt.length : Int) := by omega
  clear z0 z1 z2 z3
  refine start_ (n := 11) (S := fun w' => w'.cell? ⟨gm, 0, none⟩ = some (.slice (some ⟨gt, 0, none⟩) tt.length ct) ∧ w'.cell? ⟨ga, ps.length * 4 + 1, none⟩ = some (.int .i64 (p.beg : Int))) (ds := [10]) #[Z,Z,Z,Z,Z,Z,Z,Z,Z,Z,Z] (by kernel_rfl) rfl rfl ⟨c0, c1⟩ (fun hHeld => ?_)
  refine pu_ 0 19 ?_ #[J,Z,Z,Z,Z,Z,Z,Z,Z,Z,Z] rfl rfl ?_ ?_ ?_ ?_
  rotate_left
  · intro w'
    go_simp
    with_reducible rfl
  rotate_left
  · simp only [aP]
    rfl
  refine pu_ 1 20 ?_ #[J,J,Z,Z,Z,Z,Z,Z,Z,Z,Z] rfl rfl ?_ ?_ ?_ ?_
  rotate_left
  · intro w'
    go_simp
    with_reducible rfl
  rotate_left
  · simp only [aP]
    rfl
  refine pu_ 2 21 ?_ #[J,J,J,Z,Z,Z,Z,Z,Z,Z,Z] rfl rfl ?_ ?_ ?_ ?_
  rotate_left
  · intro w'
    go_simp
    with_reducible rfl
  rotate_left
  · simp only [aP]
    rfl
  refine pu_ 4 23 ?_ #[J,J,J,Z,J,Z,Z,Z,Z,Z,Z] rfl rfl ?_ ?_ ?_ ?_
  rotate_left
  · intro w'
    go_simp
    with_reducible rfl
  rotate_left
  · simp only [aP]
    rfl
  refine pu_ 5 24 ?_ #[J,J,J,Z,J,J,Z,Z,Z,Z,Z] rfl rfl ?_ ?_ ?_ ?_
  rotate_left
  · intro w'
    go_simp
    with_reducible rfl
  rotate_left
  · simp only [aP]
    rfl
  refine pu_ 6 25 ?_ #[J,J,J,Z,J,J,J,Z,Z,Z,Z] rfl rfl ?_ ?_ ?_ ?_
  rotate_left
  · intro w'
    go_simp
    with_reducible rfl
  rotate_left
  · simp only [aP]
    rfl
  refine pu_ 7 26 ?_ #[J,J,J,Z,J,J,J,J,Z,Z,Z] rfl rfl ?_ ?_ ?_ ?_
  rotate_left
  · intro w'
    go_simp
    with_reducible rfl
  rotate_left
  · simp only [aP]
    rfl
  refine ta_ 3 22 ?_ #[J,J,J,J,J,J,J,J,Z,Z,Z] rfl rfl ?_ hHeld ?_ ?_ ?_
  rotate_left
  · rintro w' ⟨s0, s1⟩
    go_simp
    with_reducible rfl
  rotate_left
  · simp only [aP]
    rfl
  refine ta_ 8 27 ?_ #[J,J,J,J,J,J,J,J,J,Z,Z] rfl rfl ?_ hHeld ?_ ?_ ?_
  rotate_left
  · rintro w' ⟨s0, s1⟩
    go_simp
    with_reducible rfl
  rotate_left
  · simp only [aP]
    rfl
  refine pu_ 9 28 ?_ #[J,J,J,J,J,J,J,J,J,J,Z] rfl rfl ?_ ?_ ?_ ?_
  rotate_left
  · intro w'
    go_simp
    with_reducible rfl
  rotate_left
  · simp only [aP]
    rfl
  refine last_ (i := 10) (N := none) #[J,J,J,J,J,J,J,J,J,J,J] rfl rfl (by kernel_rfl) (by decide) (fun K hK => ?_)
  refine skip_ (w1 := ?_) (by rfl) rfl ?_ ?_
  rotate_left
  · go_simp
    rfl
  refine hK.out _ _ ?_
  clear hK K
  refine done_ (by kernel_rfl) ?_
  have B2 := Aside0.mk ((Sep.pull [_] B1.out).putRow (enc := Value.int .i64) i (p.beg : Int)).drew
  obtain ⟨w2, hw2⟩ : ∃ x, (w1.setCell ⟨gt, i, none⟩ (.int .i64 (p.beg : Int))).drew = x := ⟨_, rfl⟩
  rw [hw2] at B2 ⊢
  clear hw2 c0 c1 f1 f2 hit
  have B3 : Aside0 (Sep w0 w2 (MtS gm (.slice (some ⟨gt, 0, none⟩) tt.length ct) (.slice (some ⟨ga, 0, none⟩) N c) (tt.set i (p.beg : Int)) ps p deep vs (.slice Al n cl) F)) := ⟨Sep.push [_] B2.out⟩
  clear B2 B1
  have z3 : w2.cell? ⟨ga, ps.length * 4 + 3, none⟩ = some (.slice Al n cl) := (topCell HV.out (by rw [HN.out]; exact B3.out)).2.2.2.1
  obtain ⟨T1, hT1⟩ : ∃ T1, tt.set i (p.beg : Int) = T1 := ⟨_, rfl⟩
  have HT : Aside0 (T1.length = tt.length) := ⟨by rw [← hT1, List.length_set]⟩
  rw [hT1] at B3
  have HT1 := Aside0.mk hT1
  clear hT1
  go_wp2_with fail
  go_loopg [34] n (fun m q wr => ∃ j : Nat, j + m = n ∧ q = .int .i64 (j : Int) ∧ Sep w0 wr (MtS gm (.slice (some ⟨gt, 0, none⟩) tt.length ct) (.slice (some ⟨ga, 0, none⟩) N c) (setAll T1 ((i : Int) + 1) (p.lvs.take j)) ps p deep vs (.slice Al n cl) F))
  case atStart => exact ⟨0, by omega, rfl, B3.out⟩
  case round =>
    obtain ⟨j, hjm, rfl, hS⟩ := hrel
    have AK := Aside0.mk hjm
    by_cases hj : j < n
    · have hsl := setAll_len ((i : Int) + 1) (p.lvs.take j) T1
      obtain ⟨gl, cl2, e1⟩ := Sep.rowFormN (n := n) (show Sep w0 wr (Row I64 3 (.slice Al n cl) (p.lvs.map (fun k : Nat => (k : Int))) :: _) from Sep.pull [_, _, _] hS) (by rw [List.length_map]; exact HM.out) (by omega)
      injection e1 with e1 _ e11
      subst e1 e11
      obtain ⟨g1, g2⟩ := Sep.rowCell (0 : Int) (Sep.pull [_, _, _] hS) j hj
      obtain ⟨k, hk⟩ : ∃ k, p.lvs.getD j 0 = k := ⟨_, rfl⟩
      have hjl : j < p.lvs.length := by rw [HM.out]; exact hj
      have hkl : k < tt.length := by
        rw [← hk]
        refine HK.out _ ?_
        rw [List.getD_eq_getElem?_getD, List.getElem?_eq_getElem hjl]
        exact List.getElem_mem hjl
      have e2 : (p.lvs.map (fun k : Nat => (k : Int))).getD j 0 = (k : Int) := by
        rw [List.getD_eq_getElem?_getD, List.getElem?_map, ← hk, List.getD_eq_getElem?_getD, List.getElem?_eq_getElem hjl]; rfl
      rw [e2] at g1
      have c0 : wr.cell? ⟨gm, 0, none⟩ = some (.slice (some ⟨gt, 0, none⟩) tt.length ct) := (Sep.cell (show Sep w0 wr (Blk gm 69 #[.slice (some ⟨gt, 0, none⟩) tt.length ct, _, _] :: _) from hS) 0).trans rfl
      obtain ⟨f1, f2⟩ := Sep.rowCell (0 : Int) (Sep.pull [_] hS) k hkl
      have B5 := Aside0.mk ((Sep.pull [_] hS).putRow (enc := Value.int .i64) k ((i : Int) + 1))
      have HK2 := Aside0.mk hk
      have HJL := Aside0.mk hjl
      clear hS hsl hk hjl e2 g2
      go_wp2_with fail
      go_roundg (gk - 1)
      case measure => have := AK.out; omega
      case rel =>
        refine ⟨j + 1, by have := AK.out; omega, by go_num, ?_⟩
        rw [setAll_take _ _ _ j HJL.out, HK2.out]
        exact Sep.push [_] B5.out
    · have hjn : j = n := by omega
      rw [hjn, ← HM.out, List.take_length] at hS
      rw [HM.out] at hS
      subst hjn
      have B6 := Aside0.mk hS
      have d1 : wr.drew.cell? ⟨gm, 1, none⟩ = some (.slice (some ⟨ga, 0, none⟩) N c) := (Sep.cell (show Sep w0 wr.drew (Blk gm 69 #[_, .slice (some ⟨ga, 0, none⟩) N c, _] :: _) from hS.drew) 1).trans rfl
      have d2 : wr.drew.frozen? ⟨gm, 1, none⟩ = false := Sep.frozen (show Sep w0 wr.drew (Blk gm 69 #[_, .slice (some ⟨ga, 0, none⟩) N c, _] :: _) from hS.drew) 1
      clear hS hjm AK hj
      go_wp2_with fail
      refine start_ (n := 15) (S := fun w' => w'.cell? ⟨gm, 1, none⟩ = some (.slice (some ⟨ga, 0, none⟩) N c)) (ds := [14]) #[Z,Z,Z,Z,Z,Z,Z,Z,Z,Z,Z,Z,Z,Z,Z] (by kernel_rfl) rfl rfl (d1) (fun hHeld => ?_)
      refine pu_ 0 47 ?_ #[J,Z,Z,Z,Z,Z,Z,Z,Z,Z,Z,Z,Z,Z,Z] rfl rfl ?_ ?_ ?_ ?_
      rotate_left
      · intro w'
        go_simp
        with_reducible rfl
      rotate_left
      · simp only [aP]
        rfl
      refine pu_ 1 48 ?_ #[J,J,Z,Z,Z,Z,Z,Z,Z,Z,Z,Z,Z,Z,Z] rfl rfl ?_ ?_ ?_ ?_
      rotate_left
      · intro w'
        go_simp
        with_reducible rfl
      rotate_left
      · simp only [aP]
        rfl
      refine pu_ 2 49 ?_ #[J,J,J,Z,Z,Z,Z,Z,Z,Z,Z,Z,Z,Z,Z] rfl rfl ?_ ?_ ?_ ?_
      rotate_left
      · intro w'
        go_simp
        with_reducible rfl
      rotate_left
      · simp only [aP]
        rfl
      refine pu_ 3 50 ?_ #[J,J,J,J,Z,Z,Z,Z,Z,Z,Z,Z,Z,Z,Z] rfl rfl ?_ ?_ ?_ ?_
      rotate_left
      · intro w'
        go_simp
        with_reducible rfl
      rotate_left
      · simp only [aP]
        rfl
      refine pu_ 5 52 ?_ #[J,J,J,J,Z,J,Z,Z,Z,Z,Z,Z,Z,Z,Z] rfl rfl ?_ ?_ ?_ ?_
      rotate_left
      · intro w'
        go_simp
        with_reducible rfl
      rotate_left
      · simp only [aP]
        rfl
      refine pu_ 6 53 ?_ #[J,J,J,J,Z,J,J,Z,Z,Z,Z,Z,Z,Z,Z] rfl rfl ?_ ?_ ?_ ?_
      rotate_left
      · intro w'
        go_simp
        with_reducible rfl
      rotate_left
      · simp only [aP]
        rfl
      refine pu_ 7 54 ?_ #[J,J,J,J,Z,J,J,J,Z,Z,Z,Z,Z,Z,Z] rfl rfl ?_ ?_ ?_ ?_
      rotate_left
      · intro w'
        go_simp
        with_reducible rfl
      rotate_left
      · simp only [aP]
        rfl
      refine ta_ 4 51 ?_ #[J,J,J,J,J,J,J,J,Z,Z,Z,Z,Z,Z,Z] rfl rfl ?_ hHeld ?_ ?_ ?_
      rotate_left
      · intro w' s0
        go_simp
        with_reducible rfl
      rotate_left
      · simp only [aP]
        rfl
      refine ta_ 8 55 ?_ #[J,J,J,J,J,J,J,J,J,Z,Z,Z,Z,Z,Z] rfl rfl ?_ hHeld ?_ ?_ ?_
      rotate_left
      · intro w' s0
        go_simp
        with_reducible rfl
      rotate_left
      · simp only [aP]
        rfl
      refine pu_ 9 56 ?_ #[J,J,J,J,J,J,J,J,J,J,Z,Z,Z,Z,Z] rfl rfl ?_ ?_ ?_ ?_
      rotate_left
      · intro w'
        go_simp
        with_reducible rfl
      rotate_left
      · simp only [aP]
        rfl
      refine pu_ 10 57 ?_ #[J,J,J,J,J,J,J,J,J,J,J,Z,Z,Z,Z] rfl rfl ?_ ?_ ?_ ?_
      rotate_left
      · intro w'
        go_simp
        with_reducible rfl
      rotate_left
      · simp only [aP]
        rfl
      refine pu_ 11 58 ?_ #[J,J,J,J,J,J,J,J,J,J,J,J,Z,Z,Z] rfl rfl ?_ ?_ ?_ ?_
      rotate_left
      · intro w'
        go_simp
        with_reducible rfl
      rotate_left
      · simp only [aP]
        rfl
      refine pu_ 12 59 ?_ #[J,J,J,J,J,J,J,J,J,J,J,J,J,Z,Z] rfl rfl ?_ ?_ ?_ ?_
      rotate_left
      · intro w'
        go_simp
        with_reducible rfl
      rotate_left
      · simp only [aP]
        rfl
      refine pu_ 13 60 ?_ #[J,J,J,J,J,J,J,J,J,J,J,J,J,J,Z] rfl rfl ?_ ?_ ?_ ?_
      rotate_left
      · intro w'
        go_simp
        with_reducible rfl
      rotate_left
      · simp only [aP]
        rfl
      refine last_ (i := 14) (N := none) #[J,J,J,J,J,J,J,J,J,J,J,J,J,J,J] rfl rfl (by kernel_rfl) (by decide) (fun K hK => ?_)
      refine skip_ (w1 := ?_) (by rfl) rfl ?_ ?_
      rotate_left
      · go_simp
        rfl
      refine hK.out _ _ ?_
      clear hK K
      refine done_ (by kernel_rfl) ?_
      have B4 := Aside0.mk (popFin HV.out B6.out)
      go_wp2_with fail
      go_ret
      exact ⟨by first | rfl | (simp; done), _, by rw [HT1.out]; exact B4.out.drew⟩
end
end Go.Proofs.Ytkkgfpdjlohojaa.Nest
