/- Nest1, Nest2, Elem, Nest3, TokP, Tok, Func1, Keep1, Func2: what NestTells needs. -/
import Derived.Test.YtkkgfpdjlohojaaTnestTells3
import Derived.Deep.Cut
import Derived.Deep.QuietTactic
import Derived.Deep.RegionWith
import Derived.Deep.LoopGhost
set_option linter.unusedVariables false
set_option linter.unusedSimpArgs false
namespace Go.Proofs.Ytkkgfpdjlohojaa.Nest
open Go.RowKit Go.Proofs.YtkkgfpdjlohojaaW.PrintWords Go.Proofs.YtkkgfpdjlohojaaW.PrintLast Go.Proofs.YtkkgfpdjlohojaaW.PrintMore Go.Proofs.Ytkkgfpdjlohojaa.Kit
open Go.Proofs.Ytkkgfpdjlohojaa.NestP
abbrev I64 : Kd Int := Kd.int .i64
def cellsP (p : Pt) (v : Value) : List Value := [.bool p.loop, .int .i64 (p.beg : Int), .int .i64 (p.oth : Int), v]
def lvR : List Pt → List Value → List HP
  | p :: ps, v :: vs => Row I64 3 v (p.lvs.map (fun k : Nat => (k : Int))) :: lvR ps vs
  | _, _ => []
def rawC : List Pt → List Value → List (List Value)
  | p :: ps, v :: vs => cellsP p v :: rawC ps vs
  | _, _ => []
theorem rawC_len : ∀ (ps : List Pt) (vs : List Value), vs.length = ps.length → (rawC ps vs).length = ps.length
  | [], [], _ => rfl
  | p :: ps, v :: vs, h => by
    show (rawC ps vs).length + 1 = ps.length + 1
    rw [rawC_len ps vs (by simpa using h)]
theorem rawC_app : ∀ (ps qs : List Pt) (vs us : List Value), vs.length = ps.length → rawC (ps ++ qs) (vs ++ us) = rawC ps vs ++ rawC qs us
  | [], qs, [], us, _ => rfl
  | p :: ps, qs, v :: vs, us, h => by
    show cellsP p v :: rawC (ps ++ qs) (vs ++ us) = _
    rw [rawC_app ps qs vs us (by simpa using h)]
    rfl
theorem lvR_app : ∀ (ps qs : List Pt) (vs us : List Value), vs.length = ps.length → lvR (ps ++ qs) (vs ++ us) = lvR ps vs ++ lvR qs us
  | [], qs, [], us, _ => rfl
  | p :: ps, qs, v :: vs, us, h => by
    show _ :: lvR (ps ++ qs) (vs ++ us) = _
    rw [lvR_app ps qs vs us (by simpa using h)]
    rfl
def MtL (gm : Nat) (vt vo : Value) (tt : List Int) (ps : List Pt) (deep : Nat) (vs : List Value) : List HP :=
  Blk gm 69 #[vt, vo, .int .i64 (deep : Int)] :: Row I64 3 vt tt :: Row (Kd.raw 4) 92 vo (rawC ps vs) :: lvR ps vs
section
variable {w0 W : World} {F : List HP} {gm : Nat} {vt vo : Value} {tt : List Int} {ps : List Pt} {deep : Nat} {vs : List Value}
set_option maxHeartbeats 800000 in
theorem top_nil (h : Sep w0 W (MtL gm vt vo tt [] deep [] ++ F)) : Calls Try.prog 46 #[.pointer (some ⟨gm, 0, none⟩)] W fun e w' => e = .returned (.pointer none) ∧ W = w' := by
  have z1 := (Sep.cell (show Sep w0 W (Blk gm 69 #[vt, vo, .int .i64 (deep : Int)] :: _) from h) 1).trans rfl
  obtain ⟨A, c, rfl⟩ := Sep.rowN (n := 0) (show Sep w0 W (Row (Kd.raw 4) 92 vo [] :: _) from h.tail.tail) rfl
  clear h
  go_enter Try.func46, Try.ntmps46
  go_wp2_with fail
  go_ret
  exact ⟨by first | rfl | (simp; done), rfl⟩
set_option maxHeartbeats 800000 in
theorem top_some {ga N n c : Nat} (h : Sep w0 W (MtL gm vt (.slice (some ⟨ga, 0, none⟩) N c) tt ps deep vs ++ F)) (hN : N = n + 1) : Calls Try.prog 46 #[.pointer (some ⟨gm, 0, none⟩)] W fun e w' => e = .returned (.pointer (some ⟨ga, n * 4, none⟩)) ∧ Sep w0 w' (MtL gm vt (.slice (some ⟨ga, 0, none⟩) N c) tt ps deep vs ++ F) := by
  have H0 := Aside0.mk h
  have hNm : (N : Int) ≤ 9223372036854775807 := by
    have := (Sep.rowC' (show Sep w0 W (Row (Kd.raw 4) 92 (.slice (some ⟨ga, 0, none⟩) N c) (rawC ps vs) :: _) from h.tail.tail)).2.1
    have h2 : N ≤ 9223372036854775807 := this
    omega
  have z1 := (Sep.cell (show Sep w0 W (Blk gm 69 #[vt, .slice (some ⟨ga, 0, none⟩) N c, .int .i64 (deep : Int)] :: _) from h) 1).trans rfl
  have z1q := fun q => (Sep.cell (show Sep w0 (W.drewN q) (Blk gm 69 #[vt, .slice (some ⟨ga, 0, none⟩) N c, .int .i64 (deep : Int)] :: _) from h.drewN q) 1).trans rfl
  have hd : decide ((N : Int) = 0) = false := decide_eq_false (by omega)
  have hd2 : decide (N = 0) = false := decide_eq_false (by omega)
  have hw : wrap64 ((N : Int) - 1) = (n : Int) := by rw [IntWalk.wrap64_in _ (by omega)]; omega
  have hnl : (n : Int) < (N : Int) := by omega
  have hn0 : ¬ (N : Int) = 0 := by omega
  have hn0' : ¬ N = 0 := by omega
  have HN := Aside0.mk hN
  clear h hN
  go_enter Try.func46, Try.ntmps46
  go_wp2_with fail
  go_quiet (fail)
  go_wp2_with fail
  go_ret
  exact ⟨by first | rfl | (simp; done) | (simp; have := HN.out; omega), H0.out.drewN _⟩
end
end Go.Proofs.Ytkkgfpdjlohojaa.Nest
namespace Go.Proofs.Ytkkgfpdjlohojaa.Nest
open Go.RowKit Go.Proofs.YtkkgfpdjlohojaaW.PrintWords Go.Proofs.YtkkgfpdjlohojaaW.PrintLast Go.Proofs.YtkkgfpdjlohojaaW.PrintMore Go.Proofs.Ytkkgfpdjlohojaa.Kit
open Go.Proofs.Ytkkgfpdjlohojaa.NestP
theorem infoPart : (Try.prog.info? 92).map (fun i => (i.zero, i.size, i.bytes)) = some (some (.agg #[.bool false, .int .i64 0, .int .i64 0, .slice none 0 0]), 4, 48) := by kernel_rfl
theorem one_raw {cl : List Value} {W : World} (hs : cl.length = 4) (h1 : ∀ u ∈ cl, u.oneCell' = true) : Reps ((Kd.raw 4).M W W.heap.size (fun _ => False)) (Kd.raw 4).sz [cl] cl :=
  ⟨by rw [List.length_singleton, Nat.one_mul]; exact hs, fun j c hj => by
    match j, hj with
    | 0, hj =>
      cases hj
      rw [Nat.zero_mul, List.drop_zero, List.take_of_length_le (by show cl.length ≤ 4; omega)]
      exact ⟨rfl, hs, h1⟩⟩
section
variable {w0 W : World} {F : List HP} {gm : Nat} {vt vo : Value} {tt : List Int} {ps : List Pt} {deep : Nat} {vs : List Value}
theorem fin_ {v7 : Value} {d m : Nat} {lp : Bool} {i : Nat} (hm : m = d) (hv : vs.length = ps.length) (h : Sep w0 W (Blk gm 69 #[vt, v7, .int .i64 (d : Int)] :: Row (Kd.raw 4) 92 v7 (rawC ps vs ++ [cellsP ⟨lp, i, 0, []⟩ (.slice none 0 0)]) :: Row I64 3 vt tt :: (lvR ps vs ++ F))) :
    Sep w0 W (MtL gm vt v7 tt (ps ++ [⟨lp, i, 0, []⟩]) m (vs ++ [.slice none 0 0]) ++ F) := by
  subst hm
  have h2 := (Sep.pull [_] (Sep.pull [_, _] h)).nilRow I64 3
  have h3 := Sep.push (Blk gm 69 #[vt, v7, .int .i64 (m : Int)] :: Row I64 3 vt tt :: Row (Kd.raw 4) 92 v7 (rawC ps vs ++ [cellsP ⟨lp, i, 0, []⟩ (.slice none 0 0)]) :: lvR ps vs) h2
  unfold MtL
  rw [rawC_app ps _ vs _ hv, lvR_app ps _ vs _ hv, List.cons_append, List.cons_append, List.cons_append, List.append_assoc]
  exact h3
set_option maxHeartbeats 1600000 in
set_option maxRecDepth 100000 in
theorem begin_ (h : Sep w0 W (MtL gm vt vo tt ps deep vs ++ F)) (hv : vs.length = ps.length) (hl : ps.length ≤ 1000) (lp : Bool) (i : Nat) :
    Calls Try.prog 40 #[.pointer (some ⟨gm, 0, none⟩), .int .i64 (i : Int), .bool lp] W fun e w' => e = .returned (.bool (decide (ps.length < 16))) ∧ ∃ vo2, Sep w0 w' (MtL gm vt vo2 tt (ps ++ [⟨lp, i, 0, []⟩]) (max deep (ps.length + 1)) (vs ++ [.slice none 0 0]) ++ F) := by
  have hrl := rawC_len ps vs hv
  have h1 : Sep w0 W (Row (Kd.raw 4) 92 vo (rawC ps vs) :: Blk gm 69 #[vt, vo, .int .i64 (deep : Int)] :: Row I64 3 vt tt :: (lvR ps vs ++ F)) := Sep.pull [_, _] h
  have z1 := (h1.at2.cell 1).trans rfl
  have h2 := h1.newLit (d := Kd.raw 4) (xs := [cellsP ⟨lp, i, 0, []⟩ (.slice none 0 0)]) (inner := cellsP ⟨lp, i, 0, []⟩ (.slice none 0 0)) (e := 92) (one_raw rfl (by
    intro u hu
    simp only [cellsP, List.mem_cons, List.not_mem_nil, or_false] at hu
    rcases hu with rfl | rfl | rfl | rfl <;> rfl)) (by simp)
  have L : Aside0 (Sep w0 (W.alloc (.cells #[.bool lp, .int .i64 (i : Int), .int .i64 0, .slice none 0 0] 92)) (Row (Kd.raw 4) 92 vo (rawC ps vs) :: Row (Kd.raw 4) 92 (.slice (some ⟨W.heap.size, 0, none⟩) 1 1) [cellsP ⟨lp, i, 0, []⟩ (.slice none 0 0)] :: Blk gm 69 #[vt, vo, .int .i64 (deep : Int)] :: Row I64 3 vt tt :: (lvR ps vs ++ F))) := ⟨h2.at2⟩
  have HRL := Aside0.mk (And.intro hrl (And.intro hl hv))
  clear h h1 h2 hrl hl hv
  go_enter Try.func40, Try.ntmps40
  go_wp2_with (first | (refine gate_builtin (b := .append) (xs := #[.tmp 11, .tmp 15]) rfl ?_; go_loud (refine L.out.appendRaw rfl (.tmp 11) (.tmp 15) 67 (.agg #[.bool false, .int .i64 0, .int .i64 0, .slice none 0 0]) 48 rfl Try.underlying67 infoPart rfl (by decide) (by decide) (some ⟨W.heap.size, 0, none⟩) 1 1 rfl rfl L.out.at2.rowC' (by rw [HRL.out.1]; have := HRL.out.2.1; simp; omega) ?_; intro v7 w7 hS7; obtain ⟨A7, c7, rfl⟩ := hS7.rowN (n := ps.length + 1) (by rw [List.length_append, HRL.out.1]; rfl); have z7 := (hS7.at3.cell 1).trans rfl; have f7 := hS7.at3.frozen 1; have B7 := Aside0.mk (hS7.at3.setBlk 1 (.slice A7 (ps.length + 1) c7)); clear hS7)))
  obtain ⟨w8, hw8⟩ : ∃ x, w7.setCell ⟨gm, 1, none⟩ (.slice A7 (ps.length + 1) c7) = x := ⟨_, rfl⟩
  rw [hw8] at B7 ⊢
  clear hw8 z7 f7 z1 L
  have BD := Aside0.mk B7.out.drew
  have f8 := BD.out.frozen 2
  have HV : Aside0 (vs.length = ps.length) := ⟨HRL.out.2.2⟩
  obtain ⟨M, hM⟩ : ∃ M, max deep (ps.length + 1) = M := ⟨_, rfl⟩
  have hmx : (if (deep : Int) < (ps.length : Int) + 1 then (ps.length : Int) + 1 else (deep : Int)) = (M : Int) := by split <;> omega
  have HM := Aside0.mk hM
  have HV : Aside0 (vs.length = ps.length) := ⟨HRL.out.2.2⟩
  clear hM
  refine start_ (n := 14) (S := fun w' => w'.cell? ⟨gm, 2, none⟩ = some (.int .i64 (deep : Int)) ∧ w'.cell? ⟨gm, 1, none⟩ = some (.slice A7 (ps.length + 1) c7)) (ds := [13]) #[Z,Z,Z,Z,Z,Z,Z,Z,Z,Z,Z,Z,Z,Z] (by kernel_rfl) rfl rfl ⟨(BD.out.cell 2).trans rfl, (BD.out.cell 1).trans rfl⟩ (fun hHeld => ?_)
  refine pu_ 0 19 ?_ #[J,Z,Z,Z,Z,Z,Z,Z,Z,Z,Z,Z,Z,Z] rfl rfl ?_ ?_ ?_ ?_
  rotate_left
  · intro w'
    go_simp
    with_reducible rfl
  rotate_left
  · simp only [aP]
    rfl
  refine pu_ 1 20 ?_ #[J,J,Z,Z,Z,Z,Z,Z,Z,Z,Z,Z,Z,Z] rfl rfl ?_ ?_ ?_ ?_
  rotate_left
  · intro w'
    go_simp
    with_reducible rfl
  rotate_left
  · simp only [aP]
    rfl
  refine pu_ 2 21 ?_ #[J,J,J,Z,Z,Z,Z,Z,Z,Z,Z,Z,Z,Z] rfl rfl ?_ ?_ ?_ ?_
  rotate_left
  · intro w'
    go_simp
    with_reducible rfl
  rotate_left
  · simp only [aP]
    rfl
  refine pu_ 3 22 ?_ #[J,J,J,J,Z,Z,Z,Z,Z,Z,Z,Z,Z,Z] rfl rfl ?_ ?_ ?_ ?_
  rotate_left
  · intro w'
    go_simp
    with_reducible rfl
  rotate_left
  · simp only [aP]
    rfl
  refine pu_ 5 24 ?_ #[J,J,J,J,Z,J,Z,Z,Z,Z,Z,Z,Z,Z] rfl rfl ?_ ?_ ?_ ?_
  rotate_left
  · intro w'
    go_simp
    with_reducible rfl
  rotate_left
  · simp only [aP]
    rfl
  refine pu_ 6 25 ?_ #[J,J,J,J,Z,J,J,Z,Z,Z,Z,Z,Z,Z] rfl rfl ?_ ?_ ?_ ?_
  rotate_left
  · intro w'
    go_simp
    with_reducible rfl
  rotate_left
  · simp only [aP]
    rfl
  refine pu_ 7 26 ?_ #[J,J,J,J,Z,J,J,J,Z,Z,Z,Z,Z,Z] rfl rfl ?_ ?_ ?_ ?_
  rotate_left
  · intro w'
    go_simp
    with_reducible rfl
  rotate_left
  · simp only [aP]
    rfl
  refine ta_ 4 23 ?_ #[J,J,J,J,J,J,J,J,Z,Z,Z,Z,Z,Z] rfl rfl ?_ hHeld ?_ ?_ ?_
  rotate_left
  · rintro w' ⟨s0, s1⟩
    go_simp
    with_reducible rfl
  rotate_left
  · simp only [aP]
    rfl
  refine ta_ 8 27 ?_ #[J,J,J,J,J,J,J,J,J,Z,Z,Z,Z,Z] rfl rfl ?_ hHeld ?_ ?_ ?_
  rotate_left
  · rintro w' ⟨s0, s1⟩
    go_simp
    with_reducible rfl
  rotate_left
  · simp only [aP]
    rfl
  refine pu_ 9 28 ?_ #[J,J,J,J,J,J,J,J,J,J,Z,Z,Z,Z] rfl rfl ?_ ?_ ?_ ?_
  rotate_left
  · intro w'
    go_simp
    with_reducible rfl
  rotate_left
  · simp only [aP]
    rfl
  refine pu_ 10 29 ?_ #[J,J,J,J,J,J,J,J,J,J,J,Z,Z,Z] rfl rfl ?_ ?_ ?_ ?_
  rotate_left
  · intro w'
    go_simp
    with_reducible rfl
  rotate_left
  · simp only [aP]
    rfl
  refine pu_ 11 30 ?_ #[J,J,J,J,J,J,J,J,J,J,J,J,Z,Z] rfl rfl ?_ ?_ ?_ ?_
  rotate_left
  · intro w'
    go_simp
    with_reducible rfl
  rotate_left
  · simp only [aP]
    rfl
  refine pu_ 12 31 ?_ #[J,J,J,J,J,J,J,J,J,J,J,J,J,Z] rfl rfl ?_ ?_ ?_ ?_
  rotate_left
  · intro w'
    go_simp
    with_reducible rfl
  rotate_left
  · simp only [aP]
    rfl
  refine last_ (i := 13) (N := none) #[J,J,J,J,J,J,J,J,J,J,J,J,J,J] rfl rfl (by kernel_rfl) (by decide) (fun K hK => ?_)
  refine skip_ (w1 := ?_) (by rfl) rfl ?_ ?_
  rotate_left
  · go_simp
    rfl
  refine hK.out _ _ ?_
  clear hK K
  refine done_ (by kernel_rfl) ?_
  have B9 := Aside0.mk (B7.out.setBlk 2 (.int .i64 (M : Int))).drew
  obtain ⟨w9, hw9⟩ : ∃ x, (w8.setCell ⟨gm, 2, none⟩ (.int .i64 (M : Int))).drew = x := ⟨_, rfl⟩
  rw [hw9] at B9 ⊢
  have z9 : w9.cell? ⟨gm, 1, none⟩ = some (.slice A7 (ps.length + 1) c7) := (B9.out.cell 1).trans rfl
  clear hw9 hmx
  have HD : Aside0 (decide ((ps.length : Int) + 1 ≤ 16) = decide (ps.length < 16)) := ⟨decide_eq_decide.2 (by omega)⟩
  go_wp2_with fail
  go_ret
  exact ⟨by rw [HD.out]; rfl, _, fin_ HM.out HV.out (Sep.pull [_, _] B9.out).tail⟩
end
end Go.Proofs.Ytkkgfpdjlohojaa.Nest
namespace Go.Proofs.Ytkkgfpdjlohojaa.Kit
open Go.RowKit Go.Proofs.YtkkgfpdjlohojaaW.PrintWords Go.Proofs.YtkkgfpdjlohojaaW.PrintLast Go.Proofs.YtkkgfpdjlohojaaW.PrintMore
theorem elem_ {α : Type} {d : Kd α} {W : World} {A : Option Addr} {n : Nat} {xs : List α} (h : d.C W A n xs) {i : Nat} (hi : i < n) :
    ∃ (hx : i < xs.length) (a : Addr) (cs : List Value), A = some a ∧ d.K W xs[i] cs ∧ (∀ u, cs[0]? = some u → W.cell? (a.add (i * d.sz)) = some u) ∧
      ∀ j u, 0 < j → cs[j]? = some u → W.cell? ⟨(a.add (i * d.sz)).block, (a.add (i * d.sz)).off + j, none⟩ = some u := by
  have hx : i < xs.length := by rw [h.1]; exact hi
  obtain ⟨a, e, hr⟩ := h.2.2 (by omega)
  obtain ⟨cs, hl, hk, hc⟩ := hr i _ (List.getElem?_eq_getElem hx)
  refine ⟨hx, a, cs, e, hk, fun u hu => ?_, fun j u hj hu => ?_⟩
  · have := hc 0 u hu; rwa [Nat.add_zero] at this
  · have := hc j u hu
    rwa [add_field _ _ j hj] at this
end Go.Proofs.Ytkkgfpdjlohojaa.Kit
namespace Go.Proofs.Ytkkgfpdjlohojaa.Nest
open Go.RowKit Go.Proofs.YtkkgfpdjlohojaaW.PrintWords Go.Proofs.YtkkgfpdjlohojaaW.PrintLast Go.Proofs.YtkkgfpdjlohojaaW.PrintMore Go.Proofs.Ytkkgfpdjlohojaa.Kit
open Go.Proofs.Ytkkgfpdjlohojaa.NestP
theorem rawAt {w0 W : World} {F : List HP} {sz T ga N c k : Nat} {xs : List (List Value)} {cl : List Value} (h : Sep w0 W (Row (Kd.raw sz) T (.slice (some ⟨ga, 0, none⟩) N c) xs :: F)) (hk : xs[k]? = some cl) :
    (∀ q u, cl[q]? = some u → W.cell? ⟨ga, k * sz + q, none⟩ = some u) ∧ ∀ q, W.frozen? ⟨ga, q, none⟩ = false := by
  obtain ⟨hN, hc, hC⟩ := h.rowC
  have hkl : k < xs.length := (List.getElem?_eq_some_iff.1 hk).1
  constructor
  · intro q u hu
    obtain ⟨hx, a, cs, ha, hK, h0, hj⟩ := elem_ hC hkl
    cases ha
    have hK1 : cs = xs[k] := hK.1
    have hcl : xs[k] = cl := by rw [List.getElem?_eq_getElem hkl] at hk; exact Option.some.inj hk
    rw [hcl] at hK1
    subst hK1
    have e1 : (Kd.raw sz).sz = sz := rfl
    rw [e1, add_plain] at h0 hj
    rcases Nat.eq_zero_or_pos q with rfl | hq
    · exact h0 u hu
    · exact hj q u hq hu
  · intro q
    obtain ⟨ok, hr⟩ := h.row
    obtain ⟨inner, ho, _⟩ := hr.2
    obtain ⟨cells, hcell⟩ := own_typed ho ga (by simp [Value.ownBlock])
    simp [World.frozen?, hcell]
section
variable {w0 W : World} {F : List HP} {gm : Nat} {vt vo v : Value} {tt : List Int} {ps : List Pt} {p : Pt} {deep : Nat} {vs : List Value}
def MtS (gm : Nat) (vt vo : Value) (tt : List Int) (ps : List Pt) (p : Pt) (deep : Nat) (vs : List Value) (v : Value) (F : List HP) : List HP :=
  Blk gm 69 #[vt, vo, .int .i64 (deep : Int)] :: Row I64 3 vt tt :: Row (Kd.raw 4) 92 vo (rawC ps vs ++ [cellsP p v]) :: Row I64 3 v (p.lvs.map (fun k : Nat => (k : Int))) :: (lvR ps vs ++ F)
theorem mts (hv : vs.length = ps.length) (h : Sep w0 W (MtL gm vt vo tt (ps ++ [p]) deep (vs ++ [v]) ++ F)) : Sep w0 W (MtS gm vt vo tt ps p deep vs v F) := by
  unfold MtL at h
  rw [rawC_app ps _ vs _ hv, lvR_app ps _ vs _ hv, List.cons_append, List.cons_append, List.cons_append, List.append_assoc] at h
  exact Sep.push [_, _, _] (Sep.pull (Blk gm 69 #[vt, vo, .int .i64 (deep : Int)] :: Row I64 3 vt tt :: Row (Kd.raw 4) 92 vo (rawC ps vs ++ [cellsP p v]) :: lvR ps vs) h)
theorem stm (hv : vs.length = ps.length) (h : Sep w0 W (MtS gm vt vo tt ps p deep vs v F)) : Sep w0 W (MtL gm vt vo tt (ps ++ [p]) deep (vs ++ [v]) ++ F) := by
  have h3 := Sep.push (Blk gm 69 #[vt, vo, .int .i64 (deep : Int)] :: Row I64 3 vt tt :: Row (Kd.raw 4) 92 vo (rawC ps vs ++ [cellsP p v]) :: lvR ps vs) (Sep.pull [_, _, _] h)
  unfold MtL
  rw [rawC_app ps _ vs _ hv, lvR_app ps _ vs _ hv, List.cons_append, List.cons_append, List.cons_append, List.append_assoc]
  exact h3
theorem topRow {hv : vs.length = ps.length} (h : Sep w0 W (MtS gm vt vo tt ps p deep vs v F)) : ∃ ga c, vo = .slice (some ⟨ga, 0, none⟩) (ps.length + 1) c := by
  have h2 : Sep w0 W (Row (Kd.raw 4) 92 vo (rawC ps vs ++ [cellsP p v]) :: _) := Sep.pull [_, _] h
  exact h2.rowFormN (by rw [List.length_append, rawC_len ps vs hv]; rfl) (by omega)
theorem topCell {ga c : Nat} (hv : vs.length = ps.length) (h : Sep w0 W (MtS gm vt (.slice (some ⟨ga, 0, none⟩) (ps.length + 1) c) tt ps p deep vs v F)) :
    W.cell? ⟨ga, ps.length * 4, none⟩ = some (.bool p.loop) ∧ W.cell? ⟨ga, ps.length * 4 + 1, none⟩ = some (.int .i64 (p.beg : Int)) ∧ W.cell? ⟨ga, ps.length * 4 + 2, none⟩ = some (.int .i64 (p.oth : Int)) ∧ W.cell? ⟨ga, ps.length * 4 + 3, none⟩ = some v ∧ ∀ q, W.frozen? ⟨ga, q, none⟩ = false := by
  have h2 : Sep w0 W (Row (Kd.raw 4) 92 (.slice (some ⟨ga, 0, none⟩) (ps.length + 1) c) (rawC ps vs ++ [cellsP p v]) :: _) := Sep.pull [_, _] h
  obtain ⟨h3, h4⟩ := rawAt (k := ps.length) (cl := cellsP p v) h2 (by rw [List.getElem?_append_right (by rw [rawC_len ps vs hv]; omega), rawC_len ps vs hv, Nat.sub_self]; rfl)
  exact ⟨h3 0 _ rfl, h3 1 _ rfl, h3 2 _ rfl, h3 3 _ rfl, h4⟩
theorem topPut {ga c q : Nat} {u : Value} {p2 : Pt} (hv : vs.length = ps.length) (h : Sep w0 W (MtS gm vt (.slice (some ⟨ga, 0, none⟩) (ps.length + 1) c) tt ps p deep vs v F)) (hq : q < 4) (hu : u.oneCell' = true) (hc : (cellsP p v).set q u = cellsP p2 v) (hl : p2.lvs = p.lvs) :
    Sep w0 (W.setCell ⟨ga, ps.length * 4 + q, none⟩ u) (MtS gm vt (.slice (some ⟨ga, 0, none⟩) (ps.length + 1) c) tt ps p2 deep vs v F) := by
  have h2 : Sep w0 W (Row (Kd.raw 4) 92 (.slice (some ⟨ga, 0, none⟩) (ps.length + 1) c) (rawC ps vs ++ [cellsP p v]) :: _) := Sep.pull [_, _] h
  have hl2 := rawC_len ps vs hv
  have h3 := h2.putRaw (j := ps.length) (q := q) (u := u) (by rw [List.length_append, hl2]; exact Nat.lt_succ_self _) hq hu
  have e1 : (rawC ps vs ++ [cellsP p v]).getD ps.length [] = cellsP p v := by rw [List.getD_eq_getElem?_getD, List.getElem?_append_right (by omega), hl2, Nat.sub_self]; rfl
  have e2 : (rawC ps vs ++ [cellsP p v]).set ps.length (cellsP p2 v) = rawC ps vs ++ [cellsP p2 v] := by rw [List.set_append_right _ _ (by omega), hl2, Nat.sub_self]; rfl
  rw [e1, hc, e2] at h3
  unfold MtS
  rw [hl]
  exact Sep.push [_, _] h3
theorem topForm (h : Sep w0 W (MtS gm vt vo tt ps p deep vs v F)) (hp : 0 < tt.length) : ∃ gt ct, vt = .slice (some ⟨gt, 0, none⟩) tt.length ct := by
  have h2 : Sep w0 W (Row I64 3 vt tt :: _) := Sep.pull [_] h
  exact h2.rowForm hp
theorem otherPut {ga c : Nat} (hv : vs.length = ps.length) (h : Sep w0 W (MtL gm vt (.slice (some ⟨ga, 0, none⟩) (ps.length + 1) c) tt (ps ++ [p]) deep (vs ++ [v]) ++ F)) (i : Nat) :
    Aside0 (Sep w0 (W.setCell ⟨ga, ps.length * 4 + 2, none⟩ (.int .i64 (i : Int))) (MtS gm vt (.slice (some ⟨ga, 0, none⟩) (ps.length + 1) c) tt ps { p with oth := i } deep vs v F)) :=
  ⟨topPut (p2 := { p with oth := i }) (q := 2) (u := .int .i64 (i : Int)) hv (mts hv h) (by omega) rfl rfl rfl⟩
set_option maxHeartbeats 1600000 in
theorem other_nil (h : Sep w0 W (MtL gm vt vo tt [] deep [] ++ F)) (i : Nat) : Calls Try.prog 41 #[.pointer (some ⟨gm, 0, none⟩), .int .i64 (i : Int)] W fun e w' => e = .returned (.bool false) ∧ W = w' := by
  have H := Aside0.mk h
  clear h
  go_enter Try.func41, Try.ntmps41
  go_wp2_with (go_at_call 46; refine (top_nil H.out).mono ?_; rintro e w1 ⟨rfl, rfl⟩)
  go_ret
  exact ⟨by first | rfl | (simp; done), rfl⟩
set_option maxHeartbeats 1600000 in
theorem other_no (hv : vs.length = ps.length) (h : Sep w0 W (MtL gm vt vo tt (ps ++ [p]) deep (vs ++ [v]) ++ F)) (i : Nat) (hn : p.loop = true ∨ 0 < p.oth) : Calls Try.prog 41 #[.pointer (some ⟨gm, 0, none⟩), .int .i64 (i : Int)] W fun e w' => e = .returned (.bool false) ∧ Sep w0 w' (MtL gm vt vo tt (ps ++ [p]) deep (vs ++ [v]) ++ F) := by
  obtain ⟨ga, c, rfl⟩ := topRow (hv := hv) (mts hv h)
  have H := Aside0.mk h
  have HV := Aside0.mk hv
  clear h hv
  rcases hn with hn | hn
  · go_enter Try.func41, Try.ntmps41
    go_wp2_with (go_at_call 46; refine (top_some (n := ps.length) H.out rfl).mono ?_; rintro e w1 ⟨rfl, hS⟩; obtain ⟨z0, z1, z2, z3, zf⟩ := topCell HV.out (mts HV.out hS); rw [hn] at z0; replace hS := Aside0.mk hS)
    go_ret
    exact ⟨by first | rfl | (simp; done), hS.out⟩
  · cases hl : p.loop
    · have hd : decide (0 < (p.oth : Int)) = true := decide_eq_true (by omega)
      have hd2 : decide (0 < p.oth) = true := decide_eq_true (by omega)
      go_enter Try.func41, Try.ntmps41
      go_wp2_with (go_at_call 46; refine (top_some (n := ps.length) H.out rfl).mono ?_; rintro e w1 ⟨rfl, hS⟩; obtain ⟨z0, z1, z2, z3, zf⟩ := topCell HV.out (mts HV.out hS); rw [hl] at z0; replace hS := Aside0.mk hS)
      go_ret
      exact ⟨by first | rfl | (simp; done), hS.out⟩
    · go_enter Try.func41, Try.ntmps41
      go_wp2_with (go_at_call 46; refine (top_some (n := ps.length) H.out rfl).mono ?_; rintro e w1 ⟨rfl, hS⟩; obtain ⟨z0, z1, z2, z3, zf⟩ := topCell HV.out (mts HV.out hS); rw [hl] at z0; replace hS := Aside0.mk hS)
      go_ret
      exact ⟨by first | rfl | (simp; done), hS.out⟩
set_option maxHeartbeats 3200000 in
set_option maxRecDepth 100000 in
theorem other_yes (hv : vs.length = ps.length) (h : Sep w0 W (MtL gm vt vo tt (ps ++ [p]) deep (vs ++ [v]) ++ F)) (i : Nat) (hl : p.loop = false) (ho : p.oth = 0) (hb : p.beg < tt.length) (hi : (i : Int) < 9223372036854775807) :
    Calls Try.prog 41 #[.pointer (some ⟨gm, 0, none⟩), .int .i64 (i : Int)] W fun e w' => e = .returned (.bool true) ∧ Sep w0 w' (MtL gm vt vo (tt.set p.beg ((i : Int) + 1)) (ps ++ [{ p with oth := i }]) deep (vs ++ [v]) ++ F) := by
  obtain ⟨ga, c, rfl⟩ := topRow (hv := hv) (mts hv h)
  obtain ⟨gt, ct, rfl⟩ := topForm (mts hv h) (by omega)
  have H := Aside0.mk h
  have HV := Aside0.mk hv
  have HL := Aside0.mk hl
  have HO := Aside0.mk ho
  have hw : wrap64 ((i : Int) + 1) = (i : Int) + 1 := IntWalk.wrap64_in _ (by omega)
  clear h hv hl ho
  go_enter Try.func41, Try.ntmps41
  go_wp2_with (go_at_call 46; go_loud (refine (top_some (n := ps.length) H.out rfl).mono ?_; rintro e w1 ⟨rfl, hS⟩; obtain ⟨z0, z1, z2, z3, zf⟩ := topCell HV.out (mts HV.out hS); rw [HL.out] at z0; rw [HO.out] at z2; have zf2 := zf (ps.length * 4 + 2); clear zf; have B1 := otherPut HV.out hS i; clear hS))
  obtain ⟨w2, hw2⟩ : ∃ x, w1.setCell ⟨ga, ps.length * 4 + 2, none⟩ (.int .i64 (i : Int)) = x := ⟨_, rfl⟩
  rw [hw2] at B1 ⊢
  clear hw2 zf2 z0 z1 z2 z3
  have c0 : w2.drew.cell? ⟨gm, 0, none⟩ = some (.slice (some ⟨gt, 0, none⟩) tt.length ct) := (Sep.cell (show Sep w0 w2.drew (Blk gm 69 #[.slice (some ⟨gt, 0, none⟩) tt.length ct, _, _] :: _) from B1.out.drew) 0).trans rfl
  have c1 : w2.drew.cell? ⟨ga, ps.length * 4 + 1, none⟩ = some (.int .i64 (p.beg : Int)) := (topCell HV.out B1.out.drew).2.1
  obtain ⟨f1, f2⟩ := Sep.rowCell (0 : Int) (Sep.pull [_] B1.out.drew) p.beg hb
  have hit : (p.beg : Int).toNat = p.beg := rfl
  have hi1 : (p.beg : Int) < (tt.length : Int) := by omega
  refine start_ (n := 12) (S := fun w' => w'.cell? ⟨gm, 0, none⟩ = some (.slice (some ⟨gt, 0, none⟩) tt.length ct) ∧ w'.cell? ⟨ga, ps.length * 4 + 1, none⟩ = some (.int .i64 (p.beg : Int))) (ds := [11]) #[Z,Z,Z,Z,Z,Z,Z,Z,Z,Z,Z,Z] (by kernel_rfl) rfl rfl ⟨c0, c1⟩ (fun hHeld => ?_)
  refine pu_ 0 27 ?_ #[J,Z,Z,Z,Z,Z,Z,Z,Z,Z,Z,Z] rfl rfl ?_ ?_ ?_ ?_
  rotate_left
  · intro w'
    go_simp
    with_reducible rfl
  rotate_left
  · simp only [aP]
    rfl
  refine pu_ 1 28 ?_ #[J,J,Z,Z,Z,Z,Z,Z,Z,Z,Z,Z] rfl rfl ?_ ?_ ?_ ?_
  rotate_left
  · intro w'
    go_simp
    with_reducible rfl
  rotate_left
  · simp only [aP]
    rfl
  refine pu_ 2 29 ?_ #[J,J,J,Z,Z,Z,Z,Z,Z,Z,Z,Z] rfl rfl ?_ ?_ ?_ ?_
  rotate_left
  · intro w'
    go_simp
    with_reducible rfl
  rotate_left
  · simp only [aP]
    rfl
  refine pu_ 4 31 ?_ #[J,J,J,Z,J,Z,Z,Z,Z,Z,Z,Z] rfl rfl ?_ ?_ ?_ ?_
  rotate_left
  · intro w'
    go_simp
    with_reducible rfl
  rotate_left
  · simp only [aP]
    rfl
  refine pu_ 5 32 ?_ #[J,J,J,Z,J,J,Z,Z,Z,Z,Z,Z] rfl rfl ?_ ?_ ?_ ?_
  rotate_left
  · intro w'
    go_simp
    with_reducible rfl
  rotate_left
  · simp only [aP]
    rfl
  refine pu_ 6 33 ?_ #[J,J,J,Z,J,J,J,Z,Z,Z,Z,Z] rfl rfl ?_ ?_ ?_ ?_
  rotate_left
  · intro w'
    go_simp
    with_reducible rfl
  rotate_left
  · simp only [aP]
    rfl
  refine pu_ 8 35 ?_ #[J,J,J,Z,J,J,J,Z,J,Z,Z,Z] rfl rfl ?_ ?_ ?_ ?_
  rotate_left
  · intro w'
    go_simp
    with_reducible rfl
  rotate_left
  · simp only [aP]
    rfl
  refine pu_ 9 36 ?_ #[J,J,J,Z,J,J,J,Z,J,J,Z,Z] rfl rfl ?_ ?_ ?_ ?_
  rotate_left
  · intro w'
    go_simp
    with_reducible rfl
  rotate_left
  · simp only [aP]
    rfl
  refine ta_ 3 30 ?_ #[J,J,J,J,J,J,J,Z,J,J,Z,Z] rfl rfl ?_ hHeld ?_ ?_ ?_
  rotate_left
  · rintro w' ⟨s0, s1⟩
    go_simp
    with_reducible rfl
  rotate_left
  · simp only [aP]
    rfl
  refine ta_ 7 34 ?_ #[J,J,J,J,J,J,J,J,J,J,Z,Z] rfl rfl ?_ hHeld ?_ ?_ ?_
  rotate_left
  · rintro w' ⟨s0, s1⟩
    go_simp
    with_reducible rfl
  rotate_left
  · simp only [aP]
    rfl
  refine pu_ 10 37 ?_ #[J,J,J,J,J,J,J,J,J,J,J,Z] rfl rfl ?_ ?_ ?_ ?_
  rotate_left
  · intro w'
    go_simp
    with_reducible rfl
  rotate_left
  · simp only [aP]
    rfl
  refine last_ (i := 11) (N := none) #[J,J,J,J,J,J,J,J,J,J,J,J] rfl rfl (by kernel_rfl) (by decide) (fun K hK => ?_)
  refine skip_ (w1 := ?_) (by rfl) rfl ?_ ?_
  rotate_left
  · go_simp
    rfl
  refine hK.out _ _ ?_
  clear hK K
  refine done_ (by kernel_rfl) ?_
  have B2 := Aside0.mk ((Sep.pull [_] B1.out).putRow (enc := Value.int .i64) p.beg ((i : Int) + 1)).drew
  go_wp2_with fail
  go_ret
  exact ⟨by first | rfl | (simp; done), stm HV.out (Sep.push [_] B2.out)⟩
end
end Go.Proofs.Ytkkgfpdjlohojaa.Nest
namespace Go.Proofs.Ytkkgfpdjlohojaa.TokP
structure Tok where
  sign : Int
  num : Int
  name : Int
deriving DecidableEq
def nameB (r : Int) : Bool := (decide (97 ≤ r) && decide (r ≤ 122)) || (decide (255 < r) && decide (r ≠ 65533) && decide (r ≤ 1114111) && (decide (r < 55296) || decide (57343 < r)))
def signsL : List Int := [43,45,42,47,37,38,124,94,60,61,33,46,44,64,36,35,63,58,59,91,93,126,171,187,169,174,164,161,955,960]
def knownB (r : Int) : Bool := (decide (97 ≤ r) && decide (r ≤ 122)) || (decide (65 ≤ r) && decide (r ≤ 90)) || signsL.contains r
def namedB (r : Int) : Bool := decide (r = 955) || decide (r = 960)
inductive Md where
  | idle
  | num (n : Nat)
  | nm (s : Int)
def top : Nat := 9223372036854775807
def stepI (acc : List Tok) (r : Int) : Option (List Tok × Md) :=
  if r = 32 then some (acc, .idle) else if 48 ≤ r ∧ r ≤ 57 then some (acc, .num (r - 48).toNat) else if namedB r = true then some (acc, .nm r) else if knownB r = true then some (acc ++ [⟨r, 0, 0⟩], .idle) else none
def step (acc : List Tok) (r : Int) : Md → Option (List Tok × Md)
  | .idle => stepI acc r
  | .num n => if 48 ≤ r ∧ r ≤ 57 then (if (top - (r - 48).toNat) / 10 < n then none else some (acc, .num (n * 10 + (r - 48).toNat))) else stepI (acc ++ [⟨48, n, 0⟩]) r
  | .nm s => if nameB r = true then some (acc ++ [⟨s, 0, r⟩], .idle) else none
def run (acc : List Tok) (m : Md) : List Int → Option (List Tok)
  | [] => match m with
    | .idle => some acc
    | .num n => some (acc ++ [⟨48, n, 0⟩])
    | .nm _ => none
  | r :: t => match step acc r m with
    | none => none
    | some (a, m2) => run a m2 t
def tokens (rs : List Int) : Option (List Tok) := run [] .idle rs
def flush (acc : List Tok) : Md → List Tok
  | .idle => acc
  | .num n => acc ++ [⟨48, n, 0⟩]
  | .nm _ => acc
def noNm : Md → Prop
  | .nm _ => False
  | _ => True
theorem run_cons (acc : List Tok) (m : Md) (r : Int) (t : List Int) : run acc m (r :: t) = match step acc r m with
    | none => none
    | some (a, m2) => run a m2 t := rfl
theorem step_flush {acc : List Tok} {m : Md} {r : Int} (hm : noNm m) (hr : ¬ (48 ≤ r ∧ r ≤ 57)) : step acc r m = stepI (flush acc m) r := by
  cases m with
  | idle => rfl
  | num n => unfold step; dsimp only; rw [if_neg hr]; rfl
  | nm s => exact hm.elim
theorem named_not_digit {r : Int} (h : namedB r = true) : r ≠ 32 ∧ ¬ (48 ≤ r ∧ r ≤ 57) := by
  unfold namedB at h
  simp only [Bool.or_eq_true, decide_eq_true_eq] at h
  omega
theorem run_num (acc : List Tok) (t : List Int) (r : Int) (h : 48 ≤ r ∧ r ≤ 57) : run acc .idle (r :: t) = run acc (.num 0) (r :: t) := by
  rw [run_cons, run_cons]
  unfold step stepI
  dsimp only
  rw [if_neg (by omega), if_pos h, if_pos h, if_neg (by omega)]
  simp
theorem run_flush (acc : List Tok) (k : Nat) (r : Int) (t : List Int) (h : ¬ (48 ≤ r ∧ r ≤ 57)) : run acc (.num k) (r :: t) = run (acc ++ [⟨48, k, 0⟩]) .idle (r :: t) := by
  have h1 := step_flush (acc := acc) (m := .num k) (r := r) trivial h
  rw [run_cons, run_cons, h1]
  rfl
theorem run_digit (acc : List Tok) (k : Nat) (r : Int) (t : List Int) (h : 48 ≤ r ∧ r ≤ 57) : run acc (.num k) (r :: t) = if (top - (r - 48).toNat) / 10 < k then none else run acc (.num (k * 10 + (r - 48).toNat)) t := by
  rw [run_cons]
  unfold step
  dsimp only
  rw [if_pos h]
  by_cases hx : (top - (r - 48).toNat) / 10 < k
  · rw [if_pos hx, if_pos hx]
  · rw [if_neg hx, if_neg hx]
theorem run_named (acc : List Tok) (r x : Int) (t : List Int) (h : namedB r = true) : run acc .idle (r :: x :: t) = if nameB x = true then run (acc ++ [⟨r, 0, x⟩]) .idle t else none := by
  have hd := named_not_digit h
  rw [run_cons]
  unfold step stepI
  dsimp only
  rw [if_neg hd.1, if_neg hd.2, if_pos h]
  dsimp only
  rw [run_cons]
  unfold step
  dsimp only
  by_cases hx : nameB x = true
  · rw [if_pos hx, if_pos hx]
  · rw [if_neg hx, if_neg hx]
theorem run_namedE (acc : List Tok) (r : Int) (h : namedB r = true) : run acc .idle [r] = none := by
  have hd := named_not_digit h
  rw [run_cons]
  unfold step stepI
  dsimp only
  rw [if_neg hd.1, if_neg hd.2, if_pos h]
  rfl
theorem run_else (acc : List Tok) (r : Int) (t : List Int) (h1 : r ≠ 32) (h2 : ¬ (48 ≤ r ∧ r ≤ 57)) (h3 : namedB r = false) : run acc .idle (r :: t) = if knownB r = true then run (acc ++ [⟨r, 0, 0⟩]) .idle t else none := by
  rw [run_cons]
  unfold step stepI
  dsimp only
  rw [if_neg h1, if_neg h2, if_neg (by rw [h3]; decide)]
  by_cases hx : knownB r = true
  · rw [if_pos hx, if_pos hx]
  · rw [if_neg hx, if_neg hx]
def pendN : Md → Nat
  | .idle => 0
  | _ => 1
theorem stepI_len {acc a : List Tok} {r : Int} {m : Md} (e : stepI acc r = some (a, m)) : a.length + pendN m ≤ acc.length + 1 := by
  unfold stepI at e
  repeat' split at e
  all_goals first | (cases e; done) | (cases e; simp [pendN])
theorem step_len {acc a : List Tok} {r : Int} {m m2 : Md} (e : step acc r m = some (a, m2)) : a.length + pendN m2 ≤ acc.length + pendN m + 1 := by
  cases m with
  | idle => exact stepI_len e
  | num n =>
    unfold step at e
    dsimp only at e
    split at e
    · split at e
      · cases e
      · cases e; simp [pendN]
    · have := stepI_len e
      rw [List.length_append] at this
      simp [pendN] at this ⊢
      omega
  | nm s =>
    unfold step at e
    dsimp only at e
    split at e
    · cases e; simp [pendN]
    · cases e
theorem run_len : ∀ (rs : List Int) {acc a : List Tok} {m : Md}, run acc m rs = some a → a.length ≤ acc.length + pendN m + rs.length
  | [], acc, a, .idle, e => by cases e; simp [pendN]
  | [], acc, a, .num n, e => by cases e; simp [pendN]
  | [], acc, a, .nm s, e => by cases e
  | r :: t, acc, a, m, e => by
    rw [run_cons] at e
    cases hs : step acc r m with
    | none => rw [hs] at e; cases e
    | some q =>
      obtain ⟨b, m2⟩ := q
      rw [hs] at e
      have h1 := step_len hs
      have h2 := run_len t e
      rw [List.length_cons]
      omega
theorem tokens_len {rs : List Int} {l : List Tok} (h : tokens rs = some l) : l.length ≤ rs.length := by
  have := run_len rs h
  simpa [pendN] using this
end Go.Proofs.Ytkkgfpdjlohojaa.TokP
namespace Go.Proofs.Ytkkgfpdjlohojaa.Tok
open Go.RowKit Go.Proofs.YtkkgfpdjlohojaaW.PrintWords Go.Proofs.YtkkgfpdjlohojaaW.PrintLast Go.Proofs.YtkkgfpdjlohojaaW.PrintMore Go.Proofs.Ytkkgfpdjlohojaa.Kit
open Go.Proofs.Ytkkgfpdjlohojaa.TokP
def cellT (t : Tok) : List Value := [.int .i32 t.sign, .int .i64 t.num, .int .i32 t.name]
def TC (W : World) (A : Option Addr) (n : Nat) (l : List Tok) : Prop := (Kd.raw 3).C W A n (l.map cellT)
def sgn (l : List Tok) : List Int := l.map (·.sign)
abbrev RowT (v : Value) (l : List Tok) : HP := Row (Kd.raw 3) 42 v (l.map cellT)
theorem TC.len {W : World} {A : Option Addr} {n : Nat} {l : List Tok} (h : TC W A n l) : l.length = n := by
  have := h.1
  rwa [List.length_map] at this
theorem TC.lt {W : World} {A : Option Addr} {n : Nat} {l : List Tok} (h : TC W A n l) : n ≤ 9223372036854775807 := h.2.1
theorem TC.at_ {W : World} {A : Option Addr} {n : Nat} {l : List Tok} (h : TC W A n l) {i : Nat} (hi : i < n) :
    ∃ (a : Addr) (t : Tok), A = some a ∧ l[i]? = some t ∧ W.cell? (a.add (i * 3)) = some (.int .i32 t.sign) ∧ W.cell? ⟨(a.add (i * 3)).block, (a.add (i * 3)).off + 1, none⟩ = some (.int .i64 t.num) ∧ W.cell? ⟨(a.add (i * 3)).block, (a.add (i * 3)).off + 2, none⟩ = some (.int .i32 t.name) := by
  obtain ⟨hx, a, cs, ha, hK, h0, hj⟩ := elem_ h hi
  have hl : i < l.length := by rw [h.len]; exact hi
  have hK1 : cs = (l.map cellT)[i] := hK.1
  rw [List.getElem_map] at hK1
  subst hK1
  exact ⟨a, l[i], ha, List.getElem?_eq_getElem hl, h0 _ rfl, hj 1 _ (by decide) rfl, hj 2 _ (by decide) rfl⟩
theorem infoTok : (Try.prog.info? 42).map (fun i => (i.zero, i.size, i.bytes)) = some (some (.agg #[.int .i32 0, .int .i64 0, .int .i32 0]), 3, 24) := by kernel_rfl
theorem rowT_TC {w0 W : World} {F : List HP} {A : Option Addr} {n c : Nat} {l : List Tok} (h : Sep w0 W (RowT (.slice A n c) l :: F)) : TC W A n l := by
  exact h.rowC'
theorem one_raw {cl : List Value} {sz : Nat} {W : World} (hs : cl.length = sz) (h1 : ∀ u ∈ cl, u.oneCell' = true) : Reps ((Kd.raw sz).M W W.heap.size (fun _ => False)) (Kd.raw sz).sz [cl] cl :=
  ⟨by rw [List.length_singleton, Nat.one_mul]; exact hs, fun j c hj => by
    match j, hj with
    | 0, hj =>
      cases hj
      rw [Nat.zero_mul, List.drop_zero, List.take_of_length_le (by show cl.length ≤ sz; omega)]
      exact ⟨rfl, hs, h1⟩⟩
theorem oneTok {w0 W : World} {F : List HP} (h : Sep w0 W F) (t : Tok) : Sep w0 (W.alloc (.cells (cellT t).toArray 42)) (RowT (.slice (some ⟨W.heap.size, 0, none⟩) 1 1) [t] :: F) :=
  h.newLit (d := Kd.raw 3) (xs := [cellT t]) (inner := cellT t) (e := 42) (one_raw rfl (by
    intro u hu
    simp only [cellT, List.mem_cons, List.not_mem_nil, or_false] at hu
    rcases hu with rfl | rfl | rfl <;> rfl)) (by simp)
end Go.Proofs.Ytkkgfpdjlohojaa.Tok
namespace Go.Proofs.Ytkkgfpdjlohojaa.Fn
open Go.RowKit Go.Proofs.YtkkgfpdjlohojaaW.PrintWords Go.Proofs.YtkkgfpdjlohojaaW.PrintLast Go.Proofs.YtkkgfpdjlohojaaW.PrintMore Go.Proofs.Ytkkgfpdjlohojaa.Kit
open Go.Proofs.Ytkkgfpdjlohojaa.TokP Go.Proofs.Ytkkgfpdjlohojaa.Tok
open Nest (rawAt)
structure Bk where
  sign : Int
  base : Int
  other : Int
  left : Bool
def cellB (b : Bk) : List Value := [.int .i32 b.sign, .int .i64 b.base, .int .i64 b.other, .bool b.left]
theorem infoBk : (Try.prog.info? 86).map (fun i => (i.zero, i.size, i.bytes)) = some (some (.agg #[.int .i32 0, .int .i64 0, .int .i64 0, .bool false]), 4, 32) := by kernel_rfl
def StL (g : Nat) (h : Int) (vo : Value) (bs : List Bk) (F : List HP) : List HP := Blk g 78 #[.int .i64 h, vo] :: Row (Kd.raw 4) 86 vo (bs.map cellB) :: F
def RetB (e : Ending) : Prop := ∃ r : Bool, e = .returned (.bool r)
def StT (w0 w' : World) (F : List HP) (g n : Nat) : Prop := ∃ (h' : Int) (vo' : Value) (bs' : List Bk), bs'.length = n ∧ Sep w0 w' (StL g h' vo' bs' F)
section
variable {w0 W : World} {F : List HP} {g : Nat} {h : Int} {vo : Value} {bs : List Bk}
theorem st_h (hS : Sep w0 W (StL g h vo bs F)) : W.cell? ⟨g, 0, none⟩ = some (.int .i64 h) := (Sep.cell (show Sep w0 W (Blk g 78 #[.int .i64 h, vo] :: _) from hS) 0).trans rfl
theorem st_o (hS : Sep w0 W (StL g h vo bs F)) : W.cell? ⟨g, 1, none⟩ = some vo := (Sep.cell (show Sep w0 W (Blk g 78 #[.int .i64 h, vo] :: _) from hS) 1).trans rfl
theorem st_f (hS : Sep w0 W (StL g h vo bs F)) (i : Nat) : W.frozen? ⟨g, i, none⟩ = false := Sep.frozen (show Sep w0 W (Blk g 78 #[.int .i64 h, vo] :: _) from hS) i
theorem st_row (hS : Sep w0 W (StL g h vo bs F)) : Sep w0 W (Row (Kd.raw 4) 86 vo (bs.map cellB) :: Blk g 78 #[.int .i64 h, vo] :: F) := Sep.at2 hS
theorem st_N (hS : Sep w0 W (StL g h vo bs F)) {n : Nat} (hn : bs.length = n) : ∃ A c, vo = .slice A n c := (st_row hS).rowN (by rw [List.length_map]; exact hn)
theorem st_form (hS : Sep w0 W (StL g h vo bs F)) {n : Nat} (hn : bs.length = n) (hp : 0 < n) : ∃ ga c, vo = .slice (some ⟨ga, 0, none⟩) n c := (st_row hS).rowFormN (by rw [List.length_map]; exact hn) hp
theorem st_at {ga n c k : Nat} (hS : Sep w0 W (StL g h (.slice (some ⟨ga, 0, none⟩) n c) bs F)) (hk : k < bs.length) :
    ∃ b : Bk, bs[k]? = some b ∧ W.cell? ⟨ga, k * 4, none⟩ = some (.int .i32 b.sign) ∧ W.cell? ⟨ga, k * 4 + 1, none⟩ = some (.int .i64 b.base) ∧ W.cell? ⟨ga, k * 4 + 2, none⟩ = some (.int .i64 b.other) ∧ W.cell? ⟨ga, k * 4 + 3, none⟩ = some (.bool b.left) ∧ ∀ q, W.frozen? ⟨ga, q, none⟩ = false := by
  obtain ⟨h3, h4⟩ := rawAt (k := k) (cl := cellB bs[k]) (st_row hS) (by rw [List.getElem?_map, List.getElem?_eq_getElem hk]; rfl)
  exact ⟨bs[k], List.getElem?_eq_getElem hk, h3 0 _ rfl, h3 1 _ rfl, h3 2 _ rfl, h3 3 _ rfl, h4⟩
theorem st_seth (hS : Sep w0 W (StL g h vo bs F)) (h' : Int) : Sep w0 (W.setCell ⟨g, 0, none⟩ (.int .i64 h')) (StL g h' vo bs F) :=
  Sep.setBlk (show Sep w0 W (Blk g 78 #[.int .i64 h, vo] :: _) from hS) 0 (.int .i64 h')
theorem map_set4 (bs : List Bk) (k q : Nat) (u : Value) (b b2 : Bk) (hb : bs[k]? = some b) (hc : (cellB b).set q u = cellB b2) : (bs.map cellB).set k (((bs.map cellB).getD k []).set q u) = (bs.set k b2).map cellB := by
  rw [List.getD_eq_getElem?_getD, List.getElem?_map, hb]
  show (bs.map cellB).set k ((cellB b).set q u) = _
  rw [hc, List.map_set]
theorem st_put {ga n c k q : Nat} {u : Value} {b b2 : Bk} (hS : Sep w0 W (StL g h (.slice (some ⟨ga, 0, none⟩) n c) bs F)) (hb : bs[k]? = some b) (hq : q < 4) (hu : u.oneCell' = true) (hc : (cellB b).set q u = cellB b2) :
    Sep w0 (W.setCell ⟨ga, k * 4 + q, none⟩ u) (StL g h (.slice (some ⟨ga, 0, none⟩) n c) (bs.set k b2) F) := by
  have hk : k < bs.length := (List.getElem?_eq_some_iff.1 hb).1
  have h3 := (st_row hS).putRaw (j := k) (q := q) (u := u) (by rw [List.length_map]; exact hk) hq hu
  rw [map_set4 bs k q u b b2 hb hc] at h3
  exact h3.at2
def bF (bs : List Bk) : Int := (bs.getLast?.map (·.base)).getD 0
theorem bF_at {bs : List Bk} {m : Nat} {b : Bk} (hn : bs.length = m + 1) (hb : bs[m]? = some b) : bF bs = b.base := by
  unfold bF
  rw [List.getLast?_eq_getElem?, hn, Nat.add_sub_cancel, hb]
  rfl
set_option maxHeartbeats 1600000 in
set_option maxRecDepth 100000 in
theorem base_ (hS : Sep w0 W (StL g h vo bs F)) : Calls Try.prog 38 #[.pointer (some ⟨g, 0, none⟩)] W fun e w' => e = .returned (.int .i64 (bF bs)) ∧ Sep w0 w' (StL g h vo bs F) := by
  obtain ⟨n, hn⟩ : ∃ n, bs.length = n := ⟨_, rfl⟩
  have H := Aside0.mk hS
  rcases Nat.eq_zero_or_pos n with rfl | hp
  · obtain ⟨A, c, rfl⟩ := st_N hS hn
    have z1 := st_o hS
    have h0 : bF bs = 0 := by rw [List.eq_nil_of_length_eq_zero hn]; rfl
    rw [h0]
    clear hS h0
    go_enter Try.func38, Try.ntmps38
    go_wp2_with fail
    go_ret
    exact ⟨by first | rfl | (simp; done), H.out⟩
  · obtain ⟨ga, c, rfl⟩ := st_form hS hn hp
    obtain ⟨m, rfl⟩ : ∃ m, n = m + 1 := ⟨n - 1, by omega⟩
    obtain ⟨b, hb, y0, y1, y2, y3, yf⟩ := st_at hS (k := m) (by omega)
    rw [bF_at hn hb]
    obtain ⟨N, hN⟩ : ∃ N, m + 1 = N := ⟨_, rfl⟩
    rw [hN] at H hS ⊢
    have z1 := st_o hS
    have z1q := fun q => st_o (hS.drewN q)
    have hNm : (N : Int) ≤ 9223372036854775807 := by
      have h2 : N ≤ 9223372036854775807 := (st_row hS).rowC'.2.1
      omega
    have yq : ∀ q, (W.drewN q).cell? ⟨ga, m * 4 + 1, none⟩ = some (.int .i64 b.base) := fun q => y1
    have hw : wrap64 ((N : Int) - 1) = (m : Int) := by rw [IntWalk.wrap64_in _ (by omega)]; omega
    have hz : ¬ (N : Int) = 0 := by omega
    have hzb : ((N : Int) == 0) = false := by rw [beq_eq_false_iff_ne]; omega
    have hN1 : N - 1 = m := by omega
    have hmN : (m : Int) < (N : Int) := by omega
    clear hS hb y0 y2 y3 yf hn hp hN
    go_enter Try.func38, Try.ntmps38
    go_wp2_with fail
    go_quiet (fail)
    go_wp2_with fail
    go_ret
    exact ⟨by first | rfl | (simp; done), H.out.drewN _⟩
set_option maxHeartbeats 3200000 in
set_option maxRecDepth 100000 in
theorem leave_ (hS : Sep w0 W (StL g h vo bs F)) : Calls Try.prog 39 #[.pointer (some ⟨g, 0, none⟩)] W fun e w' => RetB e ∧ StT w0 w' F g bs.length := by
  obtain ⟨n, hn⟩ : ∃ n, bs.length = n := ⟨_, rfl⟩
  obtain ⟨A0, c, rfl⟩ := st_N hS hn
  have hnm : (n : Int) ≤ 9223372036854775807 := by
    have h2 : n ≤ 9223372036854775807 := (st_row hS).rowC'.2.1
    omega
  have z1 := st_o hS
  have hw : wrap64 ((n : Int) - 1) = (n : Int) - 1 := IntWalk.wrap64_in _ (by omega)
  have H := Aside0.mk hS
  have HN := Aside0.mk hn
  clear hS hn
  go_enter Try.func39, Try.ntmps39
  go_wp2_with fail
  go_loopg [3] n (fun m q wr => ∃ K : Int, q = .int .i64 K ∧ -1 ≤ K ∧ K < n ∧ K + 1 = m ∧ Sep w0 wr (StL g h (.slice A0 n c) bs F))
  case atStart => exact ⟨(n : Int) - 1, rfl, by omega, by omega, by omega, H.out⟩
  case round =>
    obtain ⟨K, rfl, h1, h2, h3, hS⟩ := hrel
    have A3 := Aside0.mk h3
    clear h3
    by_cases hj : 0 ≤ K
    · obtain ⟨k, rfl⟩ := Int.eq_ofNat_of_zero_le hj
      obtain ⟨ga, c2, e1⟩ := st_form hS HN.out (by omega)
      injection e1 with e1 _ e11
      subst e1 e11
      obtain ⟨b, hb, y0, y1, y2, y3, yf⟩ := st_at hS (k := k) (by rw [HN.out]; omega)
      have x1 := st_o hS
      have B1 := Aside0.mk hS
      have HB := Aside0.mk hb
      have hd : decide (0 ≤ (k : Int)) = true := decide_eq_true hj
      have hw1 : wrap64 ((k : Int) - 1) = (k : Int) - 1 := IntWalk.wrap64_in _ (by omega)
      have AK := Aside0.mk (And.intro h1 h2)
      have hil : (k : Int) < (n : Int) := h2
      by_cases hs : b.sign = 91
      · rw [hs] at y0
        have yf3 := yf (k * 4 + 3)
        have B2 := Aside0.mk (st_put (q := 3) (u := .bool true) (b2 := ⟨b.sign, b.base, b.other, true⟩) hS hb (by omega) rfl rfl)
        clear hS hb hs yf y2 hj h1
        go_upto_region 6 with fail
        obtain ⟨w2, hw2⟩ : ∃ x, wr.setCell ⟨ga, k * 4 + 3, none⟩ (.bool true) = x := ⟨_, rfl⟩
        rw [hw2] at B2 ⊢
        clear hw2
        have hlen : k < (bs.set k ⟨b.sign, b.base, b.other, true⟩).length := by rw [List.length_set, HN.out]; omega
        obtain ⟨b3, hb3, v0, v1, v2, v3, vf⟩ := st_at B2.out (k := k) hlen
        have q0 : ∀ q, (w2.drewN q).cell? ⟨g, 0, none⟩ = some (.int .i64 h) := fun q => st_h (B2.out.drewN q)
        have q1 : ∀ q, (w2.drewN q).cell? ⟨g, 1, none⟩ = some (.slice (some ⟨ga, 0, none⟩) n c) := fun q => st_o (B2.out.drewN q)
        have q2 : ∀ q, (w2.drewN q).cell? ⟨ga, k * 4 + 1, none⟩ = some (.int .i64 b3.base) := fun q => v1
        clear v0 v1 v2 v3 vf hb3 x1 y0 y1 yf3
        go_quiet (fail)
        have qf : (w2.drewN nq).frozen? ⟨g, 0, none⟩ = false := st_f (B2.out.drewN nq) 0
        have qh := q0 nq
        have B3 := Aside0.mk (st_seth (B2.out.drewN nq) (-1))
        go_wp2_with fail
        go_ret
        exact ⟨⟨_, rfl⟩, _, _, _, by rw [List.length_set], B3.out⟩
      · have hb91 : (b.sign == 91) = false := by simp [hs]
        clear hS hb yf y1 y2 y3 hj h1
        go_wp2_with fail
        go_roundg (gk - 1)
        case measure => have := A3.out; have := AK.out; omega
        case rel => exact ⟨(k : Int) - 1, rfl, by omega, by have := AK.out; omega, by have := A3.out; have := AK.out; omega, B1.out⟩
    · have hd : decide (0 ≤ K) = false := decide_eq_false hj
      have B1 := Aside0.mk hS
      clear hS
      go_wp2_with fail
      go_ret
      exact ⟨⟨_, rfl⟩, _, _, _, rfl, B1.out⟩
end
end Go.Proofs.Ytkkgfpdjlohojaa.Fn
namespace Go.Proofs.Ytkkgfpdjlohojaa.Keep
open Go.RowKit Go.Proofs.YtkkgfpdjlohojaaW.PrintWords Go.Proofs.YtkkgfpdjlohojaaW.PrintLast Go.Proofs.YtkkgfpdjlohojaaW.PrintMore Go.Proofs.Ytkkgfpdjlohojaa.Kit
open Go.Proofs.Ytkkgfpdjlohojaa.Fn (RetB)
theorem enc_le (r : Int) : (Utf8.encode r).size ≤ 4 := by
  unfold Utf8.encode
  dsimp only
  repeat' split
  all_goals (show Array.size _ ≤ 4; simp)
def StrR (m : Nat) (e : Ending) : Prop := ∃ s : ByteArray, e = .returned (.string s) ∧ s.size ≤ m
section
variable {w0 W : World} {F : List HP}
set_option maxHeartbeats 1600000 in
set_option maxRecDepth 100000 in
theorem digits_0 (n : Nat) (d : Nat) (hm : n < 10) : Calls Try.prog 31 #[.int .i64 (n : Int)] W fun e w' => StrR (4 * (d + 1)) e ∧ W = w' := by
  have hd : decide (10 ≤ (n : Int)) = false := decide_eq_false (by omega)
  go_enter Try.func31, Try.ntmps31
  go_wp2_with fail
  go_ret
  exact ⟨⟨_, rfl, Nat.le_trans (enc_le _) (by omega)⟩, rfl⟩
set_option maxHeartbeats 1600000 in
set_option maxRecDepth 100000 in
theorem digits_s (n m d : Nat) (h10 : 10 ≤ n) (hm : n / 10 = m) (hn : n ≤ 1000000) (hdd : d ≤ 100) (ih : Calls Try.prog 31 #[.int .i64 (m : Int)] W fun e w' => StrR (4 * (d + 1)) e ∧ W = w') :
    Calls Try.prog 31 #[.int .i64 (n : Int)] W fun e w' => StrR (4 * (d + 2)) e ∧ W = w' := by
  have hd : decide (10 ≤ (n : Int)) = true := decide_eq_true (by omega)
  have hq : wrap64 ((n : Int) / 10) = (m : Int) := by rw [IntWalk.wrap64_in _ (by omega)]; omega
  have IH := Aside0.mk ih
  obtain ⟨E, hE⟩ : ∃ E, Utf8.encode (48 + (n : Int) % 10) = E := ⟨_, rfl⟩
  have he : E.size ≤ 4 := by rw [← hE]; exact enc_le _
  clear ih hn h10 hm
  go_enter Try.func31, Try.ntmps31
  go_wp2_with fail
  refine (IH.out).mono ?_
  rintro e w1 ⟨⟨s, rfl, hs⟩, rfl⟩
  have hsz : s.size + E.size ≤ 9223372036854775807 := by omega
  have HE := Aside0.mk (And.intro hs he)
  clear hq hd hs he hdd
  go_wp2_with fail
  go_ret
  exact ⟨⟨_, rfl, by have := HE.out; simp; omega⟩, rfl⟩
theorem digits_ : ∀ (d : Nat) (n : Nat) (W : World), n < 10 ^ (d + 1) → n ≤ 1000000 → d ≤ 100 → Calls Try.prog 31 #[.int .i64 (n : Int)] W fun e w' => StrR (4 * (d + 1)) e ∧ W = w'
  | 0, n, W, hn, hm, hdd => digits_0 n 0 (by omega)
  | d + 1, n, W, hn, hm, hdd => by
    by_cases h10 : 10 ≤ n
    · exact digits_s n (n / 10) d h10 rfl hm (by omega) (digits_ d (n / 10) W (by rw [Nat.pow_succ] at hn; omega) (by omega) (by omega))
    · exact digits_0 n (d + 1) (by omega)
set_option maxHeartbeats 1600000 in
set_option maxRecDepth 100000 in
theorem halts_ (s : ByteArray) (hs : s.size ≤ 1000000) : Calls Try.prog 22 #[.string s] W fun e w' => RetB e ∧ W = w' := by
  by_cases h2 : 2 < s.size
  · have hd : decide (2 < (s.size : Int)) = true := decide_eq_true (by omega)
    have hd2 : decide (2 < s.size) = true := decide_eq_true (by omega)
    have hw : wrap64 ((s.size : Int) - 2) = ((s.size - 2 : Nat) : Int) := by rw [IntWalk.wrap64_in _ (by omega)]; omega
    go_enter Try.func22, Try.ntmps22
    go_wp2_with fail
    go_ret
    exact ⟨⟨_, rfl⟩, rfl⟩
  · have hd : decide (2 < (s.size : Int)) = false := decide_eq_false (by omega)
    have hd2 : decide (2 < s.size) = false := decide_eq_false (by omega)
    go_enter Try.func22, Try.ntmps22
    go_wp2_with fail
    go_ret
    exact ⟨⟨_, rfl⟩, rfl⟩
set_option maxHeartbeats 1600000 in
theorem live_ (s : ByteArray) (hs : s.size ≤ 1000000) : Calls Try.prog 32 #[.string s] W fun e w' => StrR s.size e ∧ W = w' := by
  go_enter Try.func32, Try.ntmps32
  go_wp2_with fail
  refine (halts_ s hs).mono ?_
  rintro e w1 ⟨⟨b, rfl⟩, rfl⟩
  cases b with
  | true =>
    go_wp2_with fail
    go_ret
    exact ⟨⟨_, rfl, Nat.zero_le _⟩, rfl⟩
  | false =>
    go_wp2_with fail
    go_ret
    exact ⟨⟨_, rfl, Nat.le_refl _⟩, rfl⟩
set_option maxHeartbeats 1600000 in
theorem at_ (n k : Int) (hk : k ≤ 1000000) : Calls Try.prog 30 #[.int .i64 n, .int .i64 k] W fun e w' => ∃ r : Int, e = .returned (.int .i64 r) ∧ (0 ≤ r ∧ (1 ≤ k → r < k) ∧ r ≤ 1048576) ∧ W = w' := by
  have hin := Book.withinF_in (n := n) (lo := 0) (hi := 1048576) (by decide)
  obtain ⟨x, hx⟩ : ∃ x, Book.withinF n 0 1048576 = x := ⟨_, rfl⟩
  rw [hx] at hin
  have HX := Aside0.mk hx
  obtain ⟨m, hm⟩ : ∃ m, (if k < 1 then 1 else k) = m := ⟨_, rfl⟩
  have HMX : Aside0 (1 ≤ m ∧ (1 ≤ k → m = k)) := ⟨by rw [← hm]; split <;> omega, fun h => by rw [← hm, if_neg (by omega)]⟩
  have hm0 : ¬ m = 0 := by have := HMX.out; omega
  have HIN := Aside0.mk hin
  clear hx
  go_enter Try.func30, Try.ntmps30
  go_wp2_with fail
  refine (Book.within_ _ _ _ _ (by decide) (by decide) (by decide)).mono ?_
  rintro e w1 ⟨rfl, rfl⟩
  rw [HX.out]
  go_wp2_with fail
  go_ret
  have h1 := HMX.out
  refine ⟨_, rfl, ⟨Int.emod_nonneg _ (by omega), fun h => by have := Int.emod_lt_of_pos x (show 0 < m by omega); omega, ?_⟩, rfl⟩
  · have := Int.emod_lt_of_pos x (show 0 < m by omega)
    have h3 : x % m ≤ x := by
        obtain ⟨a, ha⟩ := Int.eq_ofNat_of_zero_le HIN.out.1
        obtain ⟨b, hb⟩ := Int.eq_ofNat_of_zero_le (show 0 ≤ m by omega)
        rw [ha, hb]
        have := Nat.mod_le a b
        omega
    have := HIN.out
    omega
end
end Go.Proofs.Ytkkgfpdjlohojaa.Keep
namespace Go.Proofs.Ytkkgfpdjlohojaa.Fn
open Go.RowKit Go.Proofs.YtkkgfpdjlohojaaW.PrintWords Go.Proofs.YtkkgfpdjlohojaaW.PrintLast Go.Proofs.YtkkgfpdjlohojaaW.PrintMore Go.Proofs.Ytkkgfpdjlohojaa.Kit
open Go.Proofs.Ytkkgfpdjlohojaa.TokP Go.Proofs.Ytkkgfpdjlohojaa.Tok
open Nest (rawAt)
section
variable {w0 W : World} {F : List HP} {g : Nat} {h : Int} {vo : Value} {bs : List Bk}
def StM (g : Nat) (h : Int) (ga m n c : Nat) (bs : List Bk) (F : List HP) : List HP := Blk g 78 #[.int .i64 h, .slice (some ⟨ga, 0, none⟩) m c] :: Row (Kd.raw 4) 86 (.slice (some ⟨ga, 0, none⟩) n c) (bs.map cellB) :: F
theorem stm_h {ga m n c : Nat} (hS : Sep w0 W (StM g h ga m n c bs F)) : W.cell? ⟨g, 0, none⟩ = some (.int .i64 h) := (Sep.cell (show Sep w0 W (Blk g 78 #[.int .i64 h, .slice (some ⟨ga, 0, none⟩) m c] :: _) from hS) 0).trans rfl
theorem stm_f {ga m n c : Nat} (hS : Sep w0 W (StM g h ga m n c bs F)) (i : Nat) : W.frozen? ⟨g, i, none⟩ = false := Sep.frozen (show Sep w0 W (Blk g 78 #[.int .i64 h, .slice (some ⟨ga, 0, none⟩) m c] :: _) from hS) i
theorem stm_at {ga m n c : Nat} {b : Bk} (hS : Sep w0 W (StM g h ga m n c bs F)) (hb : bs[m]? = some b) :
    W.cell? ⟨ga, m * 4, none⟩ = some (.int .i32 b.sign) ∧ W.cell? ⟨ga, m * 4 + 1, none⟩ = some (.int .i64 b.base) ∧ W.cell? ⟨ga, m * 4 + 2, none⟩ = some (.int .i64 b.other) ∧ W.cell? ⟨ga, m * 4 + 3, none⟩ = some (.bool b.left) := by
  obtain ⟨h3, h4⟩ := rawAt (k := m) (cl := cellB b) (Sep.at2 (show Sep w0 W (Blk g 78 #[.int .i64 h, .slice (some ⟨ga, 0, none⟩) m c] :: Row (Kd.raw 4) 86 (.slice (some ⟨ga, 0, none⟩) n c) (bs.map cellB) :: F) from hS)) (by rw [List.getElem?_map, hb]; rfl)
  exact ⟨h3 0 _ rfl, h3 1 _ rfl, h3 2 _ rfl, h3 3 _ rfl⟩
theorem stm_seth {ga m n c : Nat} (hS : Sep w0 W (StM g h ga m n c bs F)) (h' : Int) : Sep w0 (W.setCell ⟨g, 0, none⟩ (.int .i64 h')) (StM g h' ga m n c bs F) :=
  Sep.setBlk (show Sep w0 W (Blk g 78 #[.int .i64 h, .slice (some ⟨ga, 0, none⟩) m c] :: _) from hS) 0 (.int .i64 h')
theorem stm_pop {ga m n c : Nat} (hS : Sep w0 W (StL g h (.slice (some ⟨ga, 0, none⟩) n c) bs F)) : Sep w0 (W.setCell ⟨g, 1, none⟩ (.slice (some ⟨ga, 0, none⟩) m c)) (StM g h ga m n c bs F) :=
  Sep.setBlk (show Sep w0 W (Blk g 78 #[.int .i64 h, .slice (some ⟨ga, 0, none⟩) n c] :: _) from hS) 1 (.slice (some ⟨ga, 0, none⟩) m c)
theorem stm_end {ga m n c k : Nat} (hS : Sep w0 W (StM g h ga m n c bs F)) (hm : m < bs.length) (hk : k = m) : StT w0 W F g k := by
  subst hk
  refine ⟨h, .slice (some ⟨ga, 0, none⟩) k c, bs.take k, by rw [List.length_take]; omega, ?_⟩
  have h2 := Sep.rowTake (m := k) (Sep.at2 (show Sep w0 W (Blk g 78 #[.int .i64 h, .slice (some ⟨ga, 0, none⟩) k c] :: Row (Kd.raw 4) 86 (.slice (some ⟨ga, 0, none⟩) n c) (bs.map cellB) :: F) from hS)) (by rw [List.length_map]; omega)
  rw [← List.map_take] at h2
  exact h2.at2
set_option maxHeartbeats 3200000 in
set_option maxRecDepth 100000 in
theorem ends_c (hS : Sep w0 W (StL g h vo bs F)) (hp : 0 < bs.length) : Calls Try.prog 37 #[.pointer (some ⟨g, 0, none⟩), .int .i32 58] W fun e w' => RetB e ∧ StT w0 w' F g bs.length := by
  obtain ⟨n, hn⟩ : ∃ n, bs.length = n := ⟨_, rfl⟩
  obtain ⟨m, hm⟩ : ∃ m, n = m + 1 := ⟨n - 1, by omega⟩
  obtain ⟨ga, c, rfl⟩ := st_form hS hn (by omega)
  obtain ⟨b, hb, -⟩ := st_at hS (k := m) (by omega)
  have hNm : (n : Int) ≤ 9223372036854775807 := by
    have h2 : n ≤ 9223372036854775807 := (st_row hS).rowC'.2.1
    omega
  have z1q := fun q => st_o (hS.drewN q)
  have hw : wrap64 ((n : Int) - 1) = (m : Int) := by rw [IntWalk.wrap64_in _ (by omega)]; omega
  have hN1 : n - 1 = m := by omega
  have hmN : (m : Int) < (n : Int) := by omega
  have H := Aside0.mk hS
  have HB := Aside0.mk hb
  have HN := Aside0.mk (And.intro hn hm)
  clear hS hb hn hm hp
  go_enter Try.func37, Try.ntmps37
  go_wp2_with fail
  go_quiet (fail)
  go_wp2_with fail
  obtain ⟨w1, hw1⟩ : ∃ x, W.drewN nq = x := ⟨_, rfl⟩
  have B1 := Aside0.mk (H.out.drewN nq)
  rw [hw1] at B1 ⊢
  clear hw1 z1q
  have B1d := Aside0.mk B1.out.drew
  have c0 : w1.drew.cell? ⟨g, 0, none⟩ = some (.int .i64 h) := st_h B1.out.drew
  obtain ⟨b', hb', y0, y1, y2, y3, yf⟩ := st_at B1.out.drew (k := m) (by have := HN.out; omega)
  have hbb : b' = b := by have h9 := HB.out; rw [h9] at hb'; exact (Option.some.inj hb').symm
  subst hbb
  obtain ⟨b9, hb9, u0, u1, u2, u3, uf⟩ := st_at B1.out (k := m) (by have := HN.out; omega)
  have f13 := uf (m * 4)
  have f16 := uf (m * 4 + 2)
  have f19 := st_f B1.out 0
  have c19 := st_h B1.out
  have S13u : Sep w0 (w1.setCell ⟨ga, m * 4, none⟩ (.int .i32 58)) (StL g h (.slice (some ⟨ga, 0, none⟩) n c) (bs.set m ⟨58, b'.base, b'.other, b'.left⟩) F) := st_put (q := 0) (u := .int .i32 58) (b2 := ⟨58, b'.base, b'.other, b'.left⟩) B1.out HB.out (by omega) rfl rfl
  have c19u := st_h S13u
  have f19u := st_f S13u 0
  have S13 : Sep w0 (w1.drew.setCell ⟨ga, m * 4, none⟩ (.int .i32 58)) (StL g h (.slice (some ⟨ga, 0, none⟩) n c) (bs.set m ⟨58, b'.base, b'.other, b'.left⟩) F) := st_put (q := 0) (u := .int .i32 58) (b2 := ⟨58, b'.base, b'.other, b'.left⟩) B1.out.drew HB.out (by omega) rfl rfl
  obtain ⟨b3, hb3, x0, x1, x2, x3, xf⟩ := st_at S13 (k := m) (by rw [List.length_set]; have := HN.out; omega)
  have S16 := st_put (q := 2) (u := .int .i64 h) (b2 := ⟨b3.sign, b3.base, h, b3.left⟩) S13 hb3 (by omega) rfl rfl
  have S19 := Aside0.mk (st_seth S16 b'.base)
  clear S13u S13 S16 hb3 x0 x1 x2 x3 xf yf hb' y0 y2 y3 u1 u3 uf hb9
  refine start_ (n := 20) (S := fun w' => w'.cell? ⟨g, 0, none⟩ = some (.int .i64 h) ∧ w'.cell? ⟨ga, m * 4 + 1, none⟩ = some (.int .i64 b'.base)) (ds := [13, 16, 19]) #[Z,Z,Z,Z,Z,Z,Z,Z,Z,Z,Z,Z,Z,Z,Z,Z,Z,Z,Z,Z] (by kernel_rfl) rfl rfl ⟨c0, y1⟩ (fun hHeld => ?_)
  refine pu_ 0 19 ?_ #[J,Z,Z,Z,Z,Z,Z,Z,Z,Z,Z,Z,Z,Z,Z,Z,Z,Z,Z,Z] rfl rfl ?_ ?_ ?_ ?_
  rotate_left
  · intro w'
    go_simp
    with_reducible rfl
  rotate_left
  · simp only [aP]
    rfl
  refine pu_ 1 20 ?_ #[J,J,Z,Z,Z,Z,Z,Z,Z,Z,Z,Z,Z,Z,Z,Z,Z,Z,Z,Z] rfl rfl ?_ ?_ ?_ ?_
  rotate_left
  · intro w'
    go_simp
    with_reducible rfl
  rotate_left
  · simp only [aP]
    rfl
  refine pu_ 2 21 ?_ #[J,J,J,Z,Z,Z,Z,Z,Z,Z,Z,Z,Z,Z,Z,Z,Z,Z,Z,Z] rfl rfl ?_ ?_ ?_ ?_
  rotate_left
  · intro w'
    go_simp
    with_reducible rfl
  rotate_left
  · simp only [aP]
    rfl
  refine pu_ 3 22 ?_ #[J,J,J,J,Z,Z,Z,Z,Z,Z,Z,Z,Z,Z,Z,Z,Z,Z,Z,Z] rfl rfl ?_ ?_ ?_ ?_
  rotate_left
  · intro w'
    go_simp
    with_reducible rfl
  rotate_left
  · simp only [aP]
    rfl
  refine pu_ 4 23 ?_ #[J,J,J,J,J,Z,Z,Z,Z,Z,Z,Z,Z,Z,Z,Z,Z,Z,Z,Z] rfl rfl ?_ ?_ ?_ ?_
  rotate_left
  · intro w'
    go_simp
    with_reducible rfl
  rotate_left
  · simp only [aP]
    rfl
  refine pu_ 5 24 ?_ #[J,J,J,J,J,J,Z,Z,Z,Z,Z,Z,Z,Z,Z,Z,Z,Z,Z,Z] rfl rfl ?_ ?_ ?_ ?_
  rotate_left
  · intro w'
    go_simp
    with_reducible rfl
  rotate_left
  · simp only [aP]
    rfl
  refine pu_ 7 26 ?_ #[J,J,J,J,J,J,Z,J,Z,Z,Z,Z,Z,Z,Z,Z,Z,Z,Z,Z] rfl rfl ?_ ?_ ?_ ?_
  rotate_left
  · intro w'
    go_simp
    with_reducible rfl
  rotate_left
  · simp only [aP]
    rfl
  refine pu_ 8 27 ?_ #[J,J,J,J,J,J,Z,J,J,Z,Z,Z,Z,Z,Z,Z,Z,Z,Z,Z] rfl rfl ?_ ?_ ?_ ?_
  rotate_left
  · intro w'
    go_simp
    with_reducible rfl
  rotate_left
  · simp only [aP]
    rfl
  refine pu_ 9 28 ?_ #[J,J,J,J,J,J,Z,J,J,J,Z,Z,Z,Z,Z,Z,Z,Z,Z,Z] rfl rfl ?_ ?_ ?_ ?_
  rotate_left
  · intro w'
    go_simp
    with_reducible rfl
  rotate_left
  · simp only [aP]
    rfl
  refine ta_ 6 25 ?_ #[J,J,J,J,J,J,J,J,J,J,Z,Z,Z,Z,Z,Z,Z,Z,Z,Z] rfl rfl ?_ hHeld ?_ ?_ ?_
  rotate_left
  · rintro w' ⟨s0, s1⟩
    go_simp
    with_reducible rfl
  rotate_left
  · simp only [aP]
    rfl
  refine ta_ 10 29 ?_ #[J,J,J,J,J,J,J,J,J,J,J,Z,Z,Z,Z,Z,Z,Z,Z,Z] rfl rfl ?_ hHeld ?_ ?_ ?_
  rotate_left
  · rintro w' ⟨s0, s1⟩
    go_simp
    with_reducible rfl
  rotate_left
  · simp only [aP]
    rfl
  refine pu_ 11 30 ?_ #[J,J,J,J,J,J,J,J,J,J,J,J,Z,Z,Z,Z,Z,Z,Z,Z] rfl rfl ?_ ?_ ?_ ?_
  rotate_left
  · intro w'
    go_simp
    with_reducible rfl
  rotate_left
  · simp only [aP]
    rfl
  refine pu_ 12 31 ?_ #[J,J,J,J,J,J,J,J,J,J,J,J,J,Z,Z,Z,Z,Z,Z,Z] rfl rfl ?_ ?_ ?_ ?_
  rotate_left
  · intro w'
    go_simp
    with_reducible rfl
  rotate_left
  · simp only [aP]
    rfl
  refine last_ (i := 13) (N := none) #[J,J,J,J,J,J,J,J,J,J,J,J,J,J,Z,Z,Z,Z,Z,Z] rfl rfl (by kernel_rfl) (by decide) (fun K hK => ?_)
  refine skip_ (w1 := ?_) (by rfl) rfl ?_ ?_
  rotate_left
  · go_simp
    rfl
  refine hK.out _ _ ?_
  clear hK K
  refine pu_ 14 32 ?_ #[J,J,J,J,J,J,J,J,J,J,J,J,J,J,J,Z,Z,Z,Z,Z] rfl rfl ?_ ?_ ?_ ?_
  rotate_left
  · intro w'
    go_simp
    with_reducible rfl
  rotate_left
  · simp only [aP]
    rfl
  refine pu_ 15 33 ?_ #[J,J,J,J,J,J,J,J,J,J,J,J,J,J,J,J,Z,Z,Z,Z] rfl rfl ?_ ?_ ?_ ?_
  rotate_left
  · intro w'
    go_simp
    with_reducible rfl
  rotate_left
  · simp only [aP]
    rfl
  refine last_ (i := 16) (N := none) #[J,J,J,J,J,J,J,J,J,J,J,J,J,J,J,J,J,Z,Z,Z] rfl rfl (by kernel_rfl) (by decide) (fun K hK => ?_)
  refine skip_ (w1 := ?_) (by rfl) rfl ?_ ?_
  rotate_left
  · go_simp
    rfl
  refine hK.out _ _ ?_
  clear hK K
  refine pu_ 17 34 ?_ #[J,J,J,J,J,J,J,J,J,J,J,J,J,J,J,J,J,J,Z,Z] rfl rfl ?_ ?_ ?_ ?_
  rotate_left
  · intro w'
    go_simp
    with_reducible rfl
  rotate_left
  · simp only [aP]
    rfl
  refine pu_ 18 35 ?_ #[J,J,J,J,J,J,J,J,J,J,J,J,J,J,J,J,J,J,J,Z] rfl rfl ?_ ?_ ?_ ?_
  rotate_left
  · intro w'
    go_simp
    with_reducible rfl
  rotate_left
  · simp only [aP]
    rfl
  refine last_ (i := 19) (N := none) #[J,J,J,J,J,J,J,J,J,J,J,J,J,J,J,J,J,J,J,J] rfl rfl (by kernel_rfl) (by decide) (fun K hK => ?_)
  refine skip_ (w1 := ?_) (by rfl) rfl ?_ ?_
  rotate_left
  · go_simp
    rfl
  refine hK.out _ _ ?_
  clear hK K
  refine done_ (by kernel_rfl) ?_
  go_wp2_with fail
  go_ret
  exact ⟨⟨_, rfl⟩, _, _, _, by rw [List.length_set, List.length_set], S19.out⟩
end
end Go.Proofs.Ytkkgfpdjlohojaa.Fn
