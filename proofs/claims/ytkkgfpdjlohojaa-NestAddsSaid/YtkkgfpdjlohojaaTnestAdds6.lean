/- Nest9, NestR1, NestR2, NestR3, MapInt, Copy, Iter, Same, Law8a, Rune, RefT1, RefT2: what NestAdds needs. -/
import Derived.Test.YtkkgfpdjlohojaaTnestAdds5
import Derived.Deep.LoopGhost
import Derived.Deep.Cut
import Derived.OwnWalk
import Derived.WalkKit
import Derived.KernelRfl
import Derived.Carry
import Derived.Laws.IdiomCopy
import Derived.Maps.RangeRun
import Derived.Deep.QuietTactic
import Derived.Laws.RangeAny
set_option linter.unusedVariables false
set_option linter.unusedSimpArgs false
namespace Go.Proofs.Ytkkgfpdjlohojaa.Nest
open Go.RowKit Go.Proofs.YtkkgfpdjlohojaaW.PrintWords Go.Proofs.YtkkgfpdjlohojaaW.PrintLast Go.Proofs.YtkkgfpdjlohojaaW.PrintMore Go.Proofs.Ytkkgfpdjlohojaa.Kit
open Go.Proofs.Ytkkgfpdjlohojaa.NestP Go.Proofs.Ytkkgfpdjlohojaa.TokP Go.Proofs.Ytkkgfpdjlohojaa.Tok
def ofR (w0 w' : World) (F : List HP) (e : Ending) : Option MS → Prop
  | some m => ∃ v, e = .returned (.tuple #[v, .int .i64 0]) ∧ Sep w0 w' (Row I64 3 v m.tt :: F)
  | none => e = .returned (.tuple #[.slice none 0 0, .int .i64 13]) ∧ Sep w0 w' F
def deepR (w0 w' : World) (F : List HP) (e : Ending) : Option MS → Prop
  | some m => e = .returned (.int .i64 (m.deep : Int)) ∧ Sep w0 w' F
  | none => e = .returned (.int .i64 (-1)) ∧ Sep w0 w' F
section
variable {w0 W : World} {F : List HP}
set_option maxHeartbeats 1600000 in
set_option maxRecDepth 100000 in
theorem of_ {A : Option Addr} {n c : Nat} {l : List Tok} (hC : ∀ W', Sep w0 W' F → TC W' A n l) (h : Sep w0 W F) (hn : n ≤ 1000000) :
    Calls Try.prog 13 #[.slice A n c] W fun e w' => ofR w0 w' F e (matchN (sgn l)) := by
  have HC := Aside0.mk hC
  have H := Aside0.mk h
  clear hC h
  obtain ⟨o, ho⟩ : ∃ o, matchN (sgn l) = o := ⟨_, rfl⟩
  have HO := Aside0.mk ho
  rw [ho]
  clear ho
  go_enter Try.func13, Try.ntmps13
  cases o with
  | none =>
    go_wp2_with (go_at_call 28; refine (match_ HC.out H.out hn).mono ?_; rintro e w1 ⟨gm, hA⟩; rw [HO.out] at hA; obtain ⟨rfl, hA⟩ := hA; replace hA := Aside0.mk hA)
    go_ret2
    exact ⟨by first | rfl | (simp; done), hA.out⟩
  | some m =>
    go_wp2_with (go_at_call 28; refine (match_ HC.out H.out hn).mono ?_; rintro e w1 ⟨gm, hA⟩; rw [HO.out] at hA; obtain ⟨rfl, hA⟩ := hA; obtain ⟨vt, vo, vs, hv, hs⟩ := mt_open hA; obtain ⟨A9, c9, rfl⟩ := Sep.rowV (show Sep w0 w1 (Row I64 3 vt m.tt :: _) from Sep.pull [_] hs); have z0 : w1.cell? ⟨gm, 0, none⟩ = some (.slice A9 m.tt.length c9) := (Sep.cell (show Sep w0 w1 (Blk gm 69 #[.slice A9 m.tt.length c9, vo, .int .i64 (m.deep : Int)] :: _) from hs) 0).trans rfl; replace hA := Aside0.mk hs; clear hs hv)
    go_ret2
    refine ⟨_, by first | rfl | (simp; done), ?_⟩
    have h2 : Sep w0 w1 (Row I64 3 (.slice A9 m.tt.length c9) m.tt :: _) := Sep.pull [_] hA.out
    have h3 := h2.tail.tail
    have h4 : Sep w0 w1 (_ :: (Row I64 3 (.slice A9 m.tt.length c9) m.tt :: (lvR m.opn.reverse vs ++ F))) := (Sep.at2 hA.out.tail)
    have h5 : Sep w0 w1 ((Row I64 3 (.slice A9 m.tt.length c9) m.tt :: lvR m.opn.reverse vs) ++ F) := h4.tail
    exact Sep.weak (L := lvR m.opn.reverse vs) (Sep.push (lvR m.opn.reverse vs) h5)
set_option maxHeartbeats 1600000 in
set_option maxRecDepth 100000 in
theorem deep_ {A : Option Addr} {n c : Nat} {l : List Tok} (hC : ∀ W', Sep w0 W' F → TC W' A n l) (h : Sep w0 W F) (hn : n ≤ 1000000) :
    Calls Try.prog 14 #[.slice A n c] W fun e w' => deepR w0 w' F e (matchN (sgn l)) := by
  have HC := Aside0.mk hC
  have H := Aside0.mk h
  clear hC h
  obtain ⟨o, ho⟩ : ∃ o, matchN (sgn l) = o := ⟨_, rfl⟩
  have HO := Aside0.mk ho
  rw [ho]
  clear ho
  go_enter Try.func14, Try.ntmps14
  cases o with
  | none =>
    go_wp2_with (go_at_call 28; refine (match_ HC.out H.out hn).mono ?_; rintro e w1 ⟨gm, hA⟩; rw [HO.out] at hA; obtain ⟨rfl, hA⟩ := hA; replace hA := Aside0.mk hA)
    go_ret
    exact ⟨by first | rfl | (simp; done), hA.out⟩
  | some m =>
    go_wp2_with (go_at_call 28; refine (match_ HC.out H.out hn).mono ?_; rintro e w1 ⟨gm, hA⟩; rw [HO.out] at hA; obtain ⟨rfl, hA⟩ := hA; obtain ⟨vt, vo, vs, hv, hs⟩ := mt_open hA; have z0 : w1.cell? ⟨gm, 2, none⟩ = some (.int .i64 (m.deep : Int)) := (Sep.cell (show Sep w0 w1 (Blk gm 69 #[vt, vo, .int .i64 (m.deep : Int)] :: _) from hs) 2).trans rfl; replace hA := Aside0.mk hA.tail; clear hs hv)
    go_ret
    exact ⟨by first | rfl | (simp; done), hA.out⟩
end
end Go.Proofs.Ytkkgfpdjlohojaa.Nest
namespace Go.Proofs.Ytkkgfpdjlohojaa.NestR
open Go.RowKit Go.Proofs.YtkkgfpdjlohojaaW.PrintWords Go.Proofs.YtkkgfpdjlohojaaW.PrintLast Go.Proofs.YtkkgfpdjlohojaaW.PrintMore Go.Proofs.Ytkkgfpdjlohojaa.Kit
open Go.Proofs.Ytkkgfpdjlohojaa.NestP Go.Proofs.Ytkkgfpdjlohojaa.TokP Go.Proofs.Ytkkgfpdjlohojaa.Tok
abbrev I64 : Kd Int := Kd.int .i64
theorem sgn_at {l : List Tok} {i : Nat} {t : Tok} (h : l[i]? = some t) : (sgn l).getD i 0 = t.sign := by
  unfold sgn
  rw [List.getD_eq_getElem?_getD, List.getElem?_map, h]
  rfl
set_option maxHeartbeats 1600000 in
set_option maxRecDepth 100000 in
theorem leaves_ {W : World} {A B : Option Addr} {n c c2 : Nat} {l : List Tok} {tt : List Int} (hT : TC W A n l) (hB : I64.C W B n tt) (at_ : Nat) (ha : at_ ≤ n) :
    Calls Try.prog 29 #[.slice A n c, .slice B n c2, .int .i64 (at_ : Int)] W fun e w' => e = .returned (.int .i64 (leavesF (sgn l) tt at_ (n - at_) at_)) ∧ W = w' := by
  have hnm : n ≤ 9223372036854775807 := hT.lt
  have HT := Aside0.mk hT
  have HB := Aside0.mk hB
  clear hT hB
  go_enter Try.func29, Try.ntmps29
  go_wp2_with fail
  go_loopg [7] (n - at_) (fun m q wr => ∃ i : Nat, q = .int .i64 (i : Int) ∧ i + m = n ∧ wr = W ∧ leavesF (sgn l) tt at_ (n - at_) at_ = leavesF (sgn l) tt at_ m i)
  case atStart => exact ⟨at_, rfl, by omega, rfl, rfl⟩
  case round =>
    obtain ⟨i, rfl, him, rfl, hl⟩ := hrel
    have AK := Aside0.mk him
    have HL := Aside0.mk hl
    by_cases hi : i < n
    · obtain ⟨ad, t, rfl, ht, d0, d1, d2⟩ := TC.at_ HT.out hi
      obtain ⟨ad2, hB2, hc⟩ := Kd.at_int HB.out (i : Int) (by omega) (by omega)
      subst hB2
      rw [Int.toNat_natCast] at hc
      obtain ⟨x, hx⟩ : ∃ x, rd tt (i : Int) = x := ⟨_, rfl⟩
      rw [hx] at hc
      have hxg : tt.getD i 0 = x := by rw [← hx]; unfold rd; rw [Int.toNat_natCast]
      obtain ⟨k, rfl⟩ : ∃ k, gk = k + 1 := ⟨gk - 1, by omega⟩
      have hst := sgn_at ht
      have hij : (i : Int) < (n : Int) := by omega
      have hw : wrap64 ((i : Int) + 1) = (i : Int) + 1 := IntWalk.wrap64_in _ (by omega)
      have HX := Aside0.mk hxg
      have HST := Aside0.mk hst
      obtain ⟨s, hs⟩ : ∃ s, t.sign = s := ⟨_, rfl⟩
      rw [hs] at d0 HST
      clear hl him ht hx hxg hst d1 d2 hs
      by_cases h93 : s = 93
      · subst h93
        by_cases hlt : x < (at_ : Int)
        · have hd : decide (x < (at_ : Int)) = true := decide_eq_true hlt
          have hr : leavesF (sgn l) tt at_ (k + 1) i = (i : Int) + 1 := by unfold leavesF; rw [if_pos ⟨HST.out, by rw [HX.out]; exact hlt⟩]
          have HR := Aside0.mk hr
          clear hr
          go_wp2_with fail
          go_ret
          exact ⟨by rw [HL.out, HR.out]; first | rfl | (simp; done), rfl⟩
        · have hd : decide (x < (at_ : Int)) = false := decide_eq_false hlt
          have hr : leavesF (sgn l) tt at_ (k + 1) i = leavesF (sgn l) tt at_ k (i + 1) := by rw [leavesF, if_neg (by rintro ⟨_, h⟩; rw [HX.out] at h; exact hlt h)]
          have HR := Aside0.mk hr
          clear hr
          go_wp2_with fail
          go_roundg k
          case measure => omega
          case rel => exact ⟨i + 1, by go_num, by have := AK.out; omega, rfl, by rw [HL.out, HR.out]⟩
      · have hr : leavesF (sgn l) tt at_ (k + 1) i = leavesF (sgn l) tt at_ k (i + 1) := by rw [leavesF, if_neg (by rintro ⟨h, _⟩; rw [HST.out] at h; exact h93 h)]
        have HR := Aside0.mk hr
        clear hr
        go_wp2_with fail
        go_roundg k
        case measure => omega
        case rel => exact ⟨i + 1, by go_num, by have := AK.out; omega, rfl, by rw [HL.out, HR.out]⟩
    · have hin : i = n := by omega
      obtain rfl : gk = 0 := by omega
      subst hin
      have hr : leavesF (sgn l) tt at_ 0 i = -1 := rfl
      have HR := Aside0.mk hr
      clear hr hl him
      go_wp2_with fail
      go_ret
      exact ⟨by rw [HL.out, HR.out]; first | rfl | (simp; done), rfl⟩
end Go.Proofs.Ytkkgfpdjlohojaa.NestR
namespace Go.Proofs.Ytkkgfpdjlohojaa.NestR
open Go.RowKit Go.Proofs.YtkkgfpdjlohojaaW.PrintWords Go.Proofs.YtkkgfpdjlohojaaW.PrintLast Go.Proofs.YtkkgfpdjlohojaaW.PrintMore Go.Proofs.Ytkkgfpdjlohojaa.Kit
open Go.Proofs.Ytkkgfpdjlohojaa.NestP Go.Proofs.Ytkkgfpdjlohojaa.TokP Go.Proofs.Ytkkgfpdjlohojaa.Tok
theorem infoInt : (Try.prog.info? 3).map (fun i => (i.zero, i.size, i.bytes)) = some (some (.int .i64 0), 1, 8) := by kernel_rfl
theorem alloc_size (w : World) (o : Obj) : (w.alloc o).heap.size = w.heap.size + 1 := by simp
def opL (l : List Nat) : List Int := l.reverse.map (fun k : Nat => (k : Int))
theorem opL_len (l : List Nat) : (opL l).length = l.length := by unfold opL; rw [List.length_map, List.length_reverse]
theorem opL_cons (o : Nat) (r : List Nat) : opL (o :: r) = opL r ++ [(o : Int)] := by unfold opL; rw [List.reverse_cons, List.map_append]; rfl
theorem opL_top (o : Nat) (r : List Nat) : (opL (o :: r)).getD r.length 0 = (o : Int) := by
  rw [opL_cons, List.getD_eq_getElem?_getD, List.getElem?_append_right (by rw [opL_len]; exact Nat.le_refl _), opL_len, Nat.sub_self]
  rfl
theorem opL_set (o i : Nat) (r : List Nat) : (opL (o :: r)).set r.length (i : Int) = opL (i :: r) := by
  rw [opL_cons, opL_cons, List.set_append_right _ _ (by rw [opL_len]; exact Nat.le_refl _), opL_len, Nat.sub_self]
  rfl
theorem opL_take (o : Nat) (r : List Nat) : (opL (o :: r)).take r.length = opL r := by
  rw [opL_cons, List.take_append_of_le_length (by rw [opL_len]; exact Nat.le_refl _), List.take_of_length_le (by rw [opL_len]; exact Nat.le_refl _)]
structure RB (i n : Nat) (R : RS) : Prop where
  len : R.tt.length = n
  op : R.opn.length ≤ 16
  lt : ∀ o ∈ R.opn, o < i
theorem RB.tok {sg : List Int} {i n : Nat} {s : Int} {R R2 : RS} (h : RB i n R) (e : tokR sg i s R = some R2) : RB (i + 1) n R2 := by
  obtain ⟨len, op, lt⟩ := h
  have hm : ∀ o ∈ R.opn, o < i + 1 := fun o ho => by have := lt o ho; omega
  unfold tokR at e
  split at e
  · split at e
    · cases e
      refine ⟨by rw [List.length_set]; exact len, by show (i :: R.opn).length ≤ 16; rw [List.length_cons]; omega, fun o ho => ?_⟩
      rcases List.mem_cons.1 ho with rfl | ho
      · omega
      · exact hm o ho
    · cases e
  · split at e
    · cases ho : R.opn with
      | nil => rw [ho] at e; cases e
      | cons o r =>
        rw [ho] at e op hm
        dsimp only at e
        split at e
        · cases e
          refine ⟨by rw [List.length_set, List.length_set]; exact len, op, fun q hq => ?_⟩
          rcases List.mem_cons.1 hq with rfl | hq
          · omega
          · exact hm q (List.mem_cons_of_mem _ hq)
        · cases e
    · split at e
      · cases ho : R.opn with
        | nil => rw [ho] at e; cases e
        | cons o r =>
          rw [ho] at e op hm
          dsimp only at e
          split at e
          · cases e
          · cases e
            exact ⟨by rw [List.length_set, List.length_set]; exact len, by rw [List.length_cons] at op; show r.length ≤ 16; omega, fun q hq => hm q (List.mem_cons_of_mem _ hq)⟩
      · split at e
        · cases ho : R.opn with
          | nil => rw [ho] at e; cases e
          | cons o r =>
            rw [ho] at e op hm
            dsimp only at e
            split at e
            · cases e
              exact ⟨by rw [List.length_set, List.length_set]; exact len, by rw [List.length_cons] at op; show r.length ≤ 16; omega, fun q hq => hm q (List.mem_cons_of_mem _ hq)⟩
            · cases e
        · cases e
          exact ⟨by rw [List.length_set]; exact len, op, hm⟩
def nst (w0 w' : World) (F : List HP) (e : Ending) : Option (List Int × Nat) → Prop
  | some r => ∃ v, e = .returned (.tuple #[v, .int .i64 (r.2 : Int), .int .i64 0]) ∧ Sep w0 w' (Row I64 3 v r.1 :: F)
  | none => e = .returned (.tuple #[.slice none 0 0, .int .i64 (-1), .int .i64 13]) ∧ Sep w0 w' F
def contR (sg : List Int) (i : Nat) (t : List Int) : Option RS → Option RS
  | none => none
  | some R => NestP.runR sg i t R
theorem runR_step (sg : List Int) (i : Nat) (s : Int) (t : List Int) (R : RS) : NestP.runR sg i (s :: t) R = contR sg (i + 1) t (tokR sg i s R) := by
  unfold contR
  rw [NestP.runR]
  cases tokR sg i s R <;> rfl
def endR (sg : List Int) : Option RS → Option (List Int × Nat)
  | some m => if m.opn = [] then (secR sg sg.length 0 m.tt).map (fun t => (t, m.deep)) else none
  | none => none
theorem nestR_def (sg : List Int) : nestR sg = endR sg (NestP.runR sg 0 sg ⟨List.replicate sg.length 0, [], 0⟩) := by
  unfold nestR endR
  cases NestP.runR sg 0 sg ⟨List.replicate sg.length 0, [], 0⟩ <;> rfl
theorem tokR_open (sg : List Int) (i : Nat) (s : Int) (R : RS) (h : s = 63 ∨ s = 91) : tokR sg i s R = if R.opn.length < 16 then some ⟨R.tt.set i (-1), i :: R.opn, max R.deep (R.opn.length + 1)⟩ else none := by
  unfold tokR
  rw [if_pos h]
theorem tokR_58 (sg : List Int) (i : Nat) (R : RS) : tokR sg i 58 R = match R.opn with
    | o :: r => if sg.getD o 0 = 63 then some ⟨(R.tt.set i (-1)).set o ((i : Int) + 1), i :: r, R.deep⟩ else none
    | [] => none := by
  unfold tokR
  rw [if_neg (by decide), if_pos rfl]
  cases R.opn <;> rfl
theorem tokR_59 (sg : List Int) (i : Nat) (R : RS) : tokR sg i 59 R = match R.opn with
    | o :: r => if sg.getD o 0 = 91 then none else some ⟨(R.tt.set i (-1)).set o (i : Int), r, R.deep⟩
    | [] => none := by
  unfold tokR
  rw [if_neg (by decide), if_neg (by decide), if_pos rfl]
  cases R.opn <;> rfl
theorem tokR_93 (sg : List Int) (i : Nat) (R : RS) : tokR sg i 93 R = match R.opn with
    | o :: r => if sg.getD o 0 = 91 then some ⟨(R.tt.set i (-1)).set i (o : Int), r, R.deep⟩ else none
    | [] => none := by
  unfold tokR
  rw [if_neg (by decide), if_neg (by decide), if_neg (by decide), if_pos rfl]
  cases R.opn <;> rfl
theorem tokR_else (sg : List Int) (i : Nat) (s : Int) (R : RS) (h1 : ¬ s = 63) (h2 : ¬ s = 91) (h3 : ¬ s = 58) (h4 : ¬ s = 59) (h5 : ¬ s = 93) : tokR sg i s R = some ⟨R.tt.set i (-1), R.opn, R.deep⟩ := by
  unfold tokR
  rw [if_neg (by omega), if_neg h3, if_neg h4, if_neg h5]
section
variable {w0 W : World} {F : List HP}
theorem top_at {w : World} {gt n c2 N : Nat} {ca : Nat} {vo : Value} {ad : Addr} {l : List Tok} {tt : List Int} {o : Nat} {r : List Nat} (hC : TC w (some ad) n l) (hS : Sep w0 w (Row I64 3 (.slice (some ⟨gt, 0, none⟩) n c2) tt :: Row I64 3 vo (opL (o :: r)) :: F)) (ho : o < n) :
    ∃ go co so, vo = .slice (some ⟨go, 0, none⟩) (r.length + 1) co ∧ r.length + 1 ≤ co ∧ (sgn l).getD o 0 = so ∧ w.cell? (ad.add (o * 3)) = some (.int .i32 so) ∧ w.cell? ⟨go, r.length, none⟩ = some (.int .i64 (o : Int)) := by
  obtain ⟨go, co, rfl⟩ := hS.tail.rowFormN (n := r.length + 1) (by rw [opL_len]; rfl) (by omega)
  obtain ⟨g1, g2⟩ := hS.tail.rowCell (0 : Int) r.length (by omega)
  rw [opL_top] at g1
  obtain ⟨a, t, ha, ht, d0, d1, d2⟩ := hC.at_ ho
  cases ha
  exact ⟨go, co, t.sign, rfl, hS.tail.rowC.2.1, sgn_at ht, d0, g1⟩
end
end Go.Proofs.Ytkkgfpdjlohojaa.NestR
namespace Go.Proofs.Ytkkgfpdjlohojaa.NestR
open Go.RowKit Go.Proofs.YtkkgfpdjlohojaaW.PrintWords Go.Proofs.YtkkgfpdjlohojaaW.PrintLast Go.Proofs.YtkkgfpdjlohojaaW.PrintMore Go.Proofs.Ytkkgfpdjlohojaa.Kit
open Go.Proofs.Ytkkgfpdjlohojaa.NestP Go.Proofs.Ytkkgfpdjlohojaa.TokP Go.Proofs.Ytkkgfpdjlohojaa.Tok
section
variable {w0 W : World} {F : List HP}
set_option maxHeartbeats 6400000 in
set_option maxRecDepth 100000 in
theorem nest_ {A : Option Addr} {n c : Nat} {l : List Tok} (hC : ∀ W', Sep w0 W' F → TC W' A n l) (h : Sep w0 W F) (hn : n ≤ 1000000) :
    Calls Try.prog 15 #[.slice A n c] W fun e w' => nst w0 w' F e (nestR (sgn l)) := by
  have hll := (hC W h).len
  have hsl : (sgn l).length = n := by unfold sgn; rw [List.length_map]; exact hll
  have hmk : ∀ W : World, (Instr.makeSlice 22 (.int .i64 (n : Int)) (.int .i64 (n : Int))).run Try.prog W = .ok (.slice (some ⟨W.heap.size, 0, none⟩) n n) (W.alloc (.cells (madeCells #[.int .i64 0] n) 3)) := by
    intro W
    exact print_make (P := Try.prog) 22 3 .i64 8 Try.underlying22 infoInt (by decide) n (by omega) W
  have S2 := h.madeRow (h1 := fun _ => rfl) (e := 3) (enc := Value.int .i64) 0 n (by omega)
  have H2 : Aside0 (Sep w0 (W.alloc (.cells (madeCells #[.int .i64 0] n) 3)) (Row I64 3 (.slice (some ⟨W.heap.size, 0, none⟩) n n) (List.replicate n 0) :: Row I64 3 (.slice none 0 0) (opL []) :: F)) := ⟨(S2.nilRow I64 3).at2⟩
  have HL := Aside0.mk (And.intro hll hsl)
  have HC := Aside0.mk hC
  clear h S2 hC hll hsl
  obtain ⟨M0, hM0⟩ : ∃ M0 : RS, (⟨List.replicate n 0, [], 0⟩ : RS) = M0 := ⟨_, rfl⟩
  have HM0 := Aside0.mk hM0
  have HRB : Aside0 (RB 0 n M0) := ⟨by rw [← hM0]; exact ⟨by simp, Nat.zero_le _, fun p hp => by cases hp⟩⟩
  have HMt : Aside0 (M0.tt = List.replicate n 0 ∧ M0.opn = [] ∧ M0.deep = 0) := ⟨by rw [← hM0]; exact ⟨rfl, rfl, rfl⟩⟩
  have HN : Aside0 (nestR (sgn l) = endR (sgn l) (NestP.runR (sgn l) 0 (sgn l) M0)) := ⟨by rw [nestR_def, HL.out.2, hM0]⟩
  clear hM0
  go_enter Try.func15, Try.ntmps15
  go_wp2_with fail
  obtain ⟨w2, hw2⟩ : ∃ x, W.alloc (.cells (madeCells #[Value.int .i64 0] n) 3) = x := ⟨_, rfl⟩
  rw [hw2] at H2 ⊢
  obtain ⟨gt, hgt⟩ : ∃ gt, W.heap.size = gt := ⟨_, rfl⟩
  rw [hgt] at H2 ⊢
  clear hw2 hgt
  go_loopg [6, 7, 15] n (fun m vo dp q wr => ∃ (i : Nat) (R : RS), i + m = n ∧ q = .int .i64 (i : Int) ∧ dp = .int .i64 (R.deep : Int) ∧ NestP.runR (sgn l) 0 (sgn l) M0 = NestP.runR (sgn l) i ((sgn l).drop i) R ∧ RB i n R ∧ Sep w0 wr (Row I64 3 (.slice (some ⟨gt, 0, none⟩) n n) R.tt :: Row I64 3 vo (opL R.opn) :: F))
  case atStart => exact ⟨0, M0, by omega, rfl, by rw [HMt.out.2.2]; rfl, rfl, HRB.out, by rw [HMt.out.1, HMt.out.2.1]; exact H2.out⟩
  case round =>
    obtain ⟨i, R, him, rfl, rfl, hrun, hrb, hS⟩ := hrel
    have AK := Aside0.mk him
    have HR := Aside0.mk hrb
    have HU := Aside0.mk hrun
    by_cases hi : i < n
    · obtain ⟨f1, f2⟩ := hS.rowCell (0 : Int) i hi
      have B1 := Aside0.mk (hS.putRow (enc := Value.int .i64) i (-1))
      have HI := Aside0.mk hi
      have hij : (i : Int) < (n : Int) := by omega
      clear hS hrun hrb him
      go_upto_region 8 with fail
      obtain ⟨w1, hw1⟩ : ∃ x, wr.setCell ⟨gt, i, none⟩ (.int .i64 (-1)) = x := ⟨_, rfl⟩
      rw [hw1] at B1 ⊢
      clear hw1 f1 f2
      have hCw := HC.out _ B1.out.tail.tail
      obtain ⟨ad, t, rfl, ht, d0, d1, d2⟩ := hCw.at_ hi
      have HCW := Aside0.mk hCw
      have hdrop : (sgn l).drop i = t.sign :: (sgn l).drop (i + 1) := by
        have hil : i < (sgn l).length := by rw [HL.out.2]; exact hi
        rw [List.drop_eq_getElem_cons hil]
        congr 1
        have h8 : (sgn l)[i]? = some t.sign := by unfold sgn; rw [List.getElem?_map, ht]; rfl
        rw [List.getElem?_eq_getElem hil] at h8
        exact Option.some.inj h8
      have HR2 : Aside0 (NestP.runR (sgn l) 0 (sgn l) M0 = contR (sgn l) (i + 1) ((sgn l).drop (i + 1)) (tokR (sgn l) i t.sign R)) := ⟨by rw [HU.out, hdrop, runR_step]⟩
      obtain ⟨s, hs⟩ : ∃ s, t.sign = s := ⟨_, rfl⟩
      rw [hs] at d0 HR2
      clear hCw hdrop ht d1 d2 hs
      obtain ⟨T1, hT1⟩ : ∃ T1, R.tt.set i (-1) = T1 := ⟨_, rfl⟩
      rw [hT1] at B1
      have HT1 : Aside0 (R.tt.set i (-1) = T1 ∧ T1.length = n) := ⟨hT1, by rw [← hT1, List.length_set]; exact HR.out.len⟩
      clear hT1
      by_cases h1 : s = 63 ∨ s = 91
      · have htk := tokR_open (sgn l) i s R h1
        rw [HT1.out.1] at htk
        obtain ⟨A6, c6, rfl⟩ := B1.out.tail.rowN (n := R.opn.length) (opL_len _)
        have L := Aside0.mk (B1.out.at2.litRow (enc := Value.int .i64) (h1 := fun _ => rfl) (e := 3) [(i : Int)] (by simp)).at2
        obtain ⟨N, hN⟩ : ∃ N, R.opn.length = N := ⟨_, rfl⟩
        rw [hN] at L htk
        obtain ⟨dp, hdp⟩ : ∃ dp, R.deep = dp := ⟨_, rfl⟩
        rw [hdp] at htk ⊢
        obtain ⟨M, hM⟩ : ∃ M, max dp (N + 1) = M := ⟨_, rfl⟩
        rw [hM] at htk
        have hmx : (if (dp : Int) < (N : Int) + 1 then (N : Int) + 1 else (dp : Int)) = (M : Int) := by split <;> omega
        have hN16 : N ≤ 16 := by rw [← hN]; exact HR.out.op
        have HTK := Aside0.mk htk
        have HNN := Aside0.mk (And.intro hN hN16)
        rw [hN]
        clear htk hN hM hdp
        by_cases h16 : N < 16
        · rw [if_pos h16] at HTK
          have hd : decide (16 < (N : Int) + 1) = false := decide_eq_false (by omega)
          have HOP : Aside0 (R.opn.length = N) := ⟨HNN.out.1⟩
          rcases h1 with rfl | rfl
          all_goals
            go_wp2_with (first | (refine gate_builtin (b := .append) (xs := #[.tmp 29, .tmp 31]) rfl ?_; go_loud (refine L.out.appendRow rfl (.tmp 29) (.tmp 31) 22 (.int .i64 0) 8 rfl Try.underlying22 infoInt rfl (by decide) (some ⟨w1.heap.size, 0, none⟩) 1 1 rfl rfl L.out.at2.rowC.2.2 (by rw [opL_len, HNN.out.1]; have := HNN.out.2; simp; omega) ?_; intro v7 w7 hS7; obtain ⟨A7, c7, rfl⟩ := hS7.rowN (n := N + 1) (by rw [List.length_append, opL_len, HNN.out.1]; rfl); have B7 := Aside0.mk hS7.at2.tail.at2; clear hS7)))
            go_roundg (gk - 1)
            case measure => have := AK.out; omega
            case rel => exact ⟨i + 1, ⟨T1, i :: R.opn, M⟩, by have := AK.out; omega, by go_num, rfl, by rw [HR2.out, HTK.out]; rfl, HR.out.tok HTK.out, by rw [opL_cons]; exact B7.out⟩
        · rw [if_neg h16] at HTK
          have hd : decide (16 < (N : Int) + 1) = true := decide_eq_true (by omega)
          rcases h1 with rfl | rfl
          all_goals
            go_wp2_with (first | (refine gate_builtin (b := .append) (xs := #[.tmp 29, .tmp 31]) rfl ?_; go_loud (refine L.out.appendRow rfl (.tmp 29) (.tmp 31) 22 (.int .i64 0) 8 rfl Try.underlying22 infoInt rfl (by decide) (some ⟨w1.heap.size, 0, none⟩) 1 1 rfl rfl L.out.at2.rowC.2.2 (by rw [opL_len, HNN.out.1]; have := HNN.out.2; simp; omega) ?_; intro v7 w7 hS7; obtain ⟨A7, c7, rfl⟩ := hS7.rowN (n := N + 1) (by rw [List.length_append, opL_len, HNN.out.1]; rfl); have B7 := Aside0.mk hS7.at2.tail.at2; clear hS7)))
            go_ret3
            rw [HN.out, HR2.out, HTK.out]
            exact ⟨by first | rfl | (simp; done), B7.out.tail.tail⟩
      · by_cases h2 : s = 58
        · subst h2
          clear h1
          have htk := tokR_58 (sgn l) i R
          rw [HT1.out.1] at htk
          cases ho : R.opn with
          | nil =>
            rw [ho] at htk B1
            obtain ⟨A6, c6, rfl⟩ := B1.out.tail.rowN (n := 0) rfl
            have HTK := Aside0.mk htk
            clear htk
            have HO := Aside0.mk ho
            clear ho
            go_wp2_with fail
            go_ret3
            rw [HN.out, HR2.out, HTK.out]
            exact ⟨by first | rfl | (simp; done), B1.out.tail.tail⟩
          | cons o r =>
            rw [ho] at htk B1
            dsimp only at htk
            have hol : o < n := by have := HR.out.lt o (by rw [ho]; exact List.mem_cons_self ..); omega
            obtain ⟨go, co, so, rfl, hco, hso, e1, e2⟩ := top_at (ca := 0) (N := 0) HCW.out B1.out hol
            rw [hso] at htk
            obtain ⟨N, hN⟩ : ∃ N, r.length + 1 = N := ⟨_, rfl⟩
            have hr16 : N ≤ 16 := by rw [← hN]; have := HR.out.op; rw [ho] at this; exact this
            have hw : wrap64 ((N : Int) - 1) = (r.length : Int) := by rw [IntWalk.wrap64_in _ (by omega)]; omega
            have hz : ¬ (N : Int) = 0 := by omega
            have hz2 : ¬ N = 0 := by omega
            have hN1 : N - 1 = r.length := by omega
            have hzb : ((N : Int) == 0) = false := by rw [beq_eq_false_iff_ne]; omega
            have hrN : (r.length : Int) < (N : Int) := by omega
            have honn : (o : Int) < (n : Int) := by omega
            have HNN := Aside0.mk hN
            have HO := Aside0.mk ho
            have HOL := Aside0.mk hol
            rw [hN] at B1 hco ⊢
            clear ho hN hol hso
            by_cases h63 : so = 63
            · rw [if_pos h63] at htk
              subst h63
              have HTK := Aside0.mk htk
              obtain ⟨f1, f2⟩ := B1.out.rowCell (0 : Int) o HOL.out
              have B3 := Aside0.mk (B1.out.putRow (enc := Value.int .i64) o ((i : Int) + 1))
              have hwi : wrap64 ((i : Int) + 1) = (i : Int) + 1 := IntWalk.wrap64_in _ (by omega)
              clear htk
              go_upto_region 19 with fail
              obtain ⟨w3, hw3⟩ : ∃ x, w1.setCell ⟨gt, o, none⟩ (.int .i64 ((i : Int) + 1)) = x := ⟨_, rfl⟩
              rw [hw3] at B3 ⊢
              clear hw3 f1 f2 e1 e2
              obtain ⟨g1, g2⟩ := B3.out.tail.rowCell (0 : Int) r.length (by have := HNN.out; omega)
              have B4 := Aside0.mk (B3.out.at2.putRow (enc := Value.int .i64) r.length (i : Int))
              go_wp2_with fail
              go_roundg (gk - 1)
              case measure => have := AK.out; omega
              case rel => exact ⟨i + 1, ⟨T1.set o ((i : Int) + 1), i :: r, R.deep⟩, by have := AK.out; omega, by go_num, rfl, by rw [HR2.out, HTK.out]; rfl, HR.out.tok HTK.out, by rw [← opL_set o i r]; exact B4.out.at2⟩
            · rw [if_neg h63] at htk
              have hb63 : (so != 63) = true := by simp [h63]
              have HTK := Aside0.mk htk
              clear htk
              go_wp2_with fail
              go_ret3
              rw [HN.out, HR2.out, HTK.out]
              exact ⟨by first | rfl | (simp; done), B1.out.tail.tail⟩
        · by_cases h3 : s = 59
          · subst h3
            clear h1 h2
            have htk := tokR_59 (sgn l) i R
            rw [HT1.out.1] at htk
            cases ho : R.opn with
            | nil =>
              rw [ho] at htk B1
              obtain ⟨A6, c6, rfl⟩ := B1.out.tail.rowN (n := 0) rfl
              have HTK := Aside0.mk htk
              clear htk
              have HO := Aside0.mk ho
              clear ho
              go_wp2_with fail
              go_ret3
              rw [HN.out, HR2.out, HTK.out]
              exact ⟨by first | rfl | (simp; done), B1.out.tail.tail⟩
            | cons o r =>
              rw [ho] at htk B1
              dsimp only at htk
              have hol : o < n := by have := HR.out.lt o (by rw [ho]; exact List.mem_cons_self ..); omega
              obtain ⟨go, co, so, rfl, hco, hso, e1, e2⟩ := top_at (ca := 0) (N := 0) HCW.out B1.out hol
              rw [hso] at htk
              obtain ⟨N, hN⟩ : ∃ N, r.length + 1 = N := ⟨_, rfl⟩
              have hr16 : N ≤ 16 := by rw [← hN]; have := HR.out.op; rw [ho] at this; exact this
              have hw : wrap64 ((N : Int) - 1) = (r.length : Int) := by rw [IntWalk.wrap64_in _ (by omega)]; omega
              have hz : ¬ (N : Int) = 0 := by omega
              have hz2 : ¬ N = 0 := by omega
              have hN1 : N - 1 = r.length := by omega
              have hzb : ((N : Int) == 0) = false := by rw [beq_eq_false_iff_ne]; omega
              have hrN : (r.length : Int) < (N : Int) := by omega
              have honn : (o : Int) < (n : Int) := by omega
              have HNN := Aside0.mk hN
              have HO := Aside0.mk ho
              have HOL := Aside0.mk hol
              rw [hN] at B1 hco ⊢
              clear ho hN hol hso
              by_cases h91 : so = 91
              · rw [if_pos h91] at htk
                subst h91
                have HTK := Aside0.mk htk
                clear htk
                go_wp2_with fail
                go_ret3
                rw [HN.out, HR2.out, HTK.out]
                exact ⟨by first | rfl | (simp; done), B1.out.tail.tail⟩
              · rw [if_neg h91] at htk
                have hb91 : (so == 91) = false := by simp [h91]
                have HTK := Aside0.mk htk
                obtain ⟨f1, f2⟩ := B1.out.rowCell (0 : Int) o HOL.out
                have B3 := Aside0.mk (B1.out.putRow (enc := Value.int .i64) o (i : Int))
                have hcut := cutHi (z := (.int .i64 0)) (sz := 1) (bytes := 8) Try.underlying22 infoInt (some ⟨go, 0, none⟩) N co r.length (K := (r.length : Int)) rfl (by omega) hco
                clear htk
                go_wp2_with fail
                go_roundg (gk - 1)
                case measure => have := AK.out; omega
                case rel => exact ⟨i + 1, ⟨T1.set o (i : Int), r, R.deep⟩, by have := AK.out; omega, by go_num, rfl, by rw [HR2.out, HTK.out]; rfl, HR.out.tok HTK.out, by have h9 := (Sep.rowTake (m := r.length) B3.out.at2 (by rw [opL_len]; simp)).at2; rw [opL_take] at h9; exact h9⟩
          · by_cases h4 : s = 93
            · subst h4
              clear h1 h2 h3
              have htk := tokR_93 (sgn l) i R
              rw [HT1.out.1] at htk
              cases ho : R.opn with
              | nil =>
                rw [ho] at htk B1
                obtain ⟨A6, c6, rfl⟩ := B1.out.tail.rowN (n := 0) rfl
                have HTK := Aside0.mk htk
                clear htk
                have HO := Aside0.mk ho
                clear ho
                go_wp2_with fail
                go_ret3
                rw [HN.out, HR2.out, HTK.out]
                exact ⟨by first | rfl | (simp; done), B1.out.tail.tail⟩
              | cons o r =>
                rw [ho] at htk B1
                dsimp only at htk
                have hol : o < n := by have := HR.out.lt o (by rw [ho]; exact List.mem_cons_self ..); omega
                obtain ⟨go, co, so, rfl, hco, hso, e1, e2⟩ := top_at (ca := 0) (N := 0) HCW.out B1.out hol
                rw [hso] at htk
                obtain ⟨N, hN⟩ : ∃ N, r.length + 1 = N := ⟨_, rfl⟩
                have hr16 : N ≤ 16 := by rw [← hN]; have := HR.out.op; rw [ho] at this; exact this
                have hw : wrap64 ((N : Int) - 1) = (r.length : Int) := by rw [IntWalk.wrap64_in _ (by omega)]; omega
                have hz : ¬ (N : Int) = 0 := by omega
                have hz2 : ¬ N = 0 := by omega
                have hN1 : N - 1 = r.length := by omega
                have hzb : ((N : Int) == 0) = false := by rw [beq_eq_false_iff_ne]; omega
                have hrN : (r.length : Int) < (N : Int) := by omega
                have honn : (o : Int) < (n : Int) := by omega
                have HNN := Aside0.mk hN
                have HO := Aside0.mk ho
                have HOL := Aside0.mk hol
                rw [hN] at B1 hco ⊢
                clear ho hN hol hso
                by_cases h91 : so = 91
                · rw [if_pos h91] at htk
                  subst h91
                  have HTK := Aside0.mk htk
                  obtain ⟨f1, f2⟩ := B1.out.rowCell (0 : Int) i HI.out
                  have B3 := Aside0.mk (B1.out.putRow (enc := Value.int .i64) i (o : Int))
                  have hcut := cutHi (z := (.int .i64 0)) (sz := 1) (bytes := 8) Try.underlying22 infoInt (some ⟨go, 0, none⟩) N co r.length (K := (r.length : Int)) rfl (by omega) hco
                  clear htk
                  go_wp2_with fail
                  go_roundg (gk - 1)
                  case measure => have := AK.out; omega
                  case rel => exact ⟨i + 1, ⟨T1.set i (o : Int), r, R.deep⟩, by have := AK.out; omega, by go_num, rfl, by rw [HR2.out, HTK.out]; rfl, HR.out.tok HTK.out, by have h9 := (Sep.rowTake (m := r.length) B3.out.at2 (by rw [opL_len]; simp)).at2; rw [opL_take] at h9; exact h9⟩
                · rw [if_neg h91] at htk
                  have hb91 : (so != 91) = true := by simp [h91]
                  have HTK := Aside0.mk htk
                  clear htk
                  go_wp2_with fail
                  go_ret3
                  rw [HN.out, HR2.out, HTK.out]
                  exact ⟨by first | rfl | (simp; done), B1.out.tail.tail⟩
            · have htk := tokR_else (sgn l) i s R (fun hq => h1 (.inl hq)) (fun hq => h1 (.inr hq)) h2 h3 h4
              rw [HT1.out.1] at htk
              have h1a : ¬ s = 63 := fun hq => h1 (.inl hq)
              have h1b : ¬ s = 91 := fun hq => h1 (.inr hq)
              have HTK := Aside0.mk htk
              clear htk h1
              go_wp2_with fail
              go_roundg (gk - 1)
              case measure => have := AK.out; omega
              case rel => exact ⟨i + 1, ⟨T1, R.opn, R.deep⟩, by have := AK.out; omega, by go_num, rfl, by rw [HR2.out, HTK.out]; rfl, HR.out.tok HTK.out, B1.out⟩
    · have hin : i = n := by omega
      subst hin
      have hrun2 : NestP.runR (sgn l) 0 (sgn l) M0 = some R := by rw [hrun, List.drop_of_length_le (by rw [HL.out.2]; exact Nat.le_refl _)]; rfl
      have HE : Aside0 (nestR (sgn l) = endR (sgn l) (some R)) := ⟨by rw [HN.out, hrun2]⟩
      obtain ⟨A6, c6, rfl⟩ := hS.tail.rowN (n := R.opn.length) (opL_len _)
      obtain ⟨N, hN⟩ : ∃ N, R.opn.length = N := ⟨_, rfl⟩
      rw [hN] at hS ⊢
      have HNN := Aside0.mk hN
      have B1 := Aside0.mk hS
      clear hS hrun hrb him hrun2 hi hN
      by_cases h0 : N = 0
      · subst h0
        have hop : R.opn = [] := List.eq_nil_of_length_eq_zero HNN.out
        have HE2 : Aside0 (nestR (sgn l) = (secR (sgn l) i 0 R.tt).map (fun t => (t, R.deep))) := ⟨by rw [HE.out]; show (if R.opn = [] then _ else _) = _; rw [if_pos hop, HL.out.2]⟩
        obtain ⟨dp, hdp⟩ : ∃ dp, R.deep = dp := ⟨_, rfl⟩
        obtain ⟨T, hT⟩ : ∃ T, R.tt = T := ⟨_, rfl⟩
        have HT : Aside0 (T.length = i) := ⟨by rw [← hT]; exact HR.out.len⟩
        rw [hdp] at HE2 ⊢
        rw [hT] at HE2 B1
        clear hdp hT hop
        go_wp2_with fail
        go_loopg [144] i (fun m q wx => ∃ (j : Nat) (tt : List Int), j + m = i ∧ q = .int .i64 (j : Int) ∧ secR (sgn l) i 0 T = secR (sgn l) m j tt ∧ tt.length = i ∧ Sep w0 wx (Row I64 3 (.slice (some ⟨gt, 0, none⟩) i i) tt :: F))
        case atStart => exact ⟨0, T, by omega, rfl, rfl, HT.out, B1.out.drop2⟩
        case round =>
          obtain ⟨j, tt, hjm, rfl, hsec, htl, hS⟩ := hrel
          have AJ := Aside0.mk hjm
          have HS := Aside0.mk hsec
          have HTL := Aside0.mk htl
          have B2 := Aside0.mk hS
          clear hsec htl
          by_cases hj : j < i
          · have hCw := HC.out _ hS.tail
            obtain ⟨ad, t, rfl, ht, d0, d1, d2⟩ := hCw.at_ hj
            have HCW := Aside0.mk hCw
            have hst := sgn_at ht
            obtain ⟨s, hs⟩ : ∃ s, t.sign = s := ⟨_, rfl⟩
            rw [hs] at d0 hst
            have HST := Aside0.mk hst
            obtain ⟨k, rfl⟩ : ∃ k, gk = k + 1 := ⟨gk - 1, by omega⟩
            have hji : (j : Int) < (i : Int) := by omega
            have HJ := Aside0.mk hj
            obtain ⟨f1, f2⟩ := hS.rowCell (0 : Int) j hj
            have HIB := Aside0.mk hS.rowC'
            clear hCw ht d1 d2 hst hs hS hjm
            by_cases h126 : s = 126
            · subst h126
              obtain ⟨x, hx⟩ : ∃ x, leavesF (sgn l) tt j (i - j) j = x := ⟨_, rfl⟩
              have HX := Aside0.mk hx
              have B3 := Aside0.mk (B2.out.putRow (enc := Value.int .i64) j x)
              have g1 := (B3.out.rowCell (0 : Int) j (by have := HJ.out; omega)).1
              have g2 : (tt.set j x).getD j 0 = x := by rw [NestP.getD_set, if_pos ⟨rfl, by rw [HTL.out]; exact HJ.out⟩]
              rw [g2] at g1
              clear hx g2
              by_cases hx0 : x < 0
              · have hd : decide (x < 0) = true := decide_eq_true hx0
                have hr : secR (sgn l) (k + 1) j tt = none := by
                  rw [secR, if_pos HST.out, HL.out.2, HX.out, if_pos hx0]
                have HRR := Aside0.mk hr
                clear hr
                go_wp2_with (go_at_call 29; refine (leaves_ HCW.out HIB.out j (Nat.le_of_lt HJ.out)).mono ?_; rintro e w5 ⟨rfl, rfl⟩; rw [HX.out])
                go_ret3
                rw [HE2.out, HS.out, HRR.out]
                exact ⟨by first | rfl | (simp; done), B3.out.tail⟩
              · have hd : decide (x < 0) = false := decide_eq_false hx0
                have hr : secR (sgn l) (k + 1) j tt = secR (sgn l) k (j + 1) (tt.set j x) := by
                  rw [secR, if_pos HST.out, HL.out.2, HX.out, if_neg hx0]
                have HRR := Aside0.mk hr
                clear hr
                go_wp2_with (go_at_call 29; refine (leaves_ HCW.out HIB.out j (Nat.le_of_lt HJ.out)).mono ?_; rintro e w5 ⟨rfl, rfl⟩; rw [HX.out])
                go_roundg k
                case measure => omega
                case rel => exact ⟨j + 1, _, by have := AJ.out; omega, by go_num, by rw [HS.out, HRR.out], by rw [List.length_set]; exact HTL.out, B3.out⟩
            · have hr : secR (sgn l) (k + 1) j tt = secR (sgn l) k (j + 1) tt := by
                rw [secR, if_neg (by rw [HST.out]; exact h126)]
              have HRR := Aside0.mk hr
              clear hr
              go_wp2_with fail
              go_roundg k
              case measure => omega
              case rel => exact ⟨j + 1, tt, by have := AJ.out; omega, by go_num, by rw [HS.out, HRR.out], HTL.out, B2.out⟩
          · obtain rfl : gk = 0 := by omega
            have hr : secR (sgn l) 0 j tt = some tt := rfl
            have HRR := Aside0.mk hr
            clear hr hS
            go_wp2_with fail
            go_ret3
            rw [HE2.out, HS.out, HRR.out]
            exact ⟨_, by first | rfl | (simp; done), B2.out⟩
      · have HE2 : Aside0 (nestR (sgn l) = none) := ⟨by rw [HE.out]; show (if R.opn = [] then _ else _) = _; rw [if_neg (fun hq => h0 (by rw [← HNN.out, hq]; rfl))]⟩
        have hd : decide (0 < (N : Int)) = true := decide_eq_true (by omega)
        have hd2 : decide (0 < N) = true := decide_eq_true (by omega)
        go_wp2_with fail
        go_ret3
        rw [HE2.out]
        exact ⟨by first | rfl | (simp; done), B1.out.tail.tail⟩
end
end Go.Proofs.Ytkkgfpdjlohojaa.NestR
namespace Go.Proofs.Ytkkgfpdjlohojaa.Kit
end Go.Proofs.Ytkkgfpdjlohojaa.Kit
namespace Go.Proofs.Ytkkgfpdjlohojaa.Kit
end Go.Proofs.Ytkkgfpdjlohojaa.Kit
namespace Go.Proofs.Ytkkgfpdjlohojaa.Kit
end Go.Proofs.Ytkkgfpdjlohojaa.Kit
namespace Go.Proofs.Ytkkgfpdjlohojaa.Book
open Go.RowKit Go.Proofs.YtkkgfpdjlohojaaW.PrintWords Go.Proofs.YtkkgfpdjlohojaaW.PrintLast Go.Proofs.YtkkgfpdjlohojaaW.PrintMore Go.Proofs.Ytkkgfpdjlohojaa.Kit
theorem rd_eq {xs : List Int} {j : Nat} (h : j < xs.length) : rd xs (j : Int) = xs[j] := by
  unfold rd
  rw [Int.toNat_natCast, List.getD_eq_getElem?_getD, List.getElem?_eq_getElem h]
  rfl
set_option maxHeartbeats 800000 in
set_option maxRecDepth 100000 in
theorem sameI_ {A B : Option Addr} {n c m d : Nat} {xs ys : List Int} {w : World} (h1 : (Kd.int .i64).C w A n xs) (h2 : (Kd.int .i64).C w B m ys) :
    Calls Try.prog 16 #[.slice A n c, .slice B m d] w fun e w' => e = .returned (.bool (decide (xs = ys))) ∧ Below w.heap.size w w' := by
  obtain rfl : xs.length = n := h1.1
  obtain rfl : ys.length = m := h2.1
  have hm1 : xs.length ≤ 9223372036854775807 := h1.2.1
  have hm2 : ys.length ≤ 9223372036854775807 := h2.2.1
  have H1 := Aside0.mk h1
  have H2 := Aside0.mk h2
  clear h1 h2
  by_cases hl : xs.length = ys.length
  · have hl' : (xs.length : Int) = (ys.length : Int) := by omega
    go_enter Try.func16, Try.ntmps16
    go_wp2_with fail
    go_loopg [5] xs.length (fun k p wr => ∃ j : Nat, p = .int .i64 (j : Int) ∧ j + k = xs.length ∧ Below w.heap.size w wr ∧ ∀ i, i < j → xs[i]? = ys[i]?)
    case atStart => exact ⟨0, rfl, by omega, Below.refl _ _, fun i hi => by omega⟩
    case round =>
      obtain ⟨j, rfl, hjk, hB, hp⟩ := hrel
      have AB := Aside0.mk hB
      have AP := Aside0.mk hp
      have AK := Aside0.mk hjk
      clear hB hp
      by_cases hj : j < xs.length
      · clear hjk
        obtain ⟨ad, hA, hc⟩ := Kd.at_int (Kd.C_below H1.out AB.out) (j : Int) (by omega) (by omega)
        obtain ⟨bd, hB, hd⟩ := Kd.at_int (Kd.C_below H2.out AB.out) (j : Int) (by omega) (by omega)
        subst hA hB
        rw [Int.toNat_natCast] at hc hd
        have AR : Aside0 (rd xs (j : Int) = xs[j]) := ⟨rd_eq hj⟩
        have AS : Aside0 (rd ys (j : Int) = ys[j]) := ⟨rd_eq (by omega)⟩
        generalize rd xs (j : Int) = x at *
        generalize rd ys (j : Int) = y at *
        by_cases hxy : x = y
        · go_wp2_with fail
          go_quiet (fail)
          go_wp2_with fail
          go_roundg (gk - 1)
          case measure => have := AK.out; omega
          case rel => exact ⟨j + 1, by go_num, by have := AK.out; omega, pw_below_drewN AB.out _, fun i hi => by
            by_cases hij : i < j
            · exact AP.out i hij
            · obtain rfl : i = j := by omega
              rw [List.getElem?_eq_getElem hj, List.getElem?_eq_getElem (by omega), ← AR.out, ← AS.out, hxy]⟩
        · have hne : xs ≠ ys := fun h => hxy (by rw [AR.out, AS.out]; exact List.getElem_of_eq h hj)
          have ANE := Aside0.mk hne
          have hb : (x != y) = true := by simpa using hxy
          clear hne
          go_wp2_with fail
          go_quiet (fail)
          go_wp2_with fail
          go_ret
          exact ⟨by rw [decide_eq_false ANE.out]; rfl, pw_below_drewN AB.out _⟩
      · have hq : xs = ys := List.ext_getElem? (fun i => by
          by_cases hi : i < j
          · exact AP.out i hi
          · rw [List.getElem?_eq_none (by omega), List.getElem?_eq_none (by omega)])
        have AQ := Aside0.mk hq
        clear hq hjk
        go_wp2_with fail
        go_ret
        exact ⟨by rw [decide_eq_true AQ.out]; rfl, AB.out⟩
  · have hne : xs ≠ ys := fun h => hl (by rw [h])
    have ANE := Aside0.mk hne
    have hl' : ¬ (xs.length : Int) = (ys.length : Int) := by omega
    clear hne
    go_enter Try.func16, Try.ntmps16
    go_wp2_with fail
    go_ret
    exact ⟨by rw [decide_eq_false ANE.out]; rfl, Below.refl _ _⟩
end Go.Proofs.Ytkkgfpdjlohojaa.Book
namespace Go.Proofs.Ytkkgfpdjlohojaa.Law8
open Go.RowKit Go.Proofs.YtkkgfpdjlohojaaW.PrintWords Go.Proofs.YtkkgfpdjlohojaaW.PrintLast Go.Proofs.YtkkgfpdjlohojaaW.PrintMore Go.Proofs.Ytkkgfpdjlohojaa.Kit
open Go.Proofs.Ytkkgfpdjlohojaa.NestP Go.Proofs.Ytkkgfpdjlohojaa.TokP Go.Proofs.Ytkkgfpdjlohojaa.Tok
abbrev I64 : Kd Int := Kd.int .i64
end Go.Proofs.Ytkkgfpdjlohojaa.Law8
namespace Go.Proofs.Ytkkgfpdjlohojaa.Kit
open Go.RowKit Go.Proofs.YtkkgfpdjlohojaaW.PrintWords Go.Proofs.YtkkgfpdjlohojaaW.PrintLast Go.Proofs.YtkkgfpdjlohojaaW.PrintMore
def runesF (s : ByteArray) : Nat → Nat → List Int
  | 0, _ => []
  | m + 1, pos => if pos < s.size then ((Utf8.decode s pos).1 : Int) :: runesF s m (pos + (Utf8.decode s pos).2) else []
def runesS (s : ByteArray) : List Int := runesF s s.size 0
theorem width_pos (s : ByteArray) (pos : Nat) (h : pos < s.size) : 1 ≤ (Utf8.decode s pos).2 := by
  by_cases ha : (s[pos]'h).toNat < 128
  · rw [decode_ascii s pos h ha]
    exact Nat.le_refl _
  · exact (decode_high s pos h (by omega)).2
theorem runesF_end (s : ByteArray) (m pos : Nat) (h : ¬ pos < s.size) : runesF s m pos = [] := by
  cases m with
  | zero => rfl
  | succ f => simp [runesF, h]
theorem runesF_step (s : ByteArray) (m pos : Nat) (h : pos < s.size) : runesF s (m + 1) pos = ((Utf8.decode s pos).1 : Int) :: runesF s m (pos + (Utf8.decode s pos).2) := by
  rw [runesF, if_pos h]
theorem runesF_len (s : ByteArray) : ∀ (m pos : Nat), (runesF s m pos).length ≤ s.size - pos
  | 0, pos => Nat.zero_le _
  | m + 1, pos => by
    by_cases h : pos < s.size
    · rw [runesF_step s m pos h, List.length_cons]
      have := runesF_len s m (pos + (Utf8.decode s pos).2)
      have := width_pos s pos h
      omega
    · rw [runesF_end s _ pos h]; exact Nat.zero_le _
theorem runesS_len (s : ByteArray) : (runesS s).length ≤ s.size := by
  have := runesF_len s s.size 0
  unfold runesS
  omega
theorem runesF_range (s : ByteArray) : ∀ (m pos : Nat), ∀ r ∈ runesF s m pos, 0 ≤ r ∧ r ≤ 2147483647
  | 0, pos, r, h => by cases h
  | m + 1, pos, r, h => by
    by_cases hp : pos < s.size
    · rw [runesF_step s m pos hp] at h
      rcases List.mem_cons.1 h with rfl | h
      · have := decode_le s pos; omega
      · exact runesF_range s m _ r h
    · rw [runesF_end s _ pos hp] at h; cases h
def SIt (g : Nat) (s : ByteArray) (pos : Nat) : HP where
  P W ok := (∀ k, ok k ↔ k = g) ∧ W.heap[g]? = some (.stringIter s pos)
  loc := fun h hm => ⟨h.1, (hm _ ((h.1 _).2 rfl)).trans h.2⟩
  bnd := fun h k hk => by rw [(h.1 k).1 hk]; exact blk_lt h.2
def iterTo (w : World) (k : Nat) (s : ByteArray) (pos : Nat) : World := { w with heap := w.heap.setIfInBounds k (.stringIter s pos) }
namespace Sep
variable {w0 W : World} {F : List HP} {g : Nat} {s : ByteArray} {pos : Nat}
theorem sit (h : Sep w0 W (SIt g s pos :: F)) : W.heap[g]? = some (.stringIter s pos) := by
  obtain ⟨ok, hp, _⟩ := h.sep
  exact hp.2
theorem newIt (h : Sep w0 W F) (s : ByteArray) (pos : Nat) : Sep w0 (World.iter W s pos) (SIt W.heap.size s pos :: F) :=
  h.gain (below_alloc (Below.refl _ _) _) (ok := fun k => k = W.heap.size) ⟨fun _ => Iff.rfl, World.iter_heap W s pos⟩ (fun k hk => by omega)
theorem stepIt (h : Sep w0 W (SIt g s pos :: F)) (pos' : Nat) : Sep w0 (iterTo W g s pos') (SIt g s pos' :: F) :=
  h.step ⟨rfl, rfl, rfl, by simp [iterTo]⟩ (fun ok hp => ⟨fun k _ hn => by
    have hne : g ≠ k := fun he => hn ((hp.1 k).2 he.symm)
    simp [iterTo, Array.getElem?_setIfInBounds, hne], ok, ⟨hp.1, by
    have hlt := blk_lt hp.2
    simp [iterTo, Array.getElem?_setIfInBounds, hlt]⟩, fun k hk => .inl hk⟩)
end Sep
section
variable {P : Program} {W : World} {g : Nat} {s : ByteArray} {pos : Nat}
theorem nextAt (ty : TypeId) (hk : W.heap[g]? = some (.stringIter s pos)) (h : pos < s.size) :
    (Instr.next (.pointer (some ⟨g, 0, none⟩)) true ty).run P W = .ok (.tuple #[.bool true, .int .i64 pos, .int .i32 (Utf8.decode s pos).1]) (iterTo W g s (pos + (Utf8.decode s pos).2)) := by
  simp only [Instr.next, getObj, setObj, Sem.run_bind, Sem.run, hk, Result.andThen, h, if_true]
  simp [goInt, iterTo]
theorem nextEnd (ty : TypeId) (hk : W.heap[g]? = some (.stringIter s pos)) (h : ¬ pos < s.size) :
    (Instr.next (.pointer (some ⟨g, 0, none⟩)) true ty).run P W = .ok (.tuple #[.bool false]) W := by
  simp [Instr.next, getObj, Sem.run, hk, h]
end
end Go.Proofs.Ytkkgfpdjlohojaa.Kit
namespace Go.Proofs.Ytkkgfpdjlohojaa.RefT
open Go.RowKit Go.Proofs.YtkkgfpdjlohojaaW.PrintWords Go.Proofs.YtkkgfpdjlohojaaW.PrintLast Go.Proofs.YtkkgfpdjlohojaaW.PrintMore Go.Proofs.Ytkkgfpdjlohojaa.Kit
open Go.Proofs.Ytkkgfpdjlohojaa.TokP
abbrev R32 : Kd Int := Kd.int .i32
theorem info32 : (Try.prog.info? 21).map (fun i => (i.zero, i.size, i.bytes)) = some (some (.int .i32 0), 1, 4) := by kernel_rfl
section
variable {w0 W : World} {F : List HP}
set_option maxHeartbeats 1600000 in
set_option maxRecDepth 100000 in
theorem runes_ (h : Sep w0 W F) (s : ByteArray) (hs : s.size ≤ 1000000) :
    Calls Try.prog 25 #[.string s] W fun e w' => ∃ v, e = .returned v ∧ Sep w0 w' (Row R32 21 v (runesS s) :: F) := by
  have H1 : Aside0 (Sep w0 (World.iter W s 0) (SIt W.heap.size s 0 :: Row R32 21 (.slice none 0 0) [] :: F)) := ⟨(h.nilRow R32 21).newIt s 0⟩
  clear h
  go_enter Try.func25, Try.ntmps25
  go_wp2_with fail
  obtain ⟨w1, hw1⟩ : ∃ x, World.iter W s 0 = x := ⟨_, rfl⟩
  obtain ⟨g, hg⟩ : ∃ g, W.heap.size = g := ⟨_, rfl⟩
  rw [hw1, hg] at H1
  rw [hw1, hg]
  clear hw1 hg
  go_loopg [3] s.size (fun m v wr => ∃ (pos : Nat) (acc : List Int), acc ++ runesF s m pos = runesS s ∧ s.size ≤ pos + m ∧ acc.length ≤ pos ∧ Sep w0 wr (SIt g s pos :: Row R32 21 v acc :: F))
  case atStart => exact ⟨0, [], rfl, by omega, Nat.zero_le _, H1.out⟩
  case round =>
    obtain ⟨pos, acc, hacc, hpm, hal, hS⟩ := hrel
    have HA := Aside0.mk (And.intro hacc (And.intro hpm hal))
    by_cases hp : pos < s.size
    · have hnx : ∀ ty, (Instr.next (.pointer (some ⟨g, 0, none⟩)) true ty).run Try.prog wr = _ := fun ty => nextAt ty hS.sit hp
      have hwd := width_pos s pos hp
      obtain ⟨k, rfl⟩ : ∃ k, gk = k + 1 := ⟨gk - 1, by omega⟩
      have hst := runesF_step s k pos hp
      obtain ⟨W2, hW2⟩ : ∃ x, (Utf8.decode s pos).2 = x := ⟨_, rfl⟩
      obtain ⟨r, hr⟩ : ∃ x, (Utf8.decode s pos).1 = x := ⟨_, rfl⟩
      rw [hW2] at hnx hst hwd
      rw [hr] at hnx hst
      have B1 := Aside0.mk (hS.stepIt (pos + W2))
      have HST := Aside0.mk hst
      have HWD := Aside0.mk hwd
      have HP := Aside0.mk hp
      obtain ⟨w2, hw2⟩ : ∃ x, iterTo wr g s (pos + W2) = x := ⟨_, rfl⟩
      rw [hw2] at B1 hnx
      have L := Aside0.mk (B1.out.litRow (enc := Value.int .i32) (h1 := fun _ => rfl) (e := 21) [(r : Int)] (by simp)).at3
      clear hS hacc hpm hal hst hwd hW2 hr hw2 hp
      go_wp2_with (first | (refine gate_builtin (b := .append) (xs := #[.tmp 11, .tmp 13]) rfl ?_; go_loud (refine L.out.appendRow rfl (.tmp 11) (.tmp 13) 48 (.int .i32 0) 4 rfl Try.underlying48 info32 rfl (by decide) (some ⟨w2.heap.size, 0, none⟩) 1 1 rfl rfl L.out.at2.rowC.2.2 (by have := HA.out.2.2; have := HP.out; simp; omega) ?_; intro v7 w7 hS7; have B7 := Aside0.mk hS7.at2.tail.at2; clear hS7)))
      go_roundg k
      case measure => omega
      case rel => exact ⟨pos + W2, acc ++ [(r : Int)], by rw [List.append_assoc]; have h9 := HA.out.1; rw [HST.out] at h9; exact h9, by have := HA.out.2.1; have := HWD.out; omega, by rw [List.length_append]; have := HA.out.2.2; have := HWD.out; simp; omega, B7.out⟩
    · have hnx : ∀ ty, (Instr.next (.pointer (some ⟨g, 0, none⟩)) true ty).run Try.prog wr = _ := fun ty => nextEnd ty hS.sit hp
      have hend := runesF_end s gk pos hp
      rw [hend, List.append_nil] at hacc
      have B2 := Aside0.mk hS.tail
      have HC := Aside0.mk hacc
      clear hS hacc hend hpm hal
      go_wp2_with fail
      go_ret
      exact ⟨_, by first | rfl | (simp; done), by rw [← HC.out]; exact B2.out⟩
set_option maxHeartbeats 1600000 in
set_option maxRecDepth 100000 in
theorem name_ (r : Int) : Calls Try.prog 26 #[.int .i32 r] W fun e w' => e = .returned (.bool (nameB r)) ∧ W = w' := by
  go_enter Try.func26, Try.ntmps26
  go_wp2_with fail
  all_goals (go_ret; refine ⟨congrArg (fun b => Ending.returned (Value.bool b)) ?_, rfl⟩)
  all_goals (rw [Bool.eq_iff_iff]; simp [nameB]; try omega)
end
end Go.Proofs.Ytkkgfpdjlohojaa.RefT
namespace Go.Proofs.Ytkkgfpdjlohojaa.RefT
open Go.RowKit Go.Proofs.YtkkgfpdjlohojaaW.PrintWords Go.Proofs.YtkkgfpdjlohojaaW.PrintLast Go.Proofs.YtkkgfpdjlohojaaW.PrintMore Go.Proofs.Ytkkgfpdjlohojaa.Kit
open Go.Proofs.Ytkkgfpdjlohojaa.TokP
section
variable {w0 W : World} {F : List HP}
set_option maxHeartbeats 1600000 in
set_option maxRecDepth 100000 in
theorem has_ (h : Sep w0 W F) (s : ByteArray) (r : Int) :
    Calls Try.prog 34 #[.string s, .int .i32 r] W fun e w' => e = .returned (.bool (decide (r ∈ runesS s))) ∧ Sep w0 w' F := by
  have H1 : Aside0 (Sep w0 (World.iter W s 0) (SIt W.heap.size s 0 :: F)) := ⟨h.newIt s 0⟩
  clear h
  go_enter Try.func34, Try.ntmps34
  go_wp2_with fail
  obtain ⟨w1, hw1⟩ : ∃ x, World.iter W s 0 = x := ⟨_, rfl⟩
  obtain ⟨g, hg⟩ : ∃ g, W.heap.size = g := ⟨_, rfl⟩
  rw [hw1, hg] at H1
  rw [hw1, hg]
  clear hw1 hg
  go_loopg [] s.size (fun m wr => ∃ pos : Nat, (decide (r ∈ runesS s) = decide (r ∈ runesF s m pos)) ∧ s.size ≤ pos + m ∧ Sep w0 wr (SIt g s pos :: F))
  case atStart => exact ⟨0, rfl, by omega, H1.out⟩
  case round =>
    obtain ⟨pos, hacc, hpm, hS⟩ := hrel
    have HA := Aside0.mk (And.intro hacc hpm)
    by_cases hp : pos < s.size
    · have hnx : ∀ ty, (Instr.next (.pointer (some ⟨g, 0, none⟩)) true ty).run Try.prog wr = _ := fun ty => nextAt ty hS.sit hp
      have hwd := width_pos s pos hp
      obtain ⟨k, rfl⟩ : ∃ k, gk = k + 1 := ⟨gk - 1, by omega⟩
      have hst := runesF_step s k pos hp
      obtain ⟨W2, hW2⟩ : ∃ x, (Utf8.decode s pos).2 = x := ⟨_, rfl⟩
      obtain ⟨x, hr⟩ : ∃ x, (Utf8.decode s pos).1 = x := ⟨_, rfl⟩
      rw [hW2] at hnx hst hwd
      rw [hr] at hnx hst
      have B1 := Aside0.mk (hS.stepIt (pos + W2))
      have HST := Aside0.mk hst
      have HWD := Aside0.mk hwd
      obtain ⟨w2, hw2⟩ : ∃ x, iterTo wr g s (pos + W2) = x := ⟨_, rfl⟩
      rw [hw2] at B1 hnx
      clear hS hacc hpm hst hwd hW2 hr hw2 hp
      by_cases hx : (x : Int) = r
      · have hb : ((x : Int) == r) = true := by simp [hx]
        go_wp2_with fail
        go_ret
        exact ⟨by rw [HA.out.1, HST.out, decide_eq_true (by rw [← hx]; exact List.mem_cons_self ..)]; first | rfl | (simp; done), B1.out.tail⟩
      · have hb : ((x : Int) == r) = false := by simp [hx]
        go_wp2_with fail
        go_roundg k
        case measure => omega
        case rel => exact ⟨pos + W2, by rw [HA.out.1, HST.out]; exact decide_eq_decide.2 ⟨fun h => (List.mem_cons.1 h).resolve_left (fun h2 => hx h2.symm), fun h => List.mem_cons_of_mem _ h⟩, by have := HA.out.2; have := HWD.out; omega, B1.out⟩
    · have hnx : ∀ ty, (Instr.next (.pointer (some ⟨g, 0, none⟩)) true ty).run Try.prog wr = _ := fun ty => nextEnd ty hS.sit hp
      have hend := runesF_end s gk pos hp
      have HE := Aside0.mk hend
      have B2 := Aside0.mk hS.tail
      clear hS hend hpm hacc
      go_wp2_with fail
      go_ret
      exact ⟨by rw [HA.out.1, HE.out]; first | rfl | (simp; done), B2.out⟩
theorem signs_ : runesS ⟨#[43, 45, 42, 47, 37, 38, 124, 94, 60, 61, 33, 46, 44, 64, 36, 35, 63, 58, 59, 91, 93, 126, 194, 171, 194, 187, 194, 169, 194, 174, 194, 164, 194, 161, 206, 187, 207, 128]⟩ = signsL := by decide +kernel
set_option maxHeartbeats 1600000 in
set_option maxRecDepth 100000 in
theorem known_ (h : Sep w0 W F) (r : Int) : Calls Try.prog 27 #[.int .i32 r] W fun e w' => e = .returned (.bool (knownB r)) ∧ Sep w0 w' F := by
  have H := Aside0.mk h
  clear h
  go_enter Try.func27, Try.ntmps27
  go_wp2_with (go_at_call 34; refine (has_ H.out _ r).mono ?_; rintro e w1 ⟨rfl, hS⟩; have B1 := Aside0.mk hS; clear hS)
  all_goals (go_ret; refine ⟨congrArg (fun b => Ending.returned (Value.bool b)) ?_, by first | exact B1.out | exact H.out⟩)
  all_goals (rw [Bool.eq_iff_iff]; simp [knownB, signs_]; try (by_cases hp : r ∈ signsL <;> simp [hp] <;> omega))
end
end Go.Proofs.Ytkkgfpdjlohojaa.RefT
