/- NestR2, NestR3, Func4: what NestTells needs. -/
import Derived.Test.YtkkgfpdjlohojaaTnestTells5
import Derived.Deep.Cut
import Derived.OwnWalk
set_option linter.unusedVariables false
set_option linter.unusedSimpArgs false
namespace Go.Proofs.Ytkkgfpdjlohojaa.NestR
open Go.RowKit Go.Proofs.YtkkgfpdjlohojaaW.PrintWords Go.Proofs.YtkkgfpdjlohojaaW.PrintLast Go.Proofs.YtkkgfpdjlohojaaW.PrintMore Go.Proofs.Ytkkgfpdjlohojaa.Kit
open Go.Proofs.Ytkkgfpdjlohojaa.NestP Go.Proofs.Ytkkgfpdjlohojaa.TokP Go.Proofs.Ytkkgfpdjlohojaa.Tok
theorem infoInt : (Try.prog.info? 3).map (fun i => (i.zero, i.size, i.bytes)) = some (some (.int .i64 0), 1, 8) := by kernel_rfl
theorem alloc_size (w : World) (o : Obj) : (w.alloc o).heap.size = w.heap.size + 1 := by simp
def opL (l : List Nat) : List Int := l.reverse.map (fun k : Nat => (k : Int))
theorem opL_len (l : List Nat) : (opL l).length = l.length := by unfold opL; rw [List.length_map, List.length_reverse]
theorem opL_cons (o : Nat) (r : List Nat) : opL (o :: r) = opL r ++ [(o : Int)] := by unfold opL; rw [List.reverse_cons, List.map_append]; rfl
theorem opL_top (o : Nat) (r : List Nat) : (opL (o :: r)).getD r.length 0 = (o : Int) := by
  rw [opL_cons, List.getD_eq_getElem?_getD, List.getElem?_append_right (by rw [opL_len]; exact Nat.le_refl _), opL_len, Nat.sub_self]
  rfl
theorem opL_set (o i : Nat) (r : List Nat) : (opL (o :: r)).set r.length (i : Int) = opL (i :: r) := by
  rw [opL_cons, opL_cons, List.set_append_right _ _ (by rw [opL_len]; exact Nat.le_refl _), opL_len, Nat.sub_self]
  rfl
theorem opL_take (o : Nat) (r : List Nat) : (opL (o :: r)).take r.length = opL r := by
  rw [opL_cons, List.take_append_of_le_length (by rw [opL_len]; exact Nat.le_refl _), List.take_of_length_le (by rw [opL_len]; exact Nat.le_refl _)]
structure RB (i n : Nat) (R : RS) : Prop where
  len : R.tt.length = n
  op : R.opn.length ≤ 16
  lt : ∀ o ∈ R.opn, o < i
theorem RB.tok {sg : List Int} {i n : Nat} {s : Int} {R R2 : RS} (h : RB i n R) (e : tokR sg i s R = some R2) : RB (i + 1) n R2 := by
  obtain ⟨len, op, lt⟩ := h
  have hm : ∀ o ∈ R.opn, o < i + 1 := fun o ho => by have := lt o ho; omega
  unfold tokR at e
  split at e
  · split at e
    · cases e
      refine ⟨by rw [List.length_set]; exact len, by show (i :: R.opn).length ≤ 16; rw [List.length_cons]; omega, fun o ho => ?_⟩
      rcases List.mem_cons.1 ho with rfl | ho
      · omega
      · exact hm o ho
    · cases e
  · split at e
    · cases ho : R.opn with
      | nil => rw [ho] at e; cases e
      | cons o r =>
        rw [ho] at e op hm
        dsimp only at e
        split at e
        · cases e
          refine ⟨by rw [List.length_set, List.length_set]; exact len, op, fun q hq => ?_⟩
          rcases List.mem_cons.1 hq with rfl | hq
          · omega
          · exact hm q (List.mem_cons_of_mem _ hq)
        · cases e
    · split at e
      · cases ho : R.opn with
        | nil => rw [ho] at e; cases e
        | cons o r =>
          rw [ho] at e op hm
          dsimp only at e
          split at e
          · cases e
          · cases e
            exact ⟨by rw [List.length_set, List.length_set]; exact len, by rw [List.length_cons] at op; show r.length ≤ 16; omega, fun q hq => hm q (List.mem_cons_of_mem _ hq)⟩
      · split at e
        · cases ho : R.opn with
          | nil => rw [ho] at e; cases e
          | cons o r =>
            rw [ho] at e op hm
            dsimp only at e
            split at e
            · cases e
              exact ⟨by rw [List.length_set, List.length_set]; exact len, by rw [List.length_cons] at op; show r.length ≤ 16; omega, fun q hq => hm q (List.mem_cons_of_mem _ hq)⟩
            · cases e
        · cases e
          exact ⟨by rw [List.length_set]; exact len, op, hm⟩
def nst (w0 w' : World) (F : List HP) (e : Ending) : Option (List Int × Nat) → Prop
  | some r => ∃ v, e = .returned (.tuple #[v, .int .i64 (r.2 : Int), .int .i64 0]) ∧ Sep w0 w' (Row I64 3 v r.1 :: F)
  | none => e = .returned (.tuple #[.slice none 0 0, .int .i64 (-1), .int .i64 13]) ∧ Sep w0 w' F
def contR (sg : List Int) (i : Nat) (t : List Int) : Option RS → Option RS
  | none => none
  | some R => NestP.runR sg i t R
theorem runR_step (sg : List Int) (i : Nat) (s : Int) (t : List Int) (R : RS) : NestP.runR sg i (s :: t) R = contR sg (i + 1) t (tokR sg i s R) := by
  unfold contR
  rw [NestP.runR]
  cases tokR sg i s R <;> rfl
def endR (sg : List Int) : Option RS → Option (List Int × Nat)
  | some m => if m.opn = [] then (secR sg sg.length 0 m.tt).map (fun t => (t, m.deep)) else none
  | none => none
theorem nestR_def (sg : List Int) : nestR sg = endR sg (NestP.runR sg 0 sg ⟨List.replicate sg.length 0, [], 0⟩) := by
  unfold nestR endR
  cases NestP.runR sg 0 sg ⟨List.replicate sg.length 0, [], 0⟩ <;> rfl
theorem tokR_open (sg : List Int) (i : Nat) (s : Int) (R : RS) (h : s = 63 ∨ s = 91) : tokR sg i s R = if R.opn.length < 16 then some ⟨R.tt.set i (-1), i :: R.opn, max R.deep (R.opn.length + 1)⟩ else none := by
  unfold tokR
  rw [if_pos h]
theorem tokR_58 (sg : List Int) (i : Nat) (R : RS) : tokR sg i 58 R = match R.opn with
    | o :: r => if sg.getD o 0 = 63 then some ⟨(R.tt.set i (-1)).set o ((i : Int) + 1), i :: r, R.deep⟩ else none
    | [] => none := by
  unfold tokR
  rw [if_neg (by decide), if_pos rfl]
  cases R.opn <;> rfl
theorem tokR_59 (sg : List Int) (i : Nat) (R : RS) : tokR sg i 59 R = match R.opn with
    | o :: r => if sg.getD o 0 = 91 then none else some ⟨(R.tt.set i (-1)).set o (i : Int), r, R.deep⟩
    | [] => none := by
  unfold tokR
  rw [if_neg (by decide), if_neg (by decide), if_pos rfl]
  cases R.opn <;> rfl
theorem tokR_93 (sg : List Int) (i : Nat) (R : RS) : tokR sg i 93 R = match R.opn with
    | o :: r => if sg.getD o 0 = 91 then some ⟨(R.tt.set i (-1)).set i (o : Int), r, R.deep⟩ else none
    | [] => none := by
  unfold tokR
  rw [if_neg (by decide), if_neg (by decide), if_neg (by decide), if_pos rfl]
  cases R.opn <;> rfl
theorem tokR_else (sg : List Int) (i : Nat) (s : Int) (R : RS) (h1 : ¬ s = 63) (h2 : ¬ s = 91) (h3 : ¬ s = 58) (h4 : ¬ s = 59) (h5 : ¬ s = 93) : tokR sg i s R = some ⟨R.tt.set i (-1), R.opn, R.deep⟩ := by
  unfold tokR
  rw [if_neg (by omega), if_neg h3, if_neg h4, if_neg h5]
section
variable {w0 W : World} {F : List HP}
theorem top_at {w : World} {gt n c2 N : Nat} {ca : Nat} {vo : Value} {ad : Addr} {l : List Tok} {tt : List Int} {o : Nat} {r : List Nat} (hC : TC w (some ad) n l) (hS : Sep w0 w (Row I64 3 (.slice (some ⟨gt, 0, none⟩) n c2) tt :: Row I64 3 vo (opL (o :: r)) :: F)) (ho : o < n) :
    ∃ go co so, vo = .slice (some ⟨go, 0, none⟩) (r.length + 1) co ∧ r.length + 1 ≤ co ∧ (sgn l).getD o 0 = so ∧ w.cell? (ad.add (o * 3)) = some (.int .i32 so) ∧ w.cell? ⟨go, r.length, none⟩ = some (.int .i64 (o : Int)) := by
  obtain ⟨go, co, rfl⟩ := hS.tail.rowFormN (n := r.length + 1) (by rw [opL_len]; rfl) (by omega)
  obtain ⟨g1, g2⟩ := hS.tail.rowCell (0 : Int) r.length (by omega)
  rw [opL_top] at g1
  obtain ⟨a, t, ha, ht, d0, d1, d2⟩ := hC.at_ ho
  cases ha
  exact ⟨go, co, t.sign, rfl, hS.tail.rowC.2.1, sgn_at ht, d0, g1⟩
end
end Go.Proofs.Ytkkgfpdjlohojaa.NestR
namespace Go.Proofs.Ytkkgfpdjlohojaa.NestR
open Go.RowKit Go.Proofs.YtkkgfpdjlohojaaW.PrintWords Go.Proofs.YtkkgfpdjlohojaaW.PrintLast Go.Proofs.YtkkgfpdjlohojaaW.PrintMore Go.Proofs.Ytkkgfpdjlohojaa.Kit
open Go.Proofs.Ytkkgfpdjlohojaa.NestP Go.Proofs.Ytkkgfpdjlohojaa.TokP Go.Proofs.Ytkkgfpdjlohojaa.Tok
section
variable {w0 W : World} {F : List HP}
set_option maxHeartbeats 6400000 in
set_option maxRecDepth 100000 in
theorem nest_ {A : Option Addr} {n c : Nat} {l : List Tok} (hC : ∀ W', Sep w0 W' F → TC W' A n l) (h : Sep w0 W F) (hn : n ≤ 1000000) :
    Calls Try.prog 15 #[.slice A n c] W fun e w' => nst w0 w' F e (nestR (sgn l)) := by
  have hll := (hC W h).len
  have hsl : (sgn l).length = n := by unfold sgn; rw [List.length_map]; exact hll
  have hmk : ∀ W : World, (Instr.makeSlice 22 (.int .i64 (n : Int)) (.int .i64 (n : Int))).run Try.prog W = .ok (.slice (some ⟨W.heap.size, 0, none⟩) n n) (W.alloc (.cells (madeCells #[.int .i64 0] n) 3)) := by
    intro W
    exact print_make (P := Try.prog) 22 3 .i64 8 Try.underlying22 infoInt (by decide) n (by omega) W
  have S2 := h.madeRow (h1 := fun _ => rfl) (e := 3) (enc := Value.int .i64) 0 n (by omega)
  have H2 : Aside0 (Sep w0 (W.alloc (.cells (madeCells #[.int .i64 0] n) 3)) (Row I64 3 (.slice (some ⟨W.heap.size, 0, none⟩) n n) (List.replicate n 0) :: Row I64 3 (.slice none 0 0) (opL []) :: F)) := ⟨(S2.nilRow I64 3).at2⟩
  have HL := Aside0.mk (And.intro hll hsl)
  have HC := Aside0.mk hC
  clear h S2 hC hll hsl
  obtain ⟨M0, hM0⟩ : ∃ M0 : RS, (⟨List.replicate n 0, [], 0⟩ : RS) = M0 := ⟨_, rfl⟩
  have HM0 := Aside0.mk hM0
  have HRB : Aside0 (RB 0 n M0) := ⟨by rw [← hM0]; exact ⟨by simp, Nat.zero_le _, fun p hp => by cases hp⟩⟩
  have HMt : Aside0 (M0.tt = List.replicate n 0 ∧ M0.opn = [] ∧ M0.deep = 0) := ⟨by rw [← hM0]; exact ⟨rfl, rfl, rfl⟩⟩
  have HN : Aside0 (nestR (sgn l) = endR (sgn l) (NestP.runR (sgn l) 0 (sgn l) M0)) := ⟨by rw [nestR_def, HL.out.2, hM0]⟩
  clear hM0
  go_enter Try.func15, Try.ntmps15
  go_wp2_with fail
  obtain ⟨w2, hw2⟩ : ∃ x, W.alloc (.cells (madeCells #[Value.int .i64 0] n) 3) = x := ⟨_, rfl⟩
  rw [hw2] at H2 ⊢
  obtain ⟨gt, hgt⟩ : ∃ gt, W.heap.size = gt := ⟨_, rfl⟩
  rw [hgt] at H2 ⊢
  clear hw2 hgt
  go_loopg [6, 7, 15] n (fun m vo dp q wr => ∃ (i : Nat) (R : RS), i + m = n ∧ q = .int .i64 (i : Int) ∧ dp = .int .i64 (R.deep : Int) ∧ NestP.runR (sgn l) 0 (sgn l) M0 = NestP.runR (sgn l) i ((sgn l).drop i) R ∧ RB i n R ∧ Sep w0 wr (Row I64 3 (.slice (some ⟨gt, 0, none⟩) n n) R.tt :: Row I64 3 vo (opL R.opn) :: F))
  case atStart => exact ⟨0, M0, by omega, rfl, by rw [HMt.out.2.2]; rfl, rfl, HRB.out, by rw [HMt.out.1, HMt.out.2.1]; exact H2.out⟩
  case round =>
    obtain ⟨i, R, him, rfl, rfl, hrun, hrb, hS⟩ := hrel
    have AK := Aside0.mk him
    have HR := Aside0.mk hrb
    have HU := Aside0.mk hrun
    by_cases hi : i < n
    · obtain ⟨f1, f2⟩ := hS.rowCell (0 : Int) i hi
      have B1 := Aside0.mk (hS.putRow (enc := Value.int .i64) i (-1))
      have HI := Aside0.mk hi
      have hij : (i : Int) < (n : Int) := by omega
      clear hS hrun hrb him
      go_upto_region 8 with fail
      obtain ⟨w1, hw1⟩ : ∃ x, wr.setCell ⟨gt, i, none⟩ (.int .i64 (-1)) = x := ⟨_, rfl⟩
      rw [hw1] at B1 ⊢
      clear hw1 f1 f2
      have hCw := HC.out _ B1.out.tail.tail
      obtain ⟨ad, t, rfl, ht, d0, d1, d2⟩ := hCw.at_ hi
      have HCW := Aside0.mk hCw
      have hdrop : (sgn l).drop i = t.sign :: (sgn l).drop (i + 1) := by
        have hil : i < (sgn l).length := by rw [HL.out.2]; exact hi
        rw [List.drop_eq_getElem_cons hil]
        congr 1
        have h8 : (sgn l)[i]? = some t.sign := by unfold sgn; rw [List.getElem?_map, ht]; rfl
        rw [List.getElem?_eq_getElem hil] at h8
        exact Option.some.inj h8
      have HR2 : Aside0 (NestP.runR (sgn l) 0 (sgn l) M0 = contR (sgn l) (i + 1) ((sgn l).drop (i + 1)) (tokR (sgn l) i t.sign R)) := ⟨by rw [HU.out, hdrop, runR_step]⟩
      obtain ⟨s, hs⟩ : ∃ s, t.sign = s := ⟨_, rfl⟩
      rw [hs] at d0 HR2
      clear hCw hdrop ht d1 d2 hs
      obtain ⟨T1, hT1⟩ : ∃ T1, R.tt.set i (-1) = T1 := ⟨_, rfl⟩
      rw [hT1] at B1
      have HT1 : Aside0 (R.tt.set i (-1) = T1 ∧ T1.length = n) := ⟨hT1, by rw [← hT1, List.length_set]; exact HR.out.len⟩
      clear hT1
      by_cases h1 : s = 63 ∨ s = 91
      · have htk := tokR_open (sgn l) i s R h1
        rw [HT1.out.1] at htk
        obtain ⟨A6, c6, rfl⟩ := B1.out.tail.rowN (n := R.opn.length) (opL_len _)
        have L := Aside0.mk (B1.out.at2.litRow (enc := Value.int .i64) (h1 := fun _ => rfl) (e := 3) [(i : Int)] (by simp)).at2
        obtain ⟨N, hN⟩ : ∃ N, R.opn.length = N := ⟨_, rfl⟩
        rw [hN] at L htk
        obtain ⟨dp, hdp⟩ : ∃ dp, R.deep = dp := ⟨_, rfl⟩
        rw [hdp] at htk ⊢
        obtain ⟨M, hM⟩ : ∃ M, max dp (N + 1) = M := ⟨_, rfl⟩
        rw [hM] at htk
        have hmx : (if (dp : Int) < (N : Int) + 1 then (N : Int) + 1 else (dp : Int)) = (M : Int) := by split <;> omega
        have hN16 : N ≤ 16 := by rw [← hN]; exact HR.out.op
        have HTK := Aside0.mk htk
        have HNN := Aside0.mk (And.intro hN hN16)
        rw [hN]
        clear htk hN hM hdp
        by_cases h16 : N < 16
        · rw [if_pos h16] at HTK
          have hd : decide (16 < (N : Int) + 1) = false := decide_eq_false (by omega)
          have HOP : Aside0 (R.opn.length = N) := ⟨HNN.out.1⟩
          rcases h1 with rfl | rfl
          all_goals
            go_wp2_with (first | (refine gate_builtin (b := .append) (xs := #[.tmp 29, .tmp 31]) rfl ?_; go_loud (refine L.out.appendRow rfl (.tmp 29) (.tmp 31) 22 (.int .i64 0) 8 rfl Try.underlying22 infoInt rfl (by decide) (some ⟨w1.heap.size, 0, none⟩) 1 1 rfl rfl L.out.at2.rowC.2.2 (by rw [opL_len, HNN.out.1]; have := HNN.out.2; simp; omega) ?_; intro v7 w7 hS7; obtain ⟨A7, c7, rfl⟩ := hS7.rowN (n := N + 1) (by rw [List.length_append, opL_len, HNN.out.1]; rfl); have B7 := Aside0.mk hS7.at2.tail.at2; clear hS7)))
            go_roundg (gk - 1)
            case measure => have := AK.out; omega
            case rel => exact ⟨i + 1, ⟨T1, i :: R.opn, M⟩, by have := AK.out; omega, by go_num, rfl, by rw [HR2.out, HTK.out]; rfl, HR.out.tok HTK.out, by rw [opL_cons]; exact B7.out⟩
        · rw [if_neg h16] at HTK
          have hd : decide (16 < (N : Int) + 1) = true := decide_eq_true (by omega)
          rcases h1 with rfl | rfl
          all_goals
            go_wp2_with (first | (refine gate_builtin (b := .append) (xs := #[.tmp 29, .tmp 31]) rfl ?_; go_loud (refine L.out.appendRow rfl (.tmp 29) (.tmp 31) 22 (.int .i64 0) 8 rfl Try.underlying22 infoInt rfl (by decide) (some ⟨w1.heap.size, 0, none⟩) 1 1 rfl rfl L.out.at2.rowC.2.2 (by rw [opL_len, HNN.out.1]; have := HNN.out.2; simp; omega) ?_; intro v7 w7 hS7; obtain ⟨A7, c7, rfl⟩ := hS7.rowN (n := N + 1) (by rw [List.length_append, opL_len, HNN.out.1]; rfl); have B7 := Aside0.mk hS7.at2.tail.at2; clear hS7)))
            go_ret3
            rw [HN.out, HR2.out, HTK.out]
            exact ⟨by first | rfl | (simp; done), B7.out.tail.tail⟩
      · by_cases h2 : s = 58
        · subst h2
          clear h1
          have htk := tokR_58 (sgn l) i R
          rw [HT1.out.1] at htk
          cases ho : R.opn with
          | nil =>
            rw [ho] at htk B1
            obtain ⟨A6, c6, rfl⟩ := B1.out.tail.rowN (n := 0) rfl
            have HTK := Aside0.mk htk
            clear htk
            have HO := Aside0.mk ho
            clear ho
            go_wp2_with fail
            go_ret3
            rw [HN.out, HR2.out, HTK.out]
            exact ⟨by first | rfl | (simp; done), B1.out.tail.tail⟩
          | cons o r =>
            rw [ho] at htk B1
            dsimp only at htk
            have hol : o < n := by have := HR.out.lt o (by rw [ho]; exact List.mem_cons_self ..); omega
            obtain ⟨go, co, so, rfl, hco, hso, e1, e2⟩ := top_at (ca := 0) (N := 0) HCW.out B1.out hol
            rw [hso] at htk
            obtain ⟨N, hN⟩ : ∃ N, r.length + 1 = N := ⟨_, rfl⟩
            have hr16 : N ≤ 16 := by rw [← hN]; have := HR.out.op; rw [ho] at this; exact this
            have hw : wrap64 ((N : Int) - 1) = (r.length : Int) := by rw [IntWalk.wrap64_in _ (by omega)]; omega
            have hz : ¬ (N : Int) = 0 := by omega
            have hz2 : ¬ N = 0 := by omega
            have hN1 : N - 1 = r.length := by omega
            have hzb : ((N : Int) == 0) = false := by rw [beq_eq_false_iff_ne]; omega
            have hrN : (r.length : Int) < (N : Int) := by omega
            have honn : (o : Int) < (n : Int) := by omega
            have HNN := Aside0.mk hN
            have HO := Aside0.mk ho
            have HOL := Aside0.mk hol
            rw [hN] at B1 hco ⊢
            clear ho hN hol hso
            by_cases h63 : so = 63
            · rw [if_pos h63] at htk
              subst h63
              have HTK := Aside0.mk htk
              obtain ⟨f1, f2⟩ := B1.out.rowCell (0 : Int) o HOL.out
              have B3 := Aside0.mk (B1.out.putRow (enc := Value.int .i64) o ((i : Int) + 1))
              have hwi : wrap64 ((i : Int) + 1) = (i : Int) + 1 := IntWalk.wrap64_in _ (by omega)
              clear htk
              go_upto_region 19 with fail
              obtain ⟨w3, hw3⟩ : ∃ x, w1.setCell ⟨gt, o, none⟩ (.int .i64 ((i : Int) + 1)) = x := ⟨_, rfl⟩
              rw [hw3] at B3 ⊢
              clear hw3 f1 f2 e1 e2
              obtain ⟨g1, g2⟩ := B3.out.tail.rowCell (0 : Int) r.length (by have := HNN.out; omega)
              have B4 := Aside0.mk (B3.out.at2.putRow (enc := Value.int .i64) r.length (i : Int))
              go_wp2_with fail
              go_roundg (gk - 1)
              case measure => have := AK.out; omega
              case rel => exact ⟨i + 1, ⟨T1.set o ((i : Int) + 1), i :: r, R.deep⟩, by have := AK.out; omega, by go_num, rfl, by rw [HR2.out, HTK.out]; rfl, HR.out.tok HTK.out, by rw [← opL_set o i r]; exact B4.out.at2⟩
            · rw [if_neg h63] at htk
              have hb63 : (so != 63) = true := by simp [h63]
              have HTK := Aside0.mk htk
              clear htk
              go_wp2_with fail
              go_ret3
              rw [HN.out, HR2.out, HTK.out]
              exact ⟨by first | rfl | (simp; done), B1.out.tail.tail⟩
        · by_cases h3 : s = 59
          · subst h3
            clear h1 h2
            have htk := tokR_59 (sgn l) i R
            rw [HT1.out.1] at htk
            cases ho : R.opn with
            | nil =>
              rw [ho] at htk B1
              obtain ⟨A6, c6, rfl⟩ := B1.out.tail.rowN (n := 0) rfl
              have HTK := Aside0.mk htk
              clear htk
              have HO := Aside0.mk ho
              clear ho
              go_wp2_with fail
              go_ret3
              rw [HN.out, HR2.out, HTK.out]
              exact ⟨by first | rfl | (simp; done), B1.out.tail.tail⟩
            | cons o r =>
              rw [ho] at htk B1
              dsimp only at htk
              have hol : o < n := by have := HR.out.lt o (by rw [ho]; exact List.mem_cons_self ..); omega
              obtain ⟨go, co, so, rfl, hco, hso, e1, e2⟩ := top_at (ca := 0) (N := 0) HCW.out B1.out hol
              rw [hso] at htk
              obtain ⟨N, hN⟩ : ∃ N, r.length + 1 = N := ⟨_, rfl⟩
              have hr16 : N ≤ 16 := by rw [← hN]; have := HR.out.op; rw [ho] at this; exact this
              have hw : wrap64 ((N : Int) - 1) = (r.length : Int) := by rw [IntWalk.wrap64_in _ (by omega)]; omega
              have hz : ¬ (N : Int) = 0 := by omega
              have hz2 : ¬ N = 0 := by omega
              have hN1 : N - 1 = r.length := by omega
              have hzb : ((N : Int) == 0) = false := by rw [beq_eq_false_iff_ne]; omega
              have hrN : (r.length : Int) < (N : Int) := by omega
              have honn : (o : Int) < (n : Int) := by omega
              have HNN := Aside0.mk hN
              have HO := Aside0.mk ho
              have HOL := Aside0.mk hol
              rw [hN] at B1 hco ⊢
              clear ho hN hol hso
              by_cases h91 : so = 91
              · rw [if_pos h91] at htk
                subst h91
                have HTK := Aside0.mk htk
                clear htk
                go_wp2_with fail
                go_ret3
                rw [HN.out, HR2.out, HTK.out]
                exact ⟨by first | rfl | (simp; done), B1.out.tail.tail⟩
              · rw [if_neg h91] at htk
                have hb91 : (so == 91) = false := by simp [h91]
                have HTK := Aside0.mk htk
                obtain ⟨f1, f2⟩ := B1.out.rowCell (0 : Int) o HOL.out
                have B3 := Aside0.mk (B1.out.putRow (enc := Value.int .i64) o (i : Int))
                have hcut := cutHi (z := (.int .i64 0)) (sz := 1) (bytes := 8) Try.underlying22 infoInt (some ⟨go, 0, none⟩) N co r.length (K := (r.length : Int)) rfl (by omega) hco
                clear htk
                go_wp2_with fail
                go_roundg (gk - 1)
                case measure => have := AK.out; omega
                case rel => exact ⟨i + 1, ⟨T1.set o (i : Int), r, R.deep⟩, by have := AK.out; omega, by go_num, rfl, by rw [HR2.out, HTK.out]; rfl, HR.out.tok HTK.out, by have h9 := (Sep.rowTake (m := r.length) B3.out.at2 (by rw [opL_len]; simp)).at2; rw [opL_take] at h9; exact h9⟩
          · by_cases h4 : s = 93
            · subst h4
              clear h1 h2 h3
              have htk := tokR_93 (sgn l) i R
              rw [HT1.out.1] at htk
              cases ho : R.opn with
              | nil =>
                rw [ho] at htk B1
                obtain ⟨A6, c6, rfl⟩ := B1.out.tail.rowN (n := 0) rfl
                have HTK := Aside0.mk htk
                clear htk
                have HO := Aside0.mk ho
                clear ho
                go_wp2_with fail
                go_ret3
                rw [HN.out, HR2.out, HTK.out]
                exact ⟨by first | rfl | (simp; done), B1.out.tail.tail⟩
              | cons o r =>
                rw [ho] at htk B1
                dsimp only at htk
                have hol : o < n := by have := HR.out.lt o (by rw [ho]; exact List.mem_cons_self ..); omega
                obtain ⟨go, co, so, rfl, hco, hso, e1, e2⟩ := top_at (ca := 0) (N := 0) HCW.out B1.out hol
                rw [hso] at htk
                obtain ⟨N, hN⟩ : ∃ N, r.length + 1 = N := ⟨_, rfl⟩
                have hr16 : N ≤ 16 := by rw [← hN]; have := HR.out.op; rw [ho] at this; exact this
                have hw : wrap64 ((N : Int) - 1) = (r.length : Int) := by rw [IntWalk.wrap64_in _ (by omega)]; omega
                have hz : ¬ (N : Int) = 0 := by omega
                have hz2 : ¬ N = 0 := by omega
                have hN1 : N - 1 = r.length := by omega
                have hzb : ((N : Int) == 0) = false := by rw [beq_eq_false_iff_ne]; omega
                have hrN : (r.length : Int) < (N : Int) := by omega
                have honn : (o : Int) < (n : Int) := by omega
                have HNN := Aside0.mk hN
                have HO := Aside0.mk ho
                have HOL := Aside0.mk hol
                rw [hN] at B1 hco ⊢
                clear ho hN hol hso
                by_cases h91 : so = 91
                · rw [if_pos h91] at htk
                  subst h91
                  have HTK := Aside0.mk htk
                  obtain ⟨f1, f2⟩ := B1.out.rowCell (0 : Int) i HI.out
                  have B3 := Aside0.mk (B1.out.putRow (enc := Value.int .i64) i (o : Int))
                  have hcut := cutHi (z := (.int .i64 0)) (sz := 1) (bytes := 8) Try.underlying22 infoInt (some ⟨go, 0, none⟩) N co r.length (K := (r.length : Int)) rfl (by omega) hco
                  clear htk
                  go_wp2_with fail
                  go_roundg (gk - 1)
                  case measure => have := AK.out; omega
                  case rel => exact ⟨i + 1, ⟨T1.set i (o : Int), r, R.deep⟩, by have := AK.out; omega, by go_num, rfl, by rw [HR2.out, HTK.out]; rfl, HR.out.tok HTK.out, by have h9 := (Sep.rowTake (m := r.length) B3.out.at2 (by rw [opL_len]; simp)).at2; rw [opL_take] at h9; exact h9⟩
                · rw [if_neg h91] at htk
                  have hb91 : (so != 91) = true := by simp [h91]
                  have HTK := Aside0.mk htk
                  clear htk
                  go_wp2_with fail
                  go_ret3
                  rw [HN.out, HR2.out, HTK.out]
                  exact ⟨by first | rfl | (simp; done), B1.out.tail.tail⟩
            · have htk := tokR_else (sgn l) i s R (fun hq => h1 (.inl hq)) (fun hq => h1 (.inr hq)) h2 h3 h4
              rw [HT1.out.1] at htk
              have h1a : ¬ s = 63 := fun hq => h1 (.inl hq)
              have h1b : ¬ s = 91 := fun hq => h1 (.inr hq)
              have HTK := Aside0.mk htk
              clear htk h1
              go_wp2_with fail
              go_roundg (gk - 1)
              case measure => have := AK.out; omega
              case rel => exact ⟨i + 1, ⟨T1, R.opn, R.deep⟩, by have := AK.out; omega, by go_num, rfl, by rw [HR2.out, HTK.out]; rfl, HR.out.tok HTK.out, B1.out⟩
    · have hin : i = n := by omega
      subst hin
      have hrun2 : NestP.runR (sgn l) 0 (sgn l) M0 = some R := by rw [hrun, List.drop_of_length_le (by rw [HL.out.2]; exact Nat.le_refl _)]; rfl
      have HE : Aside0 (nestR (sgn l) = endR (sgn l) (some R)) := ⟨by rw [HN.out, hrun2]⟩
      obtain ⟨A6, c6, rfl⟩ := hS.tail.rowN (n := R.opn.length) (opL_len _)
      obtain ⟨N, hN⟩ : ∃ N, R.opn.length = N := ⟨_, rfl⟩
      rw [hN] at hS ⊢
      have HNN := Aside0.mk hN
      have B1 := Aside0.mk hS
      clear hS hrun hrb him hrun2 hi hN
      by_cases h0 : N = 0
      · subst h0
        have hop : R.opn = [] := List.eq_nil_of_length_eq_zero HNN.out
        have HE2 : Aside0 (nestR (sgn l) = (secR (sgn l) i 0 R.tt).map (fun t => (t, R.deep))) := ⟨by rw [HE.out]; show (if R.opn = [] then _ else _) = _; rw [if_pos hop, HL.out.2]⟩
        obtain ⟨dp, hdp⟩ : ∃ dp, R.deep = dp := ⟨_, rfl⟩
        obtain ⟨T, hT⟩ : ∃ T, R.tt = T := ⟨_, rfl⟩
        have HT : Aside0 (T.length = i) := ⟨by rw [← hT]; exact HR.out.len⟩
        rw [hdp] at HE2 ⊢
        rw [hT] at HE2 B1
        clear hdp hT hop
        go_wp2_with fail
        go_loopg [144] i (fun m q wx => ∃ (j : Nat) (tt : List Int), j + m = i ∧ q = .int .i64 (j : Int) ∧ secR (sgn l) i 0 T = secR (sgn l) m j tt ∧ tt.length = i ∧ Sep w0 wx (Row I64 3 (.slice (some ⟨gt, 0, none⟩) i i) tt :: F))
        case atStart => exact ⟨0, T, by omega, rfl, rfl, HT.out, B1.out.drop2⟩
        case round =>
          obtain ⟨j, tt, hjm, rfl, hsec, htl, hS⟩ := hrel
          have AJ := Aside0.mk hjm
          have HS := Aside0.mk hsec
          have HTL := Aside0.mk htl
          have B2 := Aside0.mk hS
          clear hsec htl
          by_cases hj : j < i
          · have hCw := HC.out _ hS.tail
            obtain ⟨ad, t, rfl, ht, d0, d1, d2⟩ := hCw.at_ hj
            have HCW := Aside0.mk hCw
            have hst := sgn_at ht
            obtain ⟨s, hs⟩ : ∃ s, t.sign = s := ⟨_, rfl⟩
            rw [hs] at d0 hst
            have HST := Aside0.mk hst
            obtain ⟨k, rfl⟩ : ∃ k, gk = k + 1 := ⟨gk - 1, by omega⟩
            have hji : (j : Int) < (i : Int) := by omega
            have HJ := Aside0.mk hj
            obtain ⟨f1, f2⟩ := hS.rowCell (0 : Int) j hj
            have HIB := Aside0.mk hS.rowC'
            clear hCw ht d1 d2 hst hs hS hjm
            by_cases h126 : s = 126
            · subst h126
              obtain ⟨x, hx⟩ : ∃ x, leavesF (sgn l) tt j (i - j) j = x := ⟨_, rfl⟩
              have HX := Aside0.mk hx
              have B3 := Aside0.mk (B2.out.putRow (enc := Value.int .i64) j x)
              have g1 := (B3.out.rowCell (0 : Int) j (by have := HJ.out; omega)).1
              have g2 : (tt.set j x).getD j 0 = x := by rw [NestP.getD_set, if_pos ⟨rfl, by rw [HTL.out]; exact HJ.out⟩]
              rw [g2] at g1
              clear hx g2
              by_cases hx0 : x < 0
              · have hd : decide (x < 0) = true := decide_eq_true hx0
                have hr : secR (sgn l) (k + 1) j tt = none := by
                  rw [secR, if_pos HST.out, HL.out.2, HX.out, if_pos hx0]
                have HRR := Aside0.mk hr
                clear hr
                go_wp2_with (go_at_call 29; refine (leaves_ HCW.out HIB.out j (Nat.le_of_lt HJ.out)).mono ?_; rintro e w5 ⟨rfl, rfl⟩; rw [HX.out])
                go_ret3
                rw [HE2.out, HS.out, HRR.out]
                exact ⟨by first | rfl | (simp; done), B3.out.tail⟩
              · have hd : decide (x < 0) = false := decide_eq_false hx0
                have hr : secR (sgn l) (k + 1) j tt = secR (sgn l) k (j + 1) (tt.set j x) := by
                  rw [secR, if_pos HST.out, HL.out.2, HX.out, if_neg hx0]
                have HRR := Aside0.mk hr
                clear hr
                go_wp2_with (go_at_call 29; refine (leaves_ HCW.out HIB.out j (Nat.le_of_lt HJ.out)).mono ?_; rintro e w5 ⟨rfl, rfl⟩; rw [HX.out])
                go_roundg k
                case measure => omega
                case rel => exact ⟨j + 1, _, by have := AJ.out; omega, by go_num, by rw [HS.out, HRR.out], by rw [List.length_set]; exact HTL.out, B3.out⟩
            · have hr : secR (sgn l) (k + 1) j tt = secR (sgn l) k (j + 1) tt := by
                rw [secR, if_neg (by rw [HST.out]; exact h126)]
              have HRR := Aside0.mk hr
              clear hr
              go_wp2_with fail
              go_roundg k
              case measure => omega
              case rel => exact ⟨j + 1, tt, by have := AJ.out; omega, by go_num, by rw [HS.out, HRR.out], HTL.out, B2.out⟩
          · obtain rfl : gk = 0 := by omega
            have hr : secR (sgn l) 0 j tt = some tt := rfl
            have HRR := Aside0.mk hr
            clear hr hS
            go_wp2_with fail
            go_ret3
            rw [HE2.out, HS.out, HRR.out]
            exact ⟨_, by first | rfl | (simp; done), B2.out⟩
      · have HE2 : Aside0 (nestR (sgn l) = none) := ⟨by rw [HE.out]; show (if R.opn = [] then _ else _) = _; rw [if_neg (fun hq => h0 (by rw [← HNN.out, hq]; rfl))]⟩
        have hd : decide (0 < (N : Int)) = true := decide_eq_true (by omega)
        have hd2 : decide (0 < N) = true := decide_eq_true (by omega)
        go_wp2_with fail
        go_ret3
        rw [HE2.out]
        exact ⟨by first | rfl | (simp; done), B1.out.tail.tail⟩
end
end Go.Proofs.Ytkkgfpdjlohojaa.NestR
namespace Go.Proofs.Ytkkgfpdjlohojaa.Fn
open Go.RowKit Go.Proofs.YtkkgfpdjlohojaaW.PrintWords Go.Proofs.YtkkgfpdjlohojaaW.PrintLast Go.Proofs.YtkkgfpdjlohojaaW.PrintMore Go.Proofs.Ytkkgfpdjlohojaa.Kit
open Go.Proofs.Ytkkgfpdjlohojaa.TokP Go.Proofs.Ytkkgfpdjlohojaa.Tok
structure Fnc where
  name : Int
  args : Int
  code : ByteArray
def cellF (f : Fnc) : List Value := [.int .i32 f.name, .int .i64 f.args, .string f.code]
def FC (W : World) (A : Option Addr) (n : Nat) (l : List Fnc) : Prop := (Kd.raw 3).C W A n (l.map cellF)
theorem FC.len {W : World} {A : Option Addr} {n : Nat} {l : List Fnc} (h : FC W A n l) : l.length = n := by
  have := h.1
  rwa [List.length_map] at this
theorem FC.lt {W : World} {A : Option Addr} {n : Nat} {l : List Fnc} (h : FC W A n l) : n ≤ 9223372036854775807 := h.2.1
theorem FC.at_ {W : World} {A : Option Addr} {n : Nat} {l : List Fnc} (h : FC W A n l) {i : Nat} (hi : i < n) :
    ∃ (a : Addr) (f : Fnc), A = some a ∧ l[i]? = some f ∧ W.cell? (a.add (i * 3)) = some (.int .i32 f.name) ∧ W.cell? ⟨(a.add (i * 3)).block, (a.add (i * 3)).off + 1, none⟩ = some (.int .i64 f.args) ∧ W.cell? ⟨(a.add (i * 3)).block, (a.add (i * 3)).off + 2, none⟩ = some (.string f.code) := by
  obtain ⟨hx, a, cs, ha, hK, h0, hj⟩ := elem_ h hi
  have hl : i < l.length := by rw [h.len]; exact hi
  have hK1 : cs = (l.map cellF)[i] := hK.1
  rw [List.getElem_map] at hK1
  subst hK1
  exact ⟨a, l[i], ha, List.getElem?_eq_getElem hl, h0 _ rfl, hj 1 _ (by decide) rfl, hj 2 _ (by decide) rfl⟩
abbrev uV (pg mo : Int) (A : Option Addr) (n c : Nat) : Value := .agg #[.int .i64 pg, .int .i64 mo, .slice A n c]
abbrev uB (gu : Nat) (pg mo : Int) (A : Option Addr) (n c : Nat) : HP := Blk gu 30 #[.int .i64 pg, .int .i64 mo, .slice A n c]
def RetT (e : Ending) : Prop := ∃ (a b : Int) (c : Bool), e = .returned (.tuple #[.int .i64 a, .int .i64 b, .bool c])
section
variable {w0 W : World} {F : List HP} {pg mo : Int} {A : Option Addr} {n c : Nat} {fs : List Fnc}
set_option maxHeartbeats 1600000 in
set_option maxRecDepth 100000 in
theorem find_ (hC : ∀ W', Sep w0 W' F → FC W' A n fs) (h : Sep w0 W F) (nm : Int) :
    Calls Try.prog 45 #[uV pg mo A n c, .int .i32 nm] W fun e w' => ∃ k : Int, e = .returned (.int .i64 k) ∧ (-1 ≤ k ∧ k < n) ∧ Sep w0 w' F := by
  have hnm : n ≤ 9223372036854775807 := (hC W h).lt
  have H1 := Aside0.mk (h.newBlk 30 #[.int .i64 pg, .int .i64 mo, .slice A n c])
  have HC := Aside0.mk hC
  clear h hC
  go_enter Try.func45, Try.ntmps45
  go_wp2_with fail
  obtain ⟨w1, hw1⟩ : ∃ x, W.alloc (.cells #[.int .i64 pg, .int .i64 mo, .slice A n c] 30) = x := ⟨_, rfl⟩
  obtain ⟨gu, hgu⟩ : ∃ x, W.heap.size = x := ⟨_, rfl⟩
  rw [hw1, hgu] at H1
  rw [hw1, hgu]
  clear hw1 hgu
  go_loopg [9] n (fun m q wr => ∃ i : Nat, i + m = n ∧ q = .int .i64 (i : Int) ∧ Sep w0 wr (uB gu pg mo A n c :: F))
  case atStart => exact ⟨0, by omega, rfl, H1.out⟩
  case round =>
    obtain ⟨i, him, rfl, hS⟩ := hrel
    have AK := Aside0.mk him
    have B1 := Aside0.mk hS
    by_cases hi : i < n
    · obtain ⟨ad, f, rfl, hf, d0, d1, d2⟩ := (HC.out _ hS.tail).at_ hi
      have u2 : wr.cell? ⟨gu, 2, none⟩ = some (.slice (some ad) n c) := (hS.cell 2).trans rfl
      have hij : (i : Int) < (n : Int) := by omega
      clear hS him hf d1 d2
      by_cases hx : f.name = nm
      · have hb : (f.name == nm) = true := by simp [hx]
        go_wp2_with fail
        go_ret
        exact ⟨_, by first | rfl | (simp; done), ⟨by omega, by omega⟩, B1.out.tail⟩
      · have hb : (f.name == nm) = false := by simp [hx]
        go_wp2_with fail
        go_roundg (gk - 1)
        case measure => have := AK.out; omega
        case rel => exact ⟨i + 1, by have := AK.out; omega, by go_num, B1.out⟩
    · have hij : ¬ (i : Int) < (n : Int) := by omega
      clear hS him
      go_wp2_with fail
      go_ret
      exact ⟨_, by first | rfl | (simp; done), ⟨by omega, by omega⟩, B1.out.tail⟩
set_option maxHeartbeats 12800000 in
set_option maxRecDepth 100000 in
theorem takes_ (hC : ∀ W', Sep w0 W' F → FC W' A n fs) (h : Sep w0 W F) (r N nm : Int) :
    Calls Try.prog 36 #[uV pg mo A n c, .agg #[.int .i32 r, .int .i64 N, .int .i32 nm]] W fun e w' => RetT e ∧ Sep w0 w' F := by
  have hnm : n ≤ 9223372036854775807 := (hC W h).lt
  have H1 := Aside0.mk ((h.newBlk 30 #[.int .i64 pg, .int .i64 mo, .slice A n c]).newBlk 42 #[.int .i32 r, .int .i64 N, .int .i32 nm])
  have HC := Aside0.mk hC
  clear h hC
  by_cases h48 : r = 48
  · subst h48
    go_enter Try.func36, Try.ntmps36
    go_wp2_with fail
    go_ret3
    exact ⟨⟨_, _, _, rfl⟩, H1.out.tail.tail⟩
  by_cases h35 : r = 35
  · subst h35
    go_enter Try.func36, Try.ntmps36
    go_wp2_with fail
    go_ret3
    exact ⟨⟨_, _, _, rfl⟩, H1.out.tail.tail⟩
  by_cases h44 : r = 44
  · subst h44
    go_enter Try.func36, Try.ntmps36
    go_wp2_with fail
    go_ret3
    exact ⟨⟨_, _, _, rfl⟩, H1.out.tail.tail⟩
  by_cases h46 : r = 46
  · subst h46
    go_enter Try.func36, Try.ntmps36
    go_wp2_with fail
    go_ret3
    exact ⟨⟨_, _, _, rfl⟩, H1.out.tail.tail⟩
  have b48 : (r == 48) = false := by simp [h48]
  have b35 : (r == 35) = false := by simp [h35]
  have b44 : (r == 44) = false := by simp [h44]
  have b46 : (r == 46) = false := by simp [h46]
  by_cases hlow : 97 ≤ r ∧ r ≤ 122
  · obtain ⟨q1, q2⟩ := hlow
    have e1 : decide (97 ≤ r) = true := decide_eq_true q1
    have e2 : decide (r ≤ 122) = true := decide_eq_true q2
    go_enter Try.func36, Try.ntmps36
    go_wp2_with fail
    go_ret3
    exact ⟨⟨_, _, _, rfl⟩, H1.out.tail.tail⟩
  by_cases hup : 65 ≤ r ∧ r ≤ 90
  · obtain ⟨q1, q2⟩ := hup
    have e1 : decide (97 ≤ r) = false := decide_eq_false (by omega)
    have e3 : decide (65 ≤ r) = true := decide_eq_true q1
    have e4 : decide (r ≤ 90) = true := decide_eq_true q2
    go_enter Try.func36, Try.ntmps36
    go_wp2_with fail
    go_ret3
    exact ⟨⟨_, _, _, rfl⟩, H1.out.tail.tail⟩
  by_cases ha : 97 ≤ r
  · have e1 : decide (97 ≤ r) = true := decide_eq_true ha
    have e2 : decide (r ≤ 122) = false := decide_eq_false (fun h => hlow ⟨ha, h⟩)
    have e3 : decide (65 ≤ r) = true := decide_eq_true (by omega)
    have e4 : decide (r ≤ 90) = false := decide_eq_false (by omega)
    go_enter Try.func36, Try.ntmps36
    go_wp2_with fail
    obtain ⟨w1, hw1⟩ : ∃ x, (W.alloc (.cells #[.int .i64 pg, .int .i64 mo, .slice A n c] 30)).alloc (.cells #[.int .i32 r, .int .i64 N, .int .i32 nm] 42) = x := ⟨_, rfl⟩
    have H2 : Aside0 (Sep w0 w1 (Blk (W.heap.size + 1) 42 #[.int .i32 r, .int .i64 N, .int .i32 nm] :: uB W.heap.size pg mo A n c :: F)) := ⟨by rw [← hw1]; have h9 := H1.out; rw [NestR.alloc_size] at h9; exact h9⟩
    rw [hw1]
    obtain ⟨gu, hgu⟩ : ∃ x, W.heap.size = x := ⟨_, rfl⟩
    rw [hgu] at H2 ⊢
    obtain ⟨gt, hgt⟩ : ∃ x, gu + 1 = x := ⟨_, rfl⟩
    rw [hgt] at H2 ⊢
    clear hw1 hgu hgt
    refine (RefT.has_ H2.out _ r).mono ?_
    rintro e w2 ⟨rfl, hS⟩
    have B2 := Aside0.mk hS
    clear hS
    generalize decide (r ∈ runesS _) = x1
    cases x1 with
    | true =>
      go_wp2_with fail
      go_ret3
      exact ⟨⟨_, _, _, rfl⟩, B2.out.tail.tail⟩
    | false =>
      go_wp2_with fail
      refine (RefT.has_ B2.out _ r).mono ?_
      rintro e w3 ⟨rfl, hS⟩
      have B3 := Aside0.mk hS
      clear hS
      generalize decide (r ∈ runesS _) = x2
      cases x2 with
      | true =>
        go_wp2_with fail
        go_ret3
        exact ⟨⟨_, _, _, rfl⟩, B3.out.tail.tail⟩
      | false =>
        by_cases h36 : r = 36
        · have b36 : (r == 36) = true := by simp [h36]
          go_wp2_with fail
          go_ret3
          exact ⟨⟨_, _, _, rfl⟩, B3.out.tail.tail⟩
        have b36 : (r == 36) = false := by simp [h36]
        by_cases h174 : r = 174
        · have b174 : (r == 174) = true := by simp [h174]
          go_wp2_with fail
          go_ret3
          exact ⟨⟨_, _, _, rfl⟩, B3.out.tail.tail⟩
        have b174 : (r == 174) = false := by simp [h174]
        by_cases h63 : r = 63
        · have b63 : (r == 63) = true := by simp [h63]
          go_wp2_with fail
          go_ret3
          exact ⟨⟨_, _, _, rfl⟩, B3.out.tail.tail⟩
        have b63 : (r == 63) = false := by simp [h63]
        go_wp2_with fail
        refine (RefT.has_ B3.out _ r).mono ?_
        rintro e w4 ⟨rfl, hS⟩
        have B4 := Aside0.mk hS
        clear hS
        generalize decide (r ∈ runesS _) = x3
        cases x3 with
        | true =>
          go_wp2_with fail
          go_ret3
          exact ⟨⟨_, _, _, rfl⟩, B4.out.tail.tail⟩
        | false =>
          by_cases h955 : r = 955
          · have b955 : (r == 955) = true := by simp [h955]
            have u0 : w4.cell? ⟨gu, 0, none⟩ = some (.int .i64 pg) := (B4.out.at2.cell 0).trans rfl
            have u1 : w4.cell? ⟨gu, 1, none⟩ = some (.int .i64 mo) := (B4.out.at2.cell 1).trans rfl
            have u2 : w4.cell? ⟨gu, 2, none⟩ = some (.slice A n c) := (B4.out.at2.cell 2).trans rfl
            have t2 : w4.cell? ⟨gt, 2, none⟩ = some (.int .i32 nm) := (B4.out.cell 2).trans rfl
            clear h48 h35 h44 h46 h36 h174 h63 hlow hup h955
            go_wp2_with fail
            refine (find_ (fun W' h' => HC.out W' h'.tail.tail) B4.out nm).mono ?_
            rintro e w5 ⟨k, rfl, ⟨k1, k2⟩, hS⟩
            have B5 := Aside0.mk hS
            have v2 : w5.cell? ⟨gu, 2, none⟩ = some (.slice A n c) := (hS.at2.cell 2).trans rfl
            by_cases hk : 0 ≤ k
            · obtain ⟨j, rfl⟩ := Int.eq_ofNat_of_zero_le hk
              obtain ⟨ad, f, rfl, hf, d0, d1, d2⟩ := (HC.out _ hS.tail.tail).at_ (i := j) (by omega)
              obtain ⟨ar, har⟩ : ∃ x, f.args = x := ⟨_, rfl⟩
              rw [har] at d1
              have hkd : decide (0 ≤ (j : Int)) = true := decide_eq_true hk
              clear hS d0 d2 hf har u0 u1 u2 t2 k1
              by_cases ha : 0 ≤ ar
              · have had : decide (0 ≤ ar) = true := decide_eq_true ha
                by_cases ha4 : ar ≤ 4
                · have had4 : decide (ar ≤ 4) = true := decide_eq_true ha4
                  go_wp2_with fail
                  go_ret3
                  exact ⟨⟨_, _, _, rfl⟩, B5.out.tail.tail⟩
                · have had4 : decide (ar ≤ 4) = false := decide_eq_false ha4
                  go_wp2_with fail
                  go_ret3
                  exact ⟨⟨_, _, _, rfl⟩, B5.out.tail.tail⟩
              · have had : decide (0 ≤ ar) = false := decide_eq_false ha
                go_wp2_with fail
                go_ret3
                exact ⟨⟨_, _, _, rfl⟩, B5.out.tail.tail⟩
            · have hkd : decide (0 ≤ k) = false := decide_eq_false hk
              clear hS u0 u1 u2 t2
              go_wp2_with fail
              go_ret3
              exact ⟨⟨_, _, _, rfl⟩, B5.out.tail.tail⟩
          · have b955 : (r == 955) = false := by simp [h955]
            go_wp2_with fail
            go_ret3
            exact ⟨⟨_, _, _, rfl⟩, B4.out.tail.tail⟩
  · have e1 : decide (97 ≤ r) = false := decide_eq_false ha
    by_cases hb : 65 ≤ r
    · have e3 : decide (65 ≤ r) = true := decide_eq_true hb
      have e4 : decide (r ≤ 90) = false := decide_eq_false (fun h => hup ⟨hb, h⟩)
      go_enter Try.func36, Try.ntmps36
      go_wp2_with fail
      obtain ⟨w1, hw1⟩ : ∃ x, (W.alloc (.cells #[.int .i64 pg, .int .i64 mo, .slice A n c] 30)).alloc (.cells #[.int .i32 r, .int .i64 N, .int .i32 nm] 42) = x := ⟨_, rfl⟩
      have H2 : Aside0 (Sep w0 w1 (Blk (W.heap.size + 1) 42 #[.int .i32 r, .int .i64 N, .int .i32 nm] :: uB W.heap.size pg mo A n c :: F)) := ⟨by rw [← hw1]; have h9 := H1.out; rw [NestR.alloc_size] at h9; exact h9⟩
      rw [hw1]
      obtain ⟨gu, hgu⟩ : ∃ x, W.heap.size = x := ⟨_, rfl⟩
      rw [hgu] at H2 ⊢
      obtain ⟨gt, hgt⟩ : ∃ x, gu + 1 = x := ⟨_, rfl⟩
      rw [hgt] at H2 ⊢
      clear hw1 hgu hgt
      refine (RefT.has_ H2.out _ r).mono ?_
      rintro e w2 ⟨rfl, hS⟩
      have B2 := Aside0.mk hS
      clear hS
      generalize decide (r ∈ runesS _) = x1
      cases x1 with
      | true =>
        go_wp2_with fail
        go_ret3
        exact ⟨⟨_, _, _, rfl⟩, B2.out.tail.tail⟩
      | false =>
        go_wp2_with fail
        refine (RefT.has_ B2.out _ r).mono ?_
        rintro e w3 ⟨rfl, hS⟩
        have B3 := Aside0.mk hS
        clear hS
        generalize decide (r ∈ runesS _) = x2
        cases x2 with
        | true =>
          go_wp2_with fail
          go_ret3
          exact ⟨⟨_, _, _, rfl⟩, B3.out.tail.tail⟩
        | false =>
          by_cases h36 : r = 36
          · have b36 : (r == 36) = true := by simp [h36]
            go_wp2_with fail
            go_ret3
            exact ⟨⟨_, _, _, rfl⟩, B3.out.tail.tail⟩
          have b36 : (r == 36) = false := by simp [h36]
          by_cases h174 : r = 174
          · have b174 : (r == 174) = true := by simp [h174]
            go_wp2_with fail
            go_ret3
            exact ⟨⟨_, _, _, rfl⟩, B3.out.tail.tail⟩
          have b174 : (r == 174) = false := by simp [h174]
          by_cases h63 : r = 63
          · have b63 : (r == 63) = true := by simp [h63]
            go_wp2_with fail
            go_ret3
            exact ⟨⟨_, _, _, rfl⟩, B3.out.tail.tail⟩
          have b63 : (r == 63) = false := by simp [h63]
          go_wp2_with fail
          refine (RefT.has_ B3.out _ r).mono ?_
          rintro e w4 ⟨rfl, hS⟩
          have B4 := Aside0.mk hS
          clear hS
          generalize decide (r ∈ runesS _) = x3
          cases x3 with
          | true =>
            go_wp2_with fail
            go_ret3
            exact ⟨⟨_, _, _, rfl⟩, B4.out.tail.tail⟩
          | false =>
            by_cases h955 : r = 955
            · have b955 : (r == 955) = true := by simp [h955]
              have u0 : w4.cell? ⟨gu, 0, none⟩ = some (.int .i64 pg) := (B4.out.at2.cell 0).trans rfl
              have u1 : w4.cell? ⟨gu, 1, none⟩ = some (.int .i64 mo) := (B4.out.at2.cell 1).trans rfl
              have u2 : w4.cell? ⟨gu, 2, none⟩ = some (.slice A n c) := (B4.out.at2.cell 2).trans rfl
              have t2 : w4.cell? ⟨gt, 2, none⟩ = some (.int .i32 nm) := (B4.out.cell 2).trans rfl
              clear h48 h35 h44 h46 h36 h174 h63 hlow hup h955
              go_wp2_with fail
              refine (find_ (fun W' h' => HC.out W' h'.tail.tail) B4.out nm).mono ?_
              rintro e w5 ⟨k, rfl, ⟨k1, k2⟩, hS⟩
              have B5 := Aside0.mk hS
              have v2 : w5.cell? ⟨gu, 2, none⟩ = some (.slice A n c) := (hS.at2.cell 2).trans rfl
              by_cases hk : 0 ≤ k
              · obtain ⟨j, rfl⟩ := Int.eq_ofNat_of_zero_le hk
                obtain ⟨ad, f, rfl, hf, d0, d1, d2⟩ := (HC.out _ hS.tail.tail).at_ (i := j) (by omega)
                obtain ⟨ar, har⟩ : ∃ x, f.args = x := ⟨_, rfl⟩
                rw [har] at d1
                have hkd : decide (0 ≤ (j : Int)) = true := decide_eq_true hk
                clear hS d0 d2 hf har u0 u1 u2 t2 k1
                by_cases ha : 0 ≤ ar
                · have had : decide (0 ≤ ar) = true := decide_eq_true ha
                  by_cases ha4 : ar ≤ 4
                  · have had4 : decide (ar ≤ 4) = true := decide_eq_true ha4
                    go_wp2_with fail
                    go_ret3
                    exact ⟨⟨_, _, _, rfl⟩, B5.out.tail.tail⟩
                  · have had4 : decide (ar ≤ 4) = false := decide_eq_false ha4
                    go_wp2_with fail
                    go_ret3
                    exact ⟨⟨_, _, _, rfl⟩, B5.out.tail.tail⟩
                · have had : decide (0 ≤ ar) = false := decide_eq_false ha
                  go_wp2_with fail
                  go_ret3
                  exact ⟨⟨_, _, _, rfl⟩, B5.out.tail.tail⟩
              · have hkd : decide (0 ≤ k) = false := decide_eq_false hk
                clear hS u0 u1 u2 t2
                go_wp2_with fail
                go_ret3
                exact ⟨⟨_, _, _, rfl⟩, B5.out.tail.tail⟩
            · have b955 : (r == 955) = false := by simp [h955]
              go_wp2_with fail
              go_ret3
              exact ⟨⟨_, _, _, rfl⟩, B4.out.tail.tail⟩
    · have e3 : decide (65 ≤ r) = false := decide_eq_false hb
      go_enter Try.func36, Try.ntmps36
      go_wp2_with fail
      obtain ⟨w1, hw1⟩ : ∃ x, (W.alloc (.cells #[.int .i64 pg, .int .i64 mo, .slice A n c] 30)).alloc (.cells #[.int .i32 r, .int .i64 N, .int .i32 nm] 42) = x := ⟨_, rfl⟩
      have H2 : Aside0 (Sep w0 w1 (Blk (W.heap.size + 1) 42 #[.int .i32 r, .int .i64 N, .int .i32 nm] :: uB W.heap.size pg mo A n c :: F)) := ⟨by rw [← hw1]; have h9 := H1.out; rw [NestR.alloc_size] at h9; exact h9⟩
      rw [hw1]
      obtain ⟨gu, hgu⟩ : ∃ x, W.heap.size = x := ⟨_, rfl⟩
      rw [hgu] at H2 ⊢
      obtain ⟨gt, hgt⟩ : ∃ x, gu + 1 = x := ⟨_, rfl⟩
      rw [hgt] at H2 ⊢
      clear hw1 hgu hgt
      refine (RefT.has_ H2.out _ r).mono ?_
      rintro e w2 ⟨rfl, hS⟩
      have B2 := Aside0.mk hS
      clear hS
      generalize decide (r ∈ runesS _) = x1
      cases x1 with
      | true =>
        go_wp2_with fail
        go_ret3
        exact ⟨⟨_, _, _, rfl⟩, B2.out.tail.tail⟩
      | false =>
        go_wp2_with fail
        refine (RefT.has_ B2.out _ r).mono ?_
        rintro e w3 ⟨rfl, hS⟩
        have B3 := Aside0.mk hS
        clear hS
        generalize decide (r ∈ runesS _) = x2
        cases x2 with
        | true =>
          go_wp2_with fail
          go_ret3
          exact ⟨⟨_, _, _, rfl⟩, B3.out.tail.tail⟩
        | false =>
          by_cases h36 : r = 36
          · have b36 : (r == 36) = true := by simp [h36]
            go_wp2_with fail
            go_ret3
            exact ⟨⟨_, _, _, rfl⟩, B3.out.tail.tail⟩
          have b36 : (r == 36) = false := by simp [h36]
          by_cases h174 : r = 174
          · have b174 : (r == 174) = true := by simp [h174]
            go_wp2_with fail
            go_ret3
            exact ⟨⟨_, _, _, rfl⟩, B3.out.tail.tail⟩
          have b174 : (r == 174) = false := by simp [h174]
          by_cases h63 : r = 63
          · have b63 : (r == 63) = true := by simp [h63]
            go_wp2_with fail
            go_ret3
            exact ⟨⟨_, _, _, rfl⟩, B3.out.tail.tail⟩
          have b63 : (r == 63) = false := by simp [h63]
          go_wp2_with fail
          refine (RefT.has_ B3.out _ r).mono ?_
          rintro e w4 ⟨rfl, hS⟩
          have B4 := Aside0.mk hS
          clear hS
          generalize decide (r ∈ runesS _) = x3
          cases x3 with
          | true =>
            go_wp2_with fail
            go_ret3
            exact ⟨⟨_, _, _, rfl⟩, B4.out.tail.tail⟩
          | false =>
            by_cases h955 : r = 955
            · have b955 : (r == 955) = true := by simp [h955]
              have u0 : w4.cell? ⟨gu, 0, none⟩ = some (.int .i64 pg) := (B4.out.at2.cell 0).trans rfl
              have u1 : w4.cell? ⟨gu, 1, none⟩ = some (.int .i64 mo) := (B4.out.at2.cell 1).trans rfl
              have u2 : w4.cell? ⟨gu, 2, none⟩ = some (.slice A n c) := (B4.out.at2.cell 2).trans rfl
              have t2 : w4.cell? ⟨gt, 2, none⟩ = some (.int .i32 nm) := (B4.out.cell 2).trans rfl
              clear h48 h35 h44 h46 h36 h174 h63 hlow hup h955
              go_wp2_with fail
              refine (find_ (fun W' h' => HC.out W' h'.tail.tail) B4.out nm).mono ?_
              rintro e w5 ⟨k, rfl, ⟨k1, k2⟩, hS⟩
              have B5 := Aside0.mk hS
              have v2 : w5.cell? ⟨gu, 2, none⟩ = some (.slice A n c) := (hS.at2.cell 2).trans rfl
              by_cases hk : 0 ≤ k
              · obtain ⟨j, rfl⟩ := Int.eq_ofNat_of_zero_le hk
                obtain ⟨ad, f, rfl, hf, d0, d1, d2⟩ := (HC.out _ hS.tail.tail).at_ (i := j) (by omega)
                obtain ⟨ar, har⟩ : ∃ x, f.args = x := ⟨_, rfl⟩
                rw [har] at d1
                have hkd : decide (0 ≤ (j : Int)) = true := decide_eq_true hk
                clear hS d0 d2 hf har u0 u1 u2 t2 k1
                by_cases ha : 0 ≤ ar
                · have had : decide (0 ≤ ar) = true := decide_eq_true ha
                  by_cases ha4 : ar ≤ 4
                  · have had4 : decide (ar ≤ 4) = true := decide_eq_true ha4
                    go_wp2_with fail
                    go_ret3
                    exact ⟨⟨_, _, _, rfl⟩, B5.out.tail.tail⟩
                  · have had4 : decide (ar ≤ 4) = false := decide_eq_false ha4
                    go_wp2_with fail
                    go_ret3
                    exact ⟨⟨_, _, _, rfl⟩, B5.out.tail.tail⟩
                · have had : decide (0 ≤ ar) = false := decide_eq_false ha
                  go_wp2_with fail
                  go_ret3
                  exact ⟨⟨_, _, _, rfl⟩, B5.out.tail.tail⟩
              · have hkd : decide (0 ≤ k) = false := decide_eq_false hk
                clear hS u0 u1 u2 t2
                go_wp2_with fail
                go_ret3
                exact ⟨⟨_, _, _, rfl⟩, B5.out.tail.tail⟩
            · have b955 : (r == 955) = false := by simp [h955]
              go_wp2_with fail
              go_ret3
              exact ⟨⟨_, _, _, rfl⟩, B4.out.tail.tail⟩
end
end Go.Proofs.Ytkkgfpdjlohojaa.Fn
