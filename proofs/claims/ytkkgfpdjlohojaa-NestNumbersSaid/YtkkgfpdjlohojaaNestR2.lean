/- engramref9: Nest. -/
import Derived.Test.YtkkgfpdjlohojaaNestR1
namespace Go.Proofs.Ytkkgfpdjlohojaa.NestR
set_option linter.unusedVariables false
set_option linter.unusedSimpArgs false
open Go.RowKit Go.Proofs.YtkkgfpdjlohojaaW.PrintWords Go.Proofs.YtkkgfpdjlohojaaW.PrintLast Go.Proofs.YtkkgfpdjlohojaaW.PrintMore Go.Proofs.Ytkkgfpdjlohojaa.Kit
open Go.Proofs.Ytkkgfpdjlohojaa.NestP Go.Proofs.Ytkkgfpdjlohojaa.TokP Go.Proofs.Ytkkgfpdjlohojaa.Tok
theorem infoInt : (Try.prog.info? 3).map (fun i => (i.zero, i.size, i.bytes)) = some (some (.int .i64 0), 1, 8) := by kernel_rfl
theorem alloc_size (w : World) (o : Obj) : (w.alloc o).heap.size = w.heap.size + 1 := by simp
/-- What is open, as the document keeps it: the innermost last. -/
def opL (l : List Nat) : List Int := l.reverse.map (fun k : Nat => (k : Int))
theorem opL_len (l : List Nat) : (opL l).length = l.length := by unfold opL; rw [List.length_map, List.length_reverse]
theorem opL_cons (o : Nat) (r : List Nat) : opL (o :: r) = opL r ++ [(o : Int)] := by unfold opL; rw [List.reverse_cons, List.map_append]; rfl
theorem opL_top (o : Nat) (r : List Nat) : (opL (o :: r)).getD r.length 0 = (o : Int) := by
  rw [opL_cons, List.getD_eq_getElem?_getD, List.getElem?_append_right (by rw [opL_len]; exact Nat.le_refl _), opL_len, Nat.sub_self]
  rfl
theorem opL_set (o i : Nat) (r : List Nat) : (opL (o :: r)).set r.length (i : Int) = opL (i :: r) := by
  rw [opL_cons, opL_cons, List.set_append_right _ _ (by rw [opL_len]; exact Nat.le_refl _), opL_len, Nat.sub_self]
  rfl
theorem opL_take (o : Nat) (r : List Nat) : (opL (o :: r)).take r.length = opL r := by
  rw [opL_cons, List.take_append_of_le_length (by rw [opL_len]; exact Nat.le_refl _), List.take_of_length_le (by rw [opL_len]; exact Nat.le_refl _)]
structure RB (i n : Nat) (R : RS) : Prop where
  len : R.tt.length = n
  op : R.opn.length ≤ 16
  lt : ∀ o ∈ R.opn, o < i
theorem RB.tok {sg : List Int} {i n : Nat} {s : Int} {R R2 : RS} (h : RB i n R) (e : tokR sg i s R = some R2) : RB (i + 1) n R2 := by
  obtain ⟨len, op, lt⟩ := h
  have hm : ∀ o ∈ R.opn, o < i + 1 := fun o ho => by have := lt o ho; omega
  unfold tokR at e
  split at e
  · split at e
    · cases e
      refine ⟨by rw [List.length_set]; exact len, by show (i :: R.opn).length ≤ 16; rw [List.length_cons]; omega, fun o ho => ?_⟩
      rcases List.mem_cons.1 ho with rfl | ho
      · omega
      · exact hm o ho
    · cases e
  · split at e
    · cases ho : R.opn with
      | nil => rw [ho] at e; cases e
      | cons o r =>
        rw [ho] at e op hm
        dsimp only at e
        split at e
        · cases e
          refine ⟨by rw [List.length_set, List.length_set]; exact len, op, fun q hq => ?_⟩
          rcases List.mem_cons.1 hq with rfl | hq
          · omega
          · exact hm q (List.mem_cons_of_mem _ hq)
        · cases e
    · split at e
      · cases ho : R.opn with
        | nil => rw [ho] at e; cases e
        | cons o r =>
          rw [ho] at e op hm
          dsimp only at e
          split at e
          · cases e
          · cases e
            exact ⟨by rw [List.length_set, List.length_set]; exact len, by rw [List.length_cons] at op; show r.length ≤ 16; omega, fun q hq => hm q (List.mem_cons_of_mem _ hq)⟩
      · split at e
        · cases ho : R.opn with
          | nil => rw [ho] at e; cases e
          | cons o r =>
            rw [ho] at e op hm
            dsimp only at e
            split at e
            · cases e
              exact ⟨by rw [List.length_set, List.length_set]; exact len, by rw [List.length_cons] at op; show r.length ≤ 16; omega, fun q hq => hm q (List.mem_cons_of_mem _ hq)⟩
            · cases e
        · cases e
          exact ⟨by rw [List.length_set]; exact len, op, hm⟩
def nst (w0 w' : World) (F : List HP) (e : Ending) : Option (List Int × Nat) → Prop
  | some r => ∃ v, e = .returned (.tuple #[v, .int .i64 (r.2 : Int), .int .i64 0]) ∧ Sep w0 w' (Row I64 3 v r.1 :: F)
  | none => e = .returned (.tuple #[.slice none 0 0, .int .i64 (-1), .int .i64 13]) ∧ Sep w0 w' F
def contR (sg : List Int) (i : Nat) (t : List Int) : Option RS → Option RS
  | none => none
  | some R => NestP.runR sg i t R
theorem runR_step (sg : List Int) (i : Nat) (s : Int) (t : List Int) (R : RS) : NestP.runR sg i (s :: t) R = contR sg (i + 1) t (tokR sg i s R) := by
  unfold contR
  rw [NestP.runR]
  cases tokR sg i s R <;> rfl
def endR (sg : List Int) : Option RS → Option (List Int × Nat)
  | some m => if m.opn = [] then (secR sg sg.length 0 m.tt).map (fun t => (t, m.deep)) else none
  | none => none
theorem nestR_def (sg : List Int) : nestR sg = endR sg (NestP.runR sg 0 sg ⟨List.replicate sg.length 0, [], 0⟩) := by
  unfold nestR endR
  cases NestP.runR sg 0 sg ⟨List.replicate sg.length 0, [], 0⟩ <;> rfl
def dM (a b : Nat) : Int := if (a : Int) < (b : Int) then b else a
theorem tokR_open (sg : List Int) (i : Nat) (s : Int) (R : RS) (h : s = 63 ∨ s = 91) : tokR sg i s R = if R.opn.length < 16 then some ⟨R.tt.set i (-1), i :: R.opn, max R.deep (R.opn.length + 1)⟩ else none := by
  unfold tokR
  rw [if_pos h]
theorem tokR_58 (sg : List Int) (i : Nat) (R : RS) : tokR sg i 58 R = match R.opn with
    | o :: r => if sg.getD o 0 = 63 then some ⟨(R.tt.set i (-1)).set o ((i : Int) + 1), i :: r, R.deep⟩ else none
    | [] => none := by
  unfold tokR
  rw [if_neg (by decide), if_pos rfl]
  cases R.opn <;> rfl
theorem tokR_59 (sg : List Int) (i : Nat) (R : RS) : tokR sg i 59 R = match R.opn with
    | o :: r => if sg.getD o 0 = 91 then none else some ⟨(R.tt.set i (-1)).set o (i : Int), r, R.deep⟩
    | [] => none := by
  unfold tokR
  rw [if_neg (by decide), if_neg (by decide), if_pos rfl]
  cases R.opn <;> rfl
theorem tokR_93 (sg : List Int) (i : Nat) (R : RS) : tokR sg i 93 R = match R.opn with
    | o :: r => if sg.getD o 0 = 91 then some ⟨(R.tt.set i (-1)).set i (o : Int), r, R.deep⟩ else none
    | [] => none := by
  unfold tokR
  rw [if_neg (by decide), if_neg (by decide), if_neg (by decide), if_pos rfl]
  cases R.opn <;> rfl
theorem tokR_else (sg : List Int) (i : Nat) (s : Int) (R : RS) (h1 : ¬ s = 63) (h2 : ¬ s = 91) (h3 : ¬ s = 58) (h4 : ¬ s = 59) (h5 : ¬ s = 93) : tokR sg i s R = some ⟨R.tt.set i (-1), R.opn, R.deep⟩ := by
  unfold tokR
  rw [if_neg (by omega), if_neg h3, if_neg h4, if_neg h5]
section
variable {w0 W : World} {F : List HP}
/-- The innermost, and its sign. -/
theorem top_at {w : World} {gt n c2 N : Nat} {ca : Nat} {vo : Value} {ad : Addr} {l : List Tok} {tt : List Int} {o : Nat} {r : List Nat} (hC : TC w (some ad) n l) (hS : Sep w0 w (Row I64 3 (.slice (some ⟨gt, 0, none⟩) n c2) tt :: Row I64 3 vo (opL (o :: r)) :: F)) (ho : o < n) :
    ∃ go co so, vo = .slice (some ⟨go, 0, none⟩) (r.length + 1) co ∧ r.length + 1 ≤ co ∧ (sgn l).getD o 0 = so ∧ w.cell? (ad.add (o * 3)) = some (.int .i32 so) ∧ w.cell? ⟨go, r.length, none⟩ = some (.int .i64 (o : Int)) := by
  obtain ⟨go, co, rfl⟩ := hS.tail.rowFormN (n := r.length + 1) (by rw [opL_len]; rfl) (by omega)
  obtain ⟨g1, g2⟩ := hS.tail.rowCell (0 : Int) r.length (by omega)
  rw [opL_top] at g1
  obtain ⟨a, t, ha, ht, d0, d1, d2⟩ := hC.at_ ho
  cases ha
  exact ⟨go, co, t.sign, rfl, hS.tail.rowC.2.1, sgn_at ht, d0, g1⟩
end
end Go.Proofs.Ytkkgfpdjlohojaa.NestR
