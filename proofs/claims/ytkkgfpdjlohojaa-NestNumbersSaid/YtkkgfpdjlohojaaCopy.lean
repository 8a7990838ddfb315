/- copy into a row of one's own; the iterator over a map. -/
import Derived.Test.YtkkgfpdjlohojaaMapInt
import Derived.Laws.IdiomCopy
namespace Go.Proofs.Ytkkgfpdjlohojaa.Kit
set_option linter.unusedVariables false
set_option linter.unusedSimpArgs false
open Go.RowKit Go.Proofs.YtkkgfpdjlohojaaW.PrintWords Go.Proofs.YtkkgfpdjlohojaaW.PrintLast Go.Proofs.YtkkgfpdjlohojaaW.PrintMore
/-- ys laid over xs from place o on. -/
def over {α : Type} (xs : List α) (o : Nat) (ys : List α) : List α := xs.take o ++ ys ++ xs.drop (o + ys.length)
theorem over_nil {α : Type} (xs : List α) (o : Nat) : over xs o [] = xs := by simp [over]
theorem over_len {α : Type} {xs : List α} {o : Nat} {ys : List α} (h : o + ys.length ≤ xs.length) : (over xs o ys).length = xs.length := by
  simp [over]; omega
theorem over_get {α : Type} {xs : List α} {o : Nat} {ys : List α} (h : o + ys.length ≤ xs.length) (j : Nat) : (over xs o ys)[j]? = if o ≤ j ∧ j < o + ys.length then ys[j - o]? else xs[j]? := by
  unfold over
  rw [List.append_assoc]
  by_cases h1 : j < o
  · rw [if_neg (by omega), List.getElem?_append_left (by simp; omega), List.getElem?_take, if_pos h1]
  · rw [List.getElem?_append_right (by simp; omega), List.length_take, Nat.min_eq_left (by omega)]
    by_cases h2 : j < o + ys.length
    · rw [if_pos ⟨by omega, h2⟩, List.getElem?_append_left (by omega)]
    · rw [if_neg (by omega), List.getElem?_append_right (by omega), List.getElem?_drop]
      congr 1; omega
theorem over_cons {α : Type} {xs : List α} {o : Nat} {y : α} {ys : List α} (h : o + (ys.length + 1) ≤ xs.length) : over (xs.set o y) (o + 1) ys = over xs o (y :: ys) := by
  apply List.ext_getElem?
  intro j
  rw [over_get (by simp; omega), over_get (by simp; omega)]
  simp only [List.length_cons]
  by_cases h1 : j = o
  · subst h1
    rw [if_neg (by omega), if_pos (by omega), List.getElem?_set_self (by omega), Nat.sub_self]; rfl
  · rw [List.getElem?_set_ne (by omega)]
    by_cases h2 : o ≤ j ∧ j < o + (ys.length + 1)
    · rw [if_pos (by omega), if_pos h2, show j - o = (j - (o + 1)) + 1 by omega]; rfl
    · rw [if_neg (by omega), if_neg h2]
namespace Sep
variable {w0 W W' : World} {F : List HP}
section
variable {α : Type} {enc : α → Value} {h1 : ∀ x, (enc x).oneCell' = true} {e g n cap : Nat}
theorem putCells : ∀ (ys : List α) (o : Nat) {xs : List α} {W : World}, Sep w0 W (Row (Kd.scalar enc h1) e (.slice (some ⟨g, 0, none⟩) n cap) xs :: F) → o + ys.length ≤ n →
    Sep w0 (W.setCells g o (ys.map enc)) (Row (Kd.scalar enc h1) e (.slice (some ⟨g, 0, none⟩) n cap) (over xs o ys) :: F)
  | [], o, xs, W, h, _ => by rw [over_nil]; exact h
  | y :: ys, o, xs, W, h, hl => by
    have hn : n = xs.length := h.rowC.1
    simp only [List.length_cons] at hl
    have := putCells ys (o + 1) (h.putRow o y) (by omega)
    rwa [over_cons (by omega)] at this
/-- copy(dst, src): dst a piece of a row of one's own. -/
theorem copyRun {P : Program} {t ty : TypeId} {xs ys : List α} {A : Option Addr} {o n' c' m c : Nat} (h : Sep w0 W (Row (Kd.scalar enc h1) e (.slice (some ⟨g, 0, none⟩) n cap) xs :: F)) (ht : P.underlying t = some (.slice e)) (hi : (P.info? e).map (·.size) = some 1)
    (hC : (Kd.scalar enc h1).C W A m ys) (hb : o + n' ≤ n) :
    (Builtin.copy_ #[t, t] ty #[.slice (some ⟨g, o, none⟩) n' c', .slice A m c]).run P W = .ok (.int .i64 ((min m n' : Nat) : Int)) (W.setCells g o ((ys.take n').map enc)) ∧
      Sep w0 (W.setCells g o ((ys.take n').map enc)) (Row (Kd.scalar enc h1) e (.slice (some ⟨g, 0, none⟩) n cap) (over xs o (ys.take n')) :: F) := by
  have hl : ys.length = m := hC.1
  have hlen : (ys.take n').length = min m n' := by rw [List.length_take, hl, Nat.min_comm]
  refine ⟨?_, h.putCells (ys.take n') o (by rw [List.length_take]; omega)⟩
  rcases Nat.eq_zero_or_pos (min m n') with h0 | h0
  · have hy : ys.take n' = [] := List.eq_nil_of_length_eq_zero (by omega)
    rw [hy, h0]
    exact run_copy_none W t t ty e _ _ _ _ _ _ ht hi h0
  · obtain ⟨ad, rfl, hc⟩ := hC.2.2 (by omega)
    have := run_copy_cells (P := P) W t t ty e g o n' c' ad m c ((ys.take n').map enc) ht hi (by rw [List.length_map]; exact hlen) ?_ ?_ ?_ ?_
    · rw [this, List.length_map, hlen]; rfl
    · intro j v hj
      rw [List.getElem?_map, List.getElem?_take] at hj
      split at hj
      · obtain ⟨y, hy, rfl⟩ := Option.map_eq_some_iff.1 hj
        obtain ⟨cs, hsz, hK, hcell⟩ := hc j y hy
        have hK : cs = [enc y] := hK
        subst hK
        have := hcell 0 _ rfl
        simpa [Kd.scalar] using this
      · cases hj
    · intro j hj
      rw [List.length_map, hlen] at hj
      have hx := h.rowC
      have : o + j < xs.length := by omega
      rw [(h.rowCell (xs[o + j]) (o + j) (by omega)).1]; rfl
    · intro j hj
      rw [List.length_map, hlen] at hj
      have hx := h.rowC
      have : o + j < xs.length := by omega
      exact (h.rowCell (xs[o + j]) (o + j) (by omega)).2
    · intro v hv
      obtain ⟨x, _, rfl⟩ := List.mem_map.1 hv
      exact h1 x
section
variable {P : Program} {ops : Array Oper} {rest : List Oper} {op : Oper} {a : Act} {Q : Exit → Act → World → Prop}
theorem copyRow {t : TypeId} {xs ys : List α} {A : Option Addr} {o n' c' m c : Nat} (h : Sep w0 W (Row (Kd.scalar enc h1) e (.slice (some ⟨g, 0, none⟩) n cap) xs :: F)) (hgd : op.guard = none) (d s : Operand)
    (ho : op.op = .call { callee := .builtin .copy, args := #[d, s], argTypes := #[t, t] }) (ht : P.underlying t = some (.slice e)) (hi : (P.info? e).map (·.size) = some 1)
    (hd : a.eval d = .slice (some ⟨g, o, none⟩) n' c') (hs : a.eval s = .slice A m c) (hC : (Kd.scalar enc h1).C W A m ys) (hb : o + n' ≤ n)
    (k : ∀ W', Sep w0 W' (Row (Kd.scalar enc h1) e (.slice (some ⟨g, 0, none⟩) n cap) (over xs o (ys.take n')) :: F) → wpList P ops Q rest (a.put op.dst (.int .i64 ((min m n' : Nat) : Int))) W') : wpList P ops Q (op :: rest) a W := by
  obtain ⟨hr, hS⟩ := h.copyRun (P := P) (ty := op.type) (c' := c') (c := c) ht hi hC hb
  refine wpList_plain hgd fun K hK => ?_
  unfold Oper.wp execOp
  simp only [ho, resolve, invoke, builtin, Sem.run_bind, Sem.run_pure, Result.andThen_ok, List.map_toArray, List.map_cons, List.map_nil, hs, hd, hr]
  exact hK _ _ (k _ hS)
theorem copyStep {Kc : Act → World → Prop} {t : TypeId} {xs ys : List α} {A : Option Addr} {o n' c' m c : Nat} (h : Sep w0 W (Row (Kd.scalar enc h1) e (.slice (some ⟨g, 0, none⟩) n cap) xs :: F)) (hw : Region.wanted op (yielded ops a.tmps) = true) (d s : Operand)
    (ho : op.op = .call { callee := .builtin .copy, args := #[d, s], argTypes := #[t, t] }) (ht : P.underlying t = some (.slice e)) (hi : (P.info? e).map (·.size) = some 1)
    (hd : a.eval d = .slice (some ⟨g, o, none⟩) n' c') (hs : a.eval s = .slice A m c) (hC : (Kd.scalar enc h1).C W A m ys) (hb : o + n' ≤ n)
    (k : ∀ W', Sep w0 W' (Row (Kd.scalar enc h1) e (.slice (some ⟨g, 0, none⟩) n cap) (over xs o (ys.take n')) :: F) → Kc (a.put op.dst (.int .i64 ((min m n' : Nat) : Int))) W') :
    if Region.wanted op (yielded ops a.tmps) = true then Oper.wp P op a W Kc Q else Kc (a.put op.dst undef) W := by
  obtain ⟨hr, hS⟩ := h.copyRun (P := P) (ty := op.type) (c' := c') (c := c) ht hi hC hb
  rw [if_pos hw]
  unfold Oper.wp execOp
  simp only [ho, resolve, invoke, builtin, Sem.run_bind, Sem.run_pure, Result.andThen_ok, List.map_toArray, List.map_cons, List.map_nil, hs, hd, hr]
  exact k _ hS
end
end
end Sep
end Go.Proofs.Ytkkgfpdjlohojaa.Kit
