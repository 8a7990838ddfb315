/- Rows whose elements' own rows are one's own too. -/
import Derived.Test.YtfpkhlhojjmgiaaSep
namespace Go.Proofs.Ytfpkhlhojjmgiaa.Kit
set_option linter.unusedVariables false
set_option linter.unusedSimpArgs false
open Go.RowKit Go.Proofs.YtfpkhlhojjmgiaaW.PrintWords Go.Proofs.YtfpkhlhojjmgiaaW.PrintLast Go.Proofs.YtfpkhlhojjmgiaaW.PrintMore
/-- One element of one's own, as its cells. -/
def El {α : Type} (d : Kd α) (x : α) (cs : List Value) : HP where
  P W ok := d.M W 0 ok x cs ∧ ∀ k, ok k → k < W.heap.size
  loc := fun {W W' ok} h hm => ⟨d.M_move hm h.1, fun k hk => by
      have := hm k hk
      rw [Array.getElem?_eq_getElem (h.2 k hk)] at this
      exact (Array.getElem?_eq_some_iff.1 this).1⟩
  bnd := fun h => h.2
namespace Sep
variable {w0 W W' : World} {F : List HP}
theorem elSlice {α : Type} {d : Kd α} {e : Nat} {v : Value} {xs : List α} (h : Sep w0 W (Row d e v xs :: F)) : Sep w0 W (El (Kd.slice e d) xs [v] :: F) := h.imp (fun ok hp => ⟨⟨v, rfl, hp.1⟩, hp.2⟩)
theorem elPair {α β : Type} {a : Kd α} {b : Kd β} {x : α} {y : β} {p q : List Value} (h : Sep w0 W (El b y q :: F)) (hp : ∀ W base ok, a.M W base ok x p) : Sep w0 W (El (Kd.pair a b) (x, y) (p ++ q) :: F) :=
  h.imp (fun ok hq => ⟨⟨p, q, rfl, hp _ _ _, hq.1⟩, hq.2⟩)
section
variable {P : Program} {ops : Array Oper} {rest : List Oper} {o : Oper} {a : Act} {Q : Exit → Act → World → Prop} {α : Type} {d : Kd α}
theorem appendDeep {e : Nat} {v : Value} {xs : List α} {x : α} {cs : List Value} (h : Sep w0 W (Row d e v xs :: El d x cs :: F)) (hgd : o.guard = none) (s y : Operand) (t : TypeId) (z : Value) (bytes : Nat)
    (ho : o.op = .call { callee := .builtin .append, args := #[s, y], argTypes := #[t, t] })
    (ht : P.underlying t = some (.slice e)) (hinfo : (P.info? e).map (fun i => (i.zero, i.size, i.bytes)) = some (some z, d.sz, bytes)) (hz : z.cells.size = d.sz) (hs0 : 0 < d.sz) (hb0 : 0 < bytes)
    (hs : a.eval s = v) (hx : a.eval y = .slice (some ⟨W.heap.size, 0, none⟩) 1 1) (hl : (xs.length + 1) * bytes ≤ 140737488355328)
    (k : ∀ v1 w1, W.heap.size ≤ w1.heap.size → Sep w0 w1 (Row d e v1 (xs ++ [x]) :: F) → wpList P ops Q rest (a.put o.dst v1) w1) : wpList P ops Q (o :: rest) a (W.alloc (.cells cs.toArray e)) := by
  obtain ⟨ok1, hp, hd1, ok2, hq, hd2, hF⟩ := h.sep
  refine Kd.R_append d (w0 := W) 0 hgd s y t e z bytes ho ht hinfo hz hs0 hb0 v xs x cs (fun k => (ok1 k ∨ ok2 k) ∨ W.heap.size ≤ k) ok2 hs hx hq.1 (fun k hk => ⟨.inl (.inr hk), fun he => hd2 k hk (.inr (hp.1.1 k he.symm))⟩) (fun k hk => .inr hk)
    (Kd.R_mono hp.1 (fun k hk => .inl (.inl hk))) (Below.refl 0 W) (Nat.zero_le _) hl (fun v1 w1 hr hb hg hat => k v1 w1 hb.size ?_)
  refine h.stepOk (ok := fun k => ok1 k ∨ ok2 k) (ok' := fun k => ((ok1 k ∨ ok2 k) ∨ W.heap.size ≤ k) ∧ k < w1.heap.size) (fun k hk => hk.elim (hd1 k) (fun h2 h3 => hd2 k h2 (.inl h3))) (hF.weaken (fun k hk => ?_)) ⟨hg.os, hg.tape, hg.output, hg.size⟩ (fun k hlt hn => hg.block k hlt (fun he => hn (.inl (hp.1.1 k he.symm))))
    ⟨Kd.R_mono (Kd.R_bound hr) (fun k hk => ⟨hk.1, hk.2.2.1⟩), fun k hk => hk.2⟩ (fun k hk => hk.1)
  rcases hk with h3 | h3 | h3
  · exact .inl (.inl h3)
  · exact .inl (.inr h3)
  · exact .inr h3
theorem appendDeepStep {Kc : Act → World → Prop} {e : Nat} {v : Value} {xs : List α} {x : α} {cs : List Value} (h : Sep w0 W (Row d e v xs :: El d x cs :: F)) (hw : Region.wanted o (yielded ops a.tmps) = true) (s y : Operand) (t : TypeId) (z : Value) (bytes : Nat)
    (ho : o.op = .call { callee := .builtin .append, args := #[s, y], argTypes := #[t, t] })
    (ht : P.underlying t = some (.slice e)) (hinfo : (P.info? e).map (fun i => (i.zero, i.size, i.bytes)) = some (some z, d.sz, bytes)) (hz : z.cells.size = d.sz) (hs0 : 0 < d.sz) (hb0 : 0 < bytes)
    (hs : a.eval s = v) (hx : a.eval y = .slice (some ⟨W.heap.size, 0, none⟩) 1 1) (hl : (xs.length + 1) * bytes ≤ 140737488355328)
    (k : ∀ v1 w1, W.heap.size ≤ w1.heap.size → Sep w0 w1 (Row d e v1 (xs ++ [x]) :: F) → Kc (a.put o.dst v1) w1) : if Region.wanted o (yielded ops a.tmps) = true then Oper.wp P o a (W.alloc (.cells cs.toArray e)) Kc Q else Kc (a.put o.dst undef) (W.alloc (.cells cs.toArray e)) := by
  obtain ⟨ok1, hp, hd1, ok2, hq, hd2, hF⟩ := h.sep
  refine Kd.R_append_step d (w0 := W) 0 hw s y t e z bytes ho ht hinfo hz hs0 hb0 v xs x cs (fun k => (ok1 k ∨ ok2 k) ∨ W.heap.size ≤ k) ok2 hs hx hq.1 (fun k hk => ⟨.inl (.inr hk), fun he => hd2 k hk (.inr (hp.1.1 k he.symm))⟩) (fun k hk => .inr hk)
    (Kd.R_mono hp.1 (fun k hk => .inl (.inl hk))) (Below.refl 0 W) (Nat.zero_le _) hl (fun v1 w1 hr hb hg hat => k v1 w1 hb.size ?_)
  refine h.stepOk (ok := fun k => ok1 k ∨ ok2 k) (ok' := fun k => ((ok1 k ∨ ok2 k) ∨ W.heap.size ≤ k) ∧ k < w1.heap.size) (fun k hk => hk.elim (hd1 k) (fun h2 h3 => hd2 k h2 (.inl h3))) (hF.weaken (fun k hk => ?_)) ⟨hg.os, hg.tape, hg.output, hg.size⟩ (fun k hlt hn => hg.block k hlt (fun he => hn (.inl (hp.1.1 k he.symm))))
    ⟨Kd.R_mono (Kd.R_bound hr) (fun k hk => ⟨hk.1, hk.2.2.1⟩), fun k hk => hk.2⟩ (fun k hk => hk.1)
  rcases hk with h3 | h3 | h3
  · exact .inl (.inl h3)
  · exact .inl (.inr h3)
  · exact .inr h3
end
end Sep
end Go.Proofs.Ytfpkhlhojjmgiaa.Kit
