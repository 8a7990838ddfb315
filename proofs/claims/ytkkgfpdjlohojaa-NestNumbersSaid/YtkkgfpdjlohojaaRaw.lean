/- Rows of elements of several cells, told by their cells. -/
import Derived.Test.YtkkgfpdjlohojaaSep
import Derived.Test.YtkkgfpdjlohojaaWApart
namespace Go.Proofs.Ytkkgfpdjlohojaa.Kit
set_option linter.unusedVariables false
set_option linter.unusedSimpArgs false
open Go.RowKit Go.Proofs.YtkkgfpdjlohojaaW.PrintWords Go.Proofs.YtkkgfpdjlohojaaW.PrintLast Go.Proofs.YtkkgfpdjlohojaaW.PrintMore
namespace Sep
variable {w0 W W' : World} {F : List HP}
/-- A block as a row of one element. -/
theorem blkRaw {g : Nat} {t : TypeId} {c : List Value} {sz : Nat} (h : Sep w0 W (Blk g t c.toArray :: F)) (hs : c.length = sz) (h1 : ∀ u ∈ c, u.oneCell' = true) : (Kd.raw sz).C W (some ⟨g, 0, none⟩) 1 [c] := by
  refine ⟨rfl, by decide, fun _ => ⟨_, rfl, fun j p hj => ?_⟩⟩
  match j, hj with
  | 0, hj =>
    obtain rfl : c = p := by simpa using hj
    refine ⟨c, hs, ⟨rfl, hs, h1⟩, fun i u hu => ?_⟩
    have := h.cell i
    have e : (⟨g, 0, none⟩ : Addr).add (0 * (Kd.raw sz).sz + i) = ⟨g, i, none⟩ := by
      rw [Nat.zero_mul, Nat.zero_add]; unfold Addr.add; split
      · rename_i h0; rw [h0]
      · simp
    rw [e, this]
    simpa using hu
section
variable {P : Program} {ops : Array Oper} {rest : List Oper} {o : Oper} {a : Act} {Q : Exit → Act → World → Prop} {sz : Nat}
theorem appendRaw {e : Nat} {v : Value} {xs ys : List (List Value)} (h : Sep w0 W (Row (Kd.raw sz) e v xs :: F)) (hgd : o.guard = none) (s x : Operand) (t : TypeId) (z : Value) (bytes : Nat)
    (ho : o.op = .call { callee := .builtin .append, args := #[s, x], argTypes := #[t, t] })
    (ht : P.underlying t = some (.slice e)) (hinfo : (P.info? e).map (fun i => (i.zero, i.size, i.bytes)) = some (some z, sz, bytes)) (hz : z.cells.size = sz) (hs0 : 0 < sz) (hb0 : 0 < bytes)
    (A : Option Addr) (m c : Nat) (hs : a.eval s = v) (hx : a.eval x = .slice A m c) (hC : (Kd.raw sz).C W A m ys) (hl : (xs.length + ys.length) * bytes ≤ 140737488355328)
    (k : ∀ v1 w1, Sep w0 w1 (Row (Kd.raw sz) e v1 (xs ++ ys) :: F) → wpList P ops Q rest (a.put o.dst v1) w1) : wpList P ops Q (o :: rest) a W := by
  obtain ⟨ok, hp, hd, hF⟩ := h.sep
  refine Kd.R_append_rows (Kd.raw sz) (Rr := (Kd.raw sz).K W) (w0 := W) 0 hgd s x t e z bytes ho ht hinfo hz hs0 hb0 v xs ys A m c (fun k => ok k ∨ W.heap.size ≤ k) (fun _ => False) hs hx
    (Kd.R_mono hp.1 (fun k hk => .inl hk)) hC (fun x cs h => h) (fun _ h => h.elim) (fun k hk => .inr hk) (Below.refl 0 W) (Nat.zero_le _) (by rw [← hC.1]; exact hl) (fun v1 w1 hr hb hg hat => k v1 w1 ?_)
  exact h.stepOk hd hF ⟨hg.os, hg.tape, hg.output, hg.size⟩ (fun k hlt hn => hg.block k hlt (fun he => hn (hp.1.1 k he.symm))) (ok' := fun k => (ok k ∨ W.heap.size ≤ k) ∧ k < w1.heap.size)
    ⟨Kd.R_mono (Kd.R_bound hr) (fun k hk => ⟨hk.1, hk.2.2.1⟩), fun k hk => hk.2⟩ (fun k hk => hk.1)
end
end Sep
end Go.Proofs.Ytkkgfpdjlohojaa.Kit
