/- append(v, make([]T, n)...) on a row of one's own. -/
import Derived.Test.YtfpkhlhojjmgiaaSep
import Derived.Test.YtfpkhlhojjmgiaaWZeros
namespace Go.Proofs.Ytfpkhlhojjmgiaa.Kit
set_option linter.unusedVariables false
set_option linter.unusedSimpArgs false
open Go.RowKit Go.Proofs.YtfpkhlhojjmgiaaW.PrintWords Go.Proofs.YtfpkhlhojjmgiaaW.PrintLast Go.Proofs.YtfpkhlhojjmgiaaW.PrintMore
namespace Sep
variable {w0 W W' : World} {F : List HP}
section
variable {P : Program} {ops : Array Oper} {rest : List Oper} {o : Oper} {a : Act} {Q : Exit → Act → World → Prop} {α : Type} {enc : α → Value} {h1 : ∀ x, (enc x).oneCell' = true}
theorem zerosRow {e : Nat} {v : Value} {xs : List α} (h : Sep w0 W (Row (Kd.scalar enc h1) e v xs :: F)) (z0 : α) (hgd : o.guard = none) (s x : Operand) (t ti : TypeId) (bytes : Nat)
    (ho : o.op = .call { callee := .builtin .append, args := #[s, x], argTypes := #[t, ti] })
    (ht : P.underlying t = some (.slice e)) {k : IntKind} (hti : P.underlying ti = some (.int k)) (hinfo : (P.info? e).map (fun i => (i.zero, i.size, i.bytes)) = some (some (enc z0), 1, bytes)) (hz : (enc z0).cells = #[enc z0]) (hb0 : 0 < bytes)
    {kx : IntKind} (n : Nat) (hs : a.eval s = v) (hx : a.eval x = .int kx (n : Int)) (hl : (xs.length + n) * bytes ≤ 140737488355328)
    (k : ∀ v1 w1, Sep w0 w1 (Row (Kd.scalar enc h1) e v1 (xs ++ List.replicate n z0) :: F) → wpList P ops Q rest (a.put o.dst v1) w1) : wpList P ops Q (o :: rest) a W := by
  obtain ⟨ok, hp, hd, hF⟩ := h.sep
  refine Kd.R_append_zeros (Kd.scalar enc h1) (w0 := W) 0 hgd s x t ti e (enc z0) bytes ho ht hti hinfo (by rw [hz]; rfl) (by show 0 < 1; omega) hb0 v xs z0 (n : Int) (fun k => ok k ∨ W.heap.size ≤ k) hs hx (by rw [hz]; rfl) (fun k hk => .inr hk)
    (Kd.R_mono hp.1 (fun k hk => .inl hk)) (by omega) (Below.refl 0 W) (Nat.zero_le _) (by rw [Int.toNat_natCast]; exact hl) (fun v1 w1 hr hb hg hat => k v1 w1 ?_)
  rw [Int.toNat_natCast] at hr
  exact h.stepOk hd hF ⟨hg.os, hg.tape, hg.output, hg.size⟩ (fun k hlt hn => hg.block k hlt (fun he => hn (hp.1.1 k he.symm))) (ok' := fun k => (ok k ∨ W.heap.size ≤ k) ∧ k < w1.heap.size)
    ⟨Kd.R_mono (Kd.R_bound hr) (fun k hk => ⟨hk.1, hk.2.2.1⟩), fun k hk => hk.2⟩ (fun k hk => hk.1)
theorem zerosStep {Kc : Act → World → Prop} {e : Nat} {v : Value} {xs : List α} (h : Sep w0 W (Row (Kd.scalar enc h1) e v xs :: F)) (z0 : α) (hw : Region.wanted o (yielded ops a.tmps) = true) (s x : Operand) (t ti : TypeId) (bytes : Nat)
    (ho : o.op = .call { callee := .builtin .append, args := #[s, x], argTypes := #[t, ti] })
    (ht : P.underlying t = some (.slice e)) {k : IntKind} (hti : P.underlying ti = some (.int k)) (hinfo : (P.info? e).map (fun i => (i.zero, i.size, i.bytes)) = some (some (enc z0), 1, bytes)) (hz : (enc z0).cells = #[enc z0]) (hb0 : 0 < bytes)
    {kx : IntKind} (n : Nat) (hs : a.eval s = v) (hx : a.eval x = .int kx (n : Int)) (hl : (xs.length + n) * bytes ≤ 140737488355328)
    (k : ∀ v1 w1, Sep w0 w1 (Row (Kd.scalar enc h1) e v1 (xs ++ List.replicate n z0) :: F) → Kc (a.put o.dst v1) w1) : if Region.wanted o (yielded ops a.tmps) = true then Oper.wp P o a W Kc Q else Kc (a.put o.dst undef) W := by
  obtain ⟨ok, hp, hd, hF⟩ := h.sep
  refine Kd.R_append_zeros_step (Kd.scalar enc h1) (w0 := W) 0 hw s x t ti e (enc z0) bytes ho ht hti hinfo (by rw [hz]; rfl) (by show 0 < 1; omega) hb0 v xs z0 (n : Int) (fun k => ok k ∨ W.heap.size ≤ k) hs hx (by rw [hz]; rfl) (fun k hk => .inr hk)
    (Kd.R_mono hp.1 (fun k hk => .inl hk)) (by omega) (Below.refl 0 W) (Nat.zero_le _) (by rw [Int.toNat_natCast]; exact hl) (fun v1 w1 hr hb hg hat => k v1 w1 ?_)
  rw [Int.toNat_natCast] at hr
  exact h.stepOk hd hF ⟨hg.os, hg.tape, hg.output, hg.size⟩ (fun k hlt hn => hg.block k hlt (fun he => hn (hp.1.1 k he.symm))) (ok' := fun k => (ok k ∨ W.heap.size ≤ k) ∧ k < w1.heap.size)
    ⟨Kd.R_mono (Kd.R_bound hr) (fun k hk => ⟨hk.1, hk.2.2.1⟩), fun k hk => hk.2⟩ (fun k hk => hk.1)
end
end Sep
end Go.Proofs.Ytfpkhlhojjmgiaa.Kit
