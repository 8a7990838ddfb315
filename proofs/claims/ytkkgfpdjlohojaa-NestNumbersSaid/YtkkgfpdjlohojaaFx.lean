/- What holds of some blocks, whatever else is done: a resource. -/
import Derived.Test.YtkkgfpdjlohojaaSep
namespace Go.Proofs.Ytkkgfpdjlohojaa.Kit
set_option linter.unusedVariables false
open Go.RowKit Go.Proofs.YtkkgfpdjlohojaaW.PrintWords Go.Proofs.YtkkgfpdjlohojaaW.PrintLast Go.Proofs.YtkkgfpdjlohojaaW.PrintMore
def Fx (φ : World → Prop) : HP where
  P W ok := (∀ W' : World, (∀ k, ok k → W'.heap[k]? = W.heap[k]?) → φ W') ∧ ∀ k, ok k → k < W.heap.size
  loc := fun {W W' ok} h hm => ⟨fun W2 h2 => h.1 W2 (fun k hk => (h2 k hk).trans (hm k hk)), fun k hk => by
      have := hm k hk
      rw [Array.getElem?_eq_getElem (h.2 k hk)] at this
      exact (Array.getElem?_eq_some_iff.1 this).1⟩
  bnd := fun h => h.2
namespace Sep
variable {w0 W W' : World} {F : List HP} {φ ψ : World → Prop}
theorem fx (h : Sep w0 W (Fx φ :: F)) : φ W := by
  obtain ⟨ok, hp, _⟩ := h.sep; exact hp.1 W (fun _ _ => rfl)
theorem fxTrue (h : Sep w0 W F) : Sep w0 W (Fx (fun _ => True) :: F) :=
  h.gain (Below.refl _ _) (ok := fun _ => False) ⟨fun _ _ => trivial, fun _ hf => hf.elim⟩ (fun _ hf => hf.elim)
theorem fxImp (h : Sep w0 W (Fx φ :: F)) (hi : ∀ W, φ W → ψ W) : Sep w0 W (Fx ψ :: F) := h.imp (fun ok hp => ⟨fun W' hm => hi W' (hp.1 W' hm), hp.2⟩)
theorem fxRow {α : Type} {d : Kd α} {e n c : Nat} {A : Option Addr} {xs : List α} (h : Sep w0 W (Row d e (.slice A n c) xs :: F)) : Sep w0 W (Fx (fun W => d.C W A n xs) :: F) := by
  refine h.imp (fun ok hp => ⟨fun W' hm => ?_, hp.2⟩)
  have h2 := Kd.R_reads' (Kd.R_move hp.1 hm)
  rw [h2.1]; exact h2.2.2
theorem fxAnd (h : Sep w0 W (Fx φ :: Fx ψ :: F)) : Sep w0 W (Fx (fun W => φ W ∧ ψ W) :: F) := by
  obtain ⟨o1, h1, d1, o2, h2, d2, hF⟩ := h.sep
  refine ⟨h.os, h.tape, h.output, h.size, h.old, fun k => o1 k ∨ o2 k, ⟨fun W' hm => ⟨h1.1 W' (fun k hk => hm k (.inl hk)), h2.1 W' (fun k hk => hm k (.inr hk))⟩, fun k hk => hk.elim (h1.2 k) (h2.2 k)⟩, fun k hk ha => hk.elim (fun ho => d1 k ho ha) (fun ho => d2 k ho (.inl ha)), hF.weaken (fun k hk => ?_)⟩
  rcases hk with h3 | h3 | h3
  · exact .inl (.inl h3)
  · exact .inl (.inr h3)
  · exact .inr h3
end Sep
end Go.Proofs.Ytkkgfpdjlohojaa.Kit
