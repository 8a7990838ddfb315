/- An element of a row that is read, cell by cell. -/
import Derived.Test.YtkkgfpdjlohojaaRowF
namespace Go.Proofs.Ytkkgfpdjlohojaa.Kit
set_option linter.unusedVariables false
set_option linter.unusedSimpArgs false
open Go.RowKit Go.Proofs.YtkkgfpdjlohojaaW.PrintWords Go.Proofs.YtkkgfpdjlohojaaW.PrintLast Go.Proofs.YtkkgfpdjlohojaaW.PrintMore
theorem elem_ {α : Type} {d : Kd α} {W : World} {A : Option Addr} {n : Nat} {xs : List α} (h : d.C W A n xs) {i : Nat} (hi : i < n) :
    ∃ (hx : i < xs.length) (a : Addr) (cs : List Value), A = some a ∧ d.K W xs[i] cs ∧ (∀ u, cs[0]? = some u → W.cell? (a.add (i * d.sz)) = some u) ∧
      ∀ j u, 0 < j → cs[j]? = some u → W.cell? ⟨(a.add (i * d.sz)).block, (a.add (i * d.sz)).off + j, none⟩ = some u := by
  have hx : i < xs.length := by rw [h.1]; exact hi
  obtain ⟨a, e, hr⟩ := h.2.2 (by omega)
  obtain ⟨cs, hl, hk, hc⟩ := hr i _ (List.getElem?_eq_getElem hx)
  refine ⟨hx, a, cs, e, hk, fun u hu => ?_, fun j u hj hu => ?_⟩
  · have := hc 0 u hu; rwa [Nat.add_zero] at this
  · have := hc j u hu
    rwa [add_field _ _ j hj] at this
/-- A whole number and a row: two cells. -/
theorem elem2_ {k k2 : IntKind} {e : Nat} {W : World} {A : Option Addr} {n : Nat} {xs : List (Int × List Int)} (h : (Kd.pair (Kd.int k) (Kd.slice e (Kd.int k2))).C W A n xs) {i : Nat} (hi : i < n) :
    ∃ (hx : i < xs.length) (a : Addr) (B : Option Addr) (c : Nat), A = some a ∧ W.cell? (a.add (i * 2)) = some (.int k (xs[i]).1) ∧ W.cell? ⟨(a.add (i * 2)).block, (a.add (i * 2)).off + 1, none⟩ = some (.slice B (xs[i]).2.length c) ∧
      (xs[i]).2.length ≤ c ∧ (Kd.int k2).C W B (xs[i]).2.length (xs[i]).2 := by
  obtain ⟨hx, a, cs, e, ⟨c0, c1, e1, h0, B, c, h1, h2, h3⟩, hc0, hcj⟩ := elem_ h hi
  have h0 : c0 = [.int k (xs[i]).1] := h0
  subst h0 h1 e1
  exact ⟨hx, a, B, c, e, hc0 _ rfl, hcj 1 _ (by decide) rfl, h2, h3⟩
end Go.Proofs.Ytkkgfpdjlohojaa.Kit
