/- Asks of memories that came in. -/
import Derived.Test.YtfpkhlhojjmgiaaCellsCopies
import Derived.Test.YtfpkhlhojjmgiaaOpenRow
namespace Go.Proofs.Ytfpkhlhojjmgiaa.Cells
open Go.ChangeShapes Go.WideShapes Go.ChangeAt Go.RowKit Go.Proofs.YtfpkhlhojjmgiaaW.PrintWords Go.Proofs.Ytfpkhlhojjmgiaa.Kit
set_option linter.unusedVariables false
set_option linter.unusedSimpArgs false
section
variable {H : Type} {enc : TypeId × Value → H} {W : World} {base : Nat} {held : Bool}
set_option maxRecDepth 100000 in
theorem asks_open {a : Option Addr} {len cap : Nat} {d : DataW H} {p : List MemPlace} (h : DataW.Trod enc Try.prog W base (fun _ => true) held 35 (.slice a len cap) d p) : ∃ xs, len ≤ cap ∧ KA.C W a len xs ∧ ∀ x ∈ xs, True := by
  refine slice_open (d := KA) Try.underlying35 (by kernel_rfl) (fun cs fuel y hl ht => ?_) h
  obtain ⟨ys, n', _, _, hlen, hyl, hg⟩ := DataW.trod_struct Try.underlying38 ht
  match cs, hl with
  | [u0, u1, u2, u3], _ =>
    match ys, hyl with
    | [y0, y1, y2, y3], _ =>
      have g0 := hg 0 _ rfl
      have g1 := hg 1 _ rfl
      have g2 := hg 2 _ rfl
      have g3 := hg 3 _ rfl
      have e1 : Try.prog.cellsOf 3 = 1 := by kernel_rfl
      have e2 : Try.prog.cellsOf 2 = 1 := by kernel_rfl
      have e3 : Try.prog.cellsOf 4 = 1 := by kernel_rfl
      simp [e1, e2, e3] at g0 g1 g2 g3
      obtain ⟨k, q0, _, _⟩ := DataW.trod_int Try.underlying3 g0
      obtain ⟨x1, q1, _, w1⟩ := DataW.trod_int Try.underlying2 g1
      obtain ⟨x2, q2, _, w2⟩ := DataW.trod_int Try.underlying2 g2
      obtain ⟨x3, q3, _⟩ := DataW.trod_bool Try.underlying4 g3
      exact ⟨(k, x1, x2, x3), ⟨[u0], [u1, u2, u3], rfl, q0, [u1], [u2, u3], rfl, q1, [u2], [u3], rfl, q2, q3⟩, trivial⟩
end
end Go.Proofs.Ytfpkhlhojjmgiaa.Cells
