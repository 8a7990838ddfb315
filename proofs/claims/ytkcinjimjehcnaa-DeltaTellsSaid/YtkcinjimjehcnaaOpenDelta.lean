/- Changes that came in. -/
import Derived.Test.YtkcinjimjehcnaaLaw4e
import Derived.Test.YtkcinjimjehcnaaOpenRow
namespace Go.Proofs.Ytkcinjimjehcnaa.Delta
open Go.ChangeShapes Go.WideShapes Go.ChangeAt Go.RowKit Go.Proofs.YtkcinjimjehcnaaW.PrintWords Go.Proofs.Ytkcinjimjehcnaa.Kit Go.Proofs.Ytkcinjimjehcnaa.Plain
set_option linter.unusedVariables false
set_option linter.unusedSimpArgs false
section
variable {H : Type} {enc : TypeId × Value → H} {W : World} {base : Nat} {held : Bool}
set_option maxRecDepth 100000 in
theorem changes_open {a : Option Addr} {len cap : Nat} {d : DataW H} {p : List MemPlace} (h : DataW.Trod enc Try.prog W base (fun _ => true) held 43 (.slice a len cap) d p) : ∃ xs : List Chg, len ≤ cap ∧ KC.C W a len xs ∧ ∀ x ∈ xs, Bytes x.2 := by
  refine slice_open (d := KC) Try.underlying43 (by kernel_rfl) (fun cs fuel y hl ht => ?_) h
  obtain ⟨ys, n', _, _, hlen, hyl, hg⟩ := DataW.trod_struct Try.underlying42 ht
  match cs, hl with
  | [u0, u1], _ =>
    match ys, hyl with
    | [y0, y1], _ =>
      have g0 := hg 0 _ rfl
      have g1 := hg 1 _ rfl
      have e1 : Try.prog.cellsOf 3 = 1 := by kernel_rfl
      have e2 : Try.prog.cellsOf 22 = 1 := by kernel_rfl
      simp [e1, e2] at g0 g1
      obtain ⟨k, q0, _, _⟩ := DataW.trod_int Try.underlying3 g0
      obtain ⟨B, m, c, bs, rfl, h1, h2, h3⟩ := slice_cell (d := Kd.int .u8) (Q := fun x => 0 ≤ x ∧ x ≤ 255) Try.underlying22 (by kernel_rfl) (fun cs fuel y _ ht => by
        obtain ⟨n, e, hw⟩ := int_cell Try.underlying5 ht
        exact ⟨n, e, u8_wf hw⟩) g1
      obtain rfl := h2.1
      exact ⟨(k, bs), ⟨[u0], [.slice B bs.length c], rfl, q0, B, c, rfl, h1, h2⟩, h3⟩
end
end Go.Proofs.Ytkcinjimjehcnaa.Delta
