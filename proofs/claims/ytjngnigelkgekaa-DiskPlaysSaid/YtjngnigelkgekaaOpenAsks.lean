/- Asks that came in. -/
import Derived.Test.YtjngnigelkgekaaPlay
import Derived.Test.YtjngnigelkgekaaOpen
import Derived.Deep.Slices
import Derived.ChangeSame
import Derived.ChangeArms
namespace Go.Proofs.Ytjngnigelkgekaa.Ref
open Go.ChangeShapes Go.WideShapes Go.ChangeAt Go.RowKit Go.Proofs.YtjngnigelkgekaaW.PrintWords Go.Proofs.Ytjngnigelkgekaa.Kit Go.Proofs.Ytjngnigelkgekaa.Disk
set_option linter.unusedVariables false
set_option linter.unusedSimpArgs false
section
variable {H : Type} {enc : TypeId × Value → H} {W : World} {base : Nat} {held : Bool}
/-- A cell that holds a slice of whole numbers. -/
theorem ints_cell {T E : TypeId} {k : IntKind} {fuel : Nat} {v : Value} {y : DataW H × List MemPlace} (hT : Try.prog.underlying T = some (.slice E)) (hE : Try.prog.underlying E = some (.int k)) (hc : Try.prog.cellsOf E = 1)
    (h : DataW.trod enc Try.prog W base (fun _ => true) held fuel T [v] = some y) : ∃ A m c xs, v = .slice A m c ∧ m ≤ c ∧ (Kd.int k).C W A m xs := by
  have hv : ∃ A m c, v = .slice A m c := by
    rcases open_ints hT hE hc h with ⟨hcs, _⟩ | ⟨x, l, c, zs, hcs, _⟩
    · exact ⟨_, _, _, (List.cons.inj hcs).1⟩
    · exact ⟨_, _, _, (List.cons.inj hcs).1⟩
  obtain ⟨A, m, c, rfl⟩ := hv
  obtain ⟨xs, h1, h2, _⟩ := ints_C (d := y.1) (p := y.2) hT hE hc ⟨fuel, h⟩
  exact ⟨A, m, c, xs, rfl, h1, h2⟩
set_option maxRecDepth 100000 in
theorem asks_open {a : Option Addr} {len cap : Nat} {d : DataW H} {p : List MemPlace} (h : DataW.Trod enc Try.prog W base (fun _ => true) held 72 (.slice a len cap) d p) : Asks W a len := by
  obtain ⟨fuel, hf⟩ := h
  rcases Go.Deep.open_slice Try.underlying72 hf with ⟨hcs, _⟩ | ⟨x, l, c, m, n, D, Pl, hcs, hb, hl, hm, hmm, hx, hi⟩
  · simp [Value.cells] at hcs
    obtain ⟨rfl, rfl, rfl⟩ := hcs
    exact ⟨by omega, fun i hi => by omega⟩
  · simp [Value.cells] at hcs
    obtain ⟨rfl, rfl, rfl⟩ := hcs
    simp at hmm
    simp only [maxLen] at hm
    refine ⟨by omega, fun i hlt => ⟨x, rfl, ?_⟩⟩
    obtain ⟨cs', hc', ht'⟩ := hi i (by omega)
    have h4 : Try.prog.cellsOf 74 = 4 := by kernel_rfl
    rw [h4] at hc'
    obtain ⟨_, hcl, hat⟩ := World.cells?_some hc'
    obtain ⟨ys, n', _, _, hlen, hyl, hg⟩ := DataW.trod_struct Try.underlying74 ht'
    rw [h4] at hlen
    match cs', hlen with
    | [u0, u1, u2, u3], _ =>
      match ys, hyl with
      | [y0, y1, y2, y3], _ =>
        have g0 := hg 0 _ rfl
        have g1 := hg 1 _ rfl
        have g2 := hg 2 _ rfl
        have g3 := hg 3 _ rfl
        have e1 : Try.prog.cellsOf 3 = 1 := by kernel_rfl
        have e2 : Try.prog.cellsOf 30 = 1 := by kernel_rfl
        have e3 : Try.prog.cellsOf 38 = 1 := by kernel_rfl
        simp [e1, e2, e3] at g0 g1 g2 g3
        obtain ⟨k, q0, _, _⟩ := DataW.trod_int Try.underlying3 g0
        obtain ⟨x1, q1, _, w1⟩ := DataW.trod_int Try.underlying3 g1
        obtain ⟨Ab, nb, cb, bs, q2, b1, b2⟩ := ints_cell Try.underlying30 Try.underlying5 (by kernel_rfl) g2
        obtain ⟨Ac, nc, cc, ds, q3, b3, b4⟩ := ints_cell Try.underlying38 Try.underlying3 (by kernel_rfl) g3
        simp at q0 q1
        subst q0 q1 q2 q3
        have r : -9223372036854775808 ≤ x1 ∧ x1 ≤ 9223372036854775807 := by simpa [Lit.wf, IntKind.min, IntKind.max, IntKind.signed, IntKind.bits] using w1
        refine ⟨k, x1, Ab, nb, cb, bs, Ac, nc, cc, ds, ?_, ?_, ?_, ?_, r, b1, b2, b4⟩
        · have := hat 0 (by decide); simpa [Addr.add] using this
        · have := hat 1 (by decide); simpa [Addr.add] using this
        · have := hat 2 (by decide); simpa [Addr.add] using this
        · have := hat 3 (by decide); simpa [Addr.add] using this
/-- How long a slice of asks is, told by its weight. -/
theorem asks_weight {a : Option Addr} {len cap : Nat} {d : DataW H} {p : List MemPlace} (h : DataW.Trod enc Try.prog W base (fun _ => true) held 72 (.slice a len cap) d p) {ts : List TypeId} {ds : List (DataW H)} {j : Nat}
    (hz : (DataW.weightsEach Try.prog ts ds).all (· ≤ reachBytes) = true) (ht : ts[j]? = some 72) (hd : ds[j]? = some d) : len * 64 ≤ 140737488355328 := by
  obtain ⟨fuel, hf⟩ := h
  rcases Go.Deep.open_slice Try.underlying72 hf with ⟨hcs, _⟩ | ⟨x, l, c, m, n, D, Pl, hcs, hb, hl, hm, hmm, hx, hi⟩
  · simp [Value.cells] at hcs
    obtain ⟨rfl, rfl, rfl⟩ := hcs
    omega
  · simp [Value.cells] at hcs
    obtain ⟨rfl, rfl, rfl⟩ := hcs
    simp only [Prod.mk.injEq] at hx
    have h1 := sized_slice hz ht (hd.trans (congrArg some hx.1)) Try.underlying72
    rw [show Try.prog.bytesOf 74 = 64 by kernel_rfl, List.length_map, List.length_range] at h1
    have : reachBytes ≤ 140737488355328 := by decide
    omega
end
end Go.Proofs.Ytjngnigelkgekaa.Ref
