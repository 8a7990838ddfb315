/- Package reply: a row is asked; what it was asked. -/
import Derived.Test.YtfpkhlhojjmgiaaReply5
namespace Go.Proofs.Ytfpkhlhojjmgiaa.Reply
set_option linter.unusedVariables false
set_option linter.unusedSimpArgs false
open Go.RowKit Go.Proofs.YtfpkhlhojjmgiaaW.PrintWords Go.Proofs.YtfpkhlhojjmgiaaW.PrintLast Go.Proofs.YtfpkhlhojjmgiaaW.PrintMore Go.Proofs.Ytfpkhlhojjmgiaa.Kit
section
variable {w0 W : World} {F : List HP} {g : Nat} {rs : List (Int × Bool)} {asks : List (Int × Int)}
def headF (rs : List (Int × Bool)) : Int × Bool := rs.headD (0, true)
set_option maxHeartbeats 1600000 in
set_option maxRecDepth 100000 in
theorem ask_ (h : Sep w0 W (RowR g rs asks :: F)) (nm n : Int) (hl : asks.length ≤ 1000) :
    Calls Try.prog 24 #[.pointer (some ⟨g, 0, none⟩), .int .i32 nm, .int .i64 n] W fun e w' => e = .returned (.tuple #[.int .i64 (headF rs).1, .bool (headF rs).2]) ∧ Sep w0 w' (RowR g rs.tail (asks ++ [(nm, n)]) :: F) := by
  obtain ⟨A, c, v, hs⟩ := rowR_open h
  obtain ⟨A5, c5, rfl⟩ := hs.at3.rowV
  have hlc := hs.at2.fx.1
  have hCC := hs.at2.fx.2
  have z1 : W.cell? ⟨g, 1, none⟩ = some (.slice A5 asks.length c5) := (hs.cell 1).trans rfl
  have L1 := Aside0.mk (elAny (d := KAk) (x := (nm, n)) (cs := [.int .i32 nm, .int .i64 n]) hs (fun W => ⟨[.int .i32 nm], [.int .i64 n], rfl, rfl, rfl⟩)).at4
  clear h hs
  cases rs with
  | nil =>
    go_enter Try.func24, Try.ntmps24
    go_wp2_with (first | (refine gate_builtin (b := .append) (xs := #[.tmp 13, .tmp 17]) rfl ?_; go_loud (refine L1.out.appendDeep rfl (.tmp 13) (.tmp 17) 50 _ 16 rfl Try.underlying50 infoAk rfl (by decide) (by decide) rfl rfl (by omega) ?_; intro v6 w6 hs6 hS6; obtain ⟨A6, c6, rfl⟩ := hS6.rowN (n := asks.length + 1) (by simp); have z2 : w6.cell? ⟨g, 1, none⟩ = some (.slice A5 asks.length c5) := (hS6.at2.cell 1).trans rfl; have f6 := hS6.at2.frozen 1; have hS7 := hS6.at2.setBlk 1 (.slice A6 (asks.length + 1) c6); have z3 : (w6.setCell ⟨g, 1, none⟩ (.slice A6 (asks.length + 1) c6)).cell? ⟨g, 0, none⟩ = some (.slice A 0 c) := (hS7.cell 0).trans rfl; have A7 := Aside0.mk hS7; clear hS6 hS7)))
    go_ret2
    exact ⟨by first | rfl | (simp; done), rowR_shut (A := A) (c := c) (v := .slice A6 (asks.length + 1) c6) A7.out.sw23⟩
  | cons x r =>
    obtain ⟨k, ok⟩ := x
    obtain ⟨ad, rfl⟩ : ∃ ad, A = some ad := by
      obtain ⟨ad, hA, -⟩ := hCC.2.2 (by simp)
      exact ⟨ad, hA⟩
    have HE : Aside0 (∀ W' : World, KAn.C W' (some ad) ((k, ok) :: r).length ((k, ok) :: r) → W'.cell? ad = some (.int .i64 k) ∧ W'.cell? ⟨ad.block, ad.off + 1, none⟩ = some (.bool ok)) := ⟨fun W' hC => by
      obtain ⟨hx, ad', l, had, ⟨d0, d1, e1, h0, h1⟩, q0, q1⟩ := elem_ hC (i := 0) (by simp)
      cases had
      have h0 : d0 = [.int .i64 k] := h0
      have h1 : d1 = [.bool ok] := h1
      subst h0 h1
      rw [show ad.add (0 * KAn.sz) = ad by simp [Addr.add]] at q0 q1
      exact ⟨q0 _ (by rw [e1]; rfl), q1 1 _ (by decide) (by rw [e1]; rfl)⟩⟩
    have hrl : 1 ≤ c := by have := hlc; simp at this; omega
    have hcut := cutLo Try.underlying92 infoAn (some ad) (r.length + 1) c 1 (J := 1) rfl (by omega) (by simpa using hlc)
    have HLO : Aside0 (∀ W' : World, KAn.C W' (some ad) (r.length + 1) ((k, ok) :: r) → KAn.C W' (if c = 1 then some ad else (some ad).map (·.add (1 * 2))) r.length r) := ⟨fun W' hC => by
      have := C_lo (a := 1) (c := c) hC (by omega) (by simpa using hlc)
      rw [show r.length + 1 - 1 = r.length by omega] at this
      exact this⟩
    have HLC : Aside0 (r.length ≤ c - 1) := ⟨by have := hlc; simp at this; omega⟩
    generalize (if c = 1 then some ad else (some ad).map (·.add (1 * 2))) = AL at *
    have hlen : ((k, ok) :: r).length = r.length + 1 := rfl
    rw [hlen] at L1 hCC HE hlc
    rw [show r.length + 1 - 1 = r.length by omega] at hcut
    have hp0 : 0 < r.length + 1 := by omega
    have hne : ¬ ((r.length : Int) + 1 = 0) := by omega
    have hcm : (1 : Int) ≤ (r.length : Int) + 1 := by omega
    clear hCC hlen
    go_enter Try.func24, Try.ntmps24
    go_wp2_with (first | (refine gate_builtin (b := .append) (xs := #[.tmp 13, .tmp 17]) rfl ?_; go_loud (refine L1.out.appendDeep rfl (.tmp 13) (.tmp 17) 50 _ 16 rfl Try.underlying50 infoAk rfl (by decide) (by decide) rfl rfl (by omega) ?_; intro v6 w6 hs6 hS6; obtain ⟨A6, c6, rfl⟩ := hS6.rowN (n := asks.length + 1) (by simp); have z2 : w6.cell? ⟨g, 1, none⟩ = some (.slice A5 asks.length c5) := (hS6.at2.cell 1).trans rfl; have f6 := hS6.at2.frozen 1; have hS7 := hS6.at2.setBlk 1 (.slice A6 (asks.length + 1) c6); have z3 : (w6.setCell ⟨g, 1, none⟩ (.slice A6 (asks.length + 1) c6)).cell? ⟨g, 0, none⟩ = some (.slice (some ad) (r.length + 1) c) := (hS7.cell 0).trans rfl; have y := HE.out _ hS7.at3.fx.2; have y0 := y.1; have y1 := y.2; clear y; have hN7 := hS7.newBlk 96 #[.int .i64 k, .bool ok]; rw [show (w6.setCell ⟨g, 1, none⟩ (.slice A6 (asks.length + 1) c6)).heap.size = w6.heap.size by simp [World.setCell]] at hN7; have z4 : ((w6.setCell ⟨g, 1, none⟩ (.slice A6 (asks.length + 1) c6)).alloc (.cells #[.int .i64 k, .bool ok] 96)).cell? ⟨g, 0, none⟩ = some (.slice (some ad) (r.length + 1) c) := (hN7.at2.cell 0).trans rfl; have f4 := hN7.at2.frozen 0; have A8 := Aside0.mk (hN7.at2.setBlk 0 (.slice AL r.length (c - 1))); clear hN7; have A7 := Aside0.mk hS7; clear hS6 hS7)))
    obtain ⟨w9, hw9⟩ : ∃ w9, ((w6.setCell ⟨g, 1, none⟩ (.slice A6 (asks.length + 1) c6)).alloc (.cells #[.int .i64 k, .bool ok] 96)).setCell ⟨g, 0, none⟩ (.slice AL r.length (c - 1)) = w9 := ⟨_, rfl⟩
    rw [hw9] at A8 ⊢
    have y2 : ∀ q, (w9.drewN q).cell? ⟨w6.heap.size, 0, none⟩ = some (.int .i64 k) := fun q => ((A8.out.drewN q).at2.cell 0).trans rfl
    have y3 : ∀ q, (w9.drewN q).cell? ⟨w6.heap.size, 1, none⟩ = some (.bool ok) := fun q => ((A8.out.drewN q).at2.cell 1).trans rfl
    clear hw9 y0 y1 z1 z2 z3 z4 f4 f6
    go_quiet (fail)
    go_wp2_with fail
    go_ret2
    have S9 := ((A8.out.drewN nq).drop2.sw23).at2.fxImp (ψ := fun W => r.length ≤ c - 1 ∧ KAn.C W AL r.length r) (fun W hW => ⟨HLC.out, HLO.out W hW.2⟩)
    exact ⟨by first | rfl | (simp; done), rowR_shut (rs := r) (A := AL) (c := c - 1) (v := .slice A6 (asks.length + 1) c6) S9.at2⟩
end
end Go.Proofs.Ytfpkhlhojjmgiaa.Reply
