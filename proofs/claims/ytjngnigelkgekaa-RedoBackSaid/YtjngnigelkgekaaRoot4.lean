/- A root is read. -/
import Derived.Test.YtjngnigelkgekaaRoot3
import Derived.Laws.ResultCell
namespace Go.Proofs.Ytjngnigelkgekaa.Root
set_option linter.unusedVariables false
set_option linter.unusedSimpArgs false
open Go.RowKit Go.Proofs.YtjngnigelkgekaaW.PrintWords Go.Proofs.YtjngnigelkgekaaW.PrintLast Go.Proofs.YtjngnigelkgekaaW.PrintMore Go.Proofs.Ytjngnigelkgekaa.Kit Go.Proofs.Ytjngnigelkgekaa.Base Go.Proofs.Ytjngnigelkgekaa.Plain Go.Proofs.Ytjngnigelkgekaa.Sum
macro "go_retc " v:term : tactic => `(tactic| ((try simp only [Exit.inBlock, Exit.then]); refine bodyPost_ret (v := $v) (by rw [results_cell_tmp rfl]; go_simp) rfl ?_))
def rootV (r : R3) : Value := .agg #[.int .i64 r.1, .int .i64 r.2.1, .int .u32 r.2.2]
def readV (l : List Int) : Value := .tuple #[rootV ((unrootF l).getD (0, 0, 0)), .bool (unrootF l).isSome]
theorem getF_rng {b : List Int} (h : Bytes b) (a : Int) : 0 ≤ getF b a ∧ getF b a ≤ 4294967295 := by
  have r0 := h.at a; have r1 := h.at (a + 1); have r2 := h.at (a + 2); have r3 := h.at (a + 3)
  unfold getF
  split <;> omega
/-- Three cells of a block of one's own are written. -/
theorem store3 {w0 W : World} {F : List HP} {g : Nat} {T : TypeId} {v0 v1 v2 : Value} (u0 u1 u2 : Value) (h : Sep w0 W (Blk g T #[v0, v1, v2] :: F)) :
    W.cell? ⟨g, 0, none⟩ = some v0 ∧ W.frozen? ⟨g, 0, none⟩ = false ∧
    (W.setCell ⟨g, 0, none⟩ u0).cell? ⟨g, 1, none⟩ = some v1 ∧ (W.setCell ⟨g, 0, none⟩ u0).frozen? ⟨g, 1, none⟩ = false ∧
    ((W.setCell ⟨g, 0, none⟩ u0).setCell ⟨g, 1, none⟩ u1).cell? ⟨g, 2, none⟩ = some v2 ∧ ((W.setCell ⟨g, 0, none⟩ u0).setCell ⟨g, 1, none⟩ u1).frozen? ⟨g, 2, none⟩ = false ∧
    Sep w0 (((W.setCell ⟨g, 0, none⟩ u0).setCell ⟨g, 1, none⟩ u1).setCell ⟨g, 2, none⟩ u2) (Blk g T #[u0, u1, u2] :: F) := by
  have h1 := h.setBlk 0 u0
  have h2 := h1.setBlk 1 u1
  have h3 := h2.setBlk 2 u2
  exact ⟨(h.cell 0).trans rfl, h.frozen 0, (h1.cell 1).trans rfl, h1.frozen 1, (h2.cell 2).trans rfl, h2.frozen 2, h3⟩
set_option maxHeartbeats 800000 in
set_option maxRecDepth 100000 in
theorem read_ {A : Option Addr} {n c : Nat} {l : List Int} {w : World} (hr : U8.C w A n l) (hc : n ≤ c) (hb : Bytes l) :
    Calls Try.prog 44 #[.slice A n c] w fun e w' => e = .returned (readV l) ∧ Below w.heap.size w w' := by
  have hl : l.length = n := hr.1
  by_cases h64 : n = 64
  case neg =>
    have hv : Aside0 (unrootF l = none) := ⟨if_neg (fun h => h64 (hl.symm.trans h.1))⟩
    have h1 : ¬ (n : Int) = 64 := by omega
    clear hr hb hl
    go_enter Try.func44, Try.ntmps44
    go_wp2_with fail
    go_retc (.tuple #[.agg #[.int .i64 0, .int .i64 0, .int .u32 0], .bool false])
    exact ⟨by unfold readV; rw [hv.out]; rfl, below_alloc (Below.refl _ _) _⟩
  case pos =>
    subst h64
    have HR := Aside0.mk hr
    have HC := Aside0.mk hc
    have HB := Aside0.mk hb
    have HL := Aside0.mk hl
    have HI := Aside0.mk (And.intro (getF_rng hb 4) (And.intro (getF_rng hb 8) (getF_rng hb 12)))
    clear hr hb hl hc
    go_enter Try.func44, Try.ntmps44
    go_wp2_with fail
    refine (get_ (l := l) (a := 4) (Kd.C_alloc HR.out _) HC.out HB.out (by omega)).mono ?_
    rintro e w1 ⟨rfl, rfl⟩
    go_wp2_with fail
    refine (get_ (l := l) (a := 8) (Kd.C_alloc HR.out _) HC.out HB.out (by omega)).mono ?_
    rintro e w1 ⟨rfl, rfl⟩
    have hx1 : IntKind.i64.wrap (getF l 4) = getF l 4 := by have := HI.out.1; rw [IntKind.wrap_i64]; omega
    have hx2 : IntKind.i64.wrap (getF l 8) = getF l 8 := by have := HI.out.2.1; rw [IntKind.wrap_i64]; omega
    go_wp2_with fail
    refine (get_ (l := l) (a := 12) (Kd.C_alloc HR.out _) HC.out HB.out (by omega)).mono ?_
    rintro e w1 ⟨rfl, rfl⟩
    have hU : Aside0 (∀ h : IsRoot l, unrootF l = some (getF l 4, getF l 8, getF l 12)) := ⟨fun h => if_pos h⟩
    have hU0 : Aside0 (¬ IsRoot l → unrootF l = none) := ⟨fun h => if_neg h⟩
    have hIR : Aside0 (IsRoot l ↔ getF l 4 ≤ 2147483647 ∧ getF l 8 ≤ 2147483647 ∧ l = rootF (getF l 4) (getF l 8) (getF l 12)) := ⟨⟨fun h => h.2, fun h => ⟨HL.out, h⟩⟩⟩
    generalize getF l 4 = x at *
    generalize getF l 8 = y at *
    generalize getF l 12 = z at *
    have A0 := Aside0.mk (((Sep.start w).newBlk 26 #[.int .i64 0, .int .i64 0, .int .u32 0]).newBlk 26 #[.int .i64 x, .int .i64 y, .int .u32 z]).at2
    rw [show ∀ o : Obj, (w.alloc o).heap.size = w.heap.size + 1 from fun o => by simp] at A0
    by_cases hx : 2147483647 < x
    case pos =>
      have HN : Aside0 (unrootF l = none) := ⟨hU0.out (fun h => by have := (hIR.out.1 h).1; omega)⟩
      have hd : decide (2147483647 < x) = true := decide_eq_true hx
      go_wp2_with fail
      go_retc (.tuple #[.agg #[.int .i64 0, .int .i64 0, .int .u32 0], .bool false])
      exact ⟨by unfold readV; rw [HN.out]; rfl, A0.out.toBelow⟩
    case neg =>
    have hd : decide (2147483647 < x) = false := decide_eq_false hx
    by_cases hy : 2147483647 < y
    case pos =>
      have HN : Aside0 (unrootF l = none) := ⟨hU0.out (fun h => by have := (hIR.out.1 h).2.1; omega)⟩
      have hd2 : decide (2147483647 < y) = true := decide_eq_true hy
      go_wp2_with fail
      go_retc (.tuple #[.agg #[.int .i64 0, .int .i64 0, .int .u32 0], .bool false])
      exact ⟨by unfold readV; rw [HN.out]; rfl, A0.out.toBelow⟩
    case neg =>
    have hd2 : decide (2147483647 < y) = false := decide_eq_false hy
    go_wp2_with fail
    refine (bytes_ x y z HI.out.2.2 _).mono ?_
    rintro e w2 ⟨v2, rfl, hS2⟩
    rw [m32_id HI.out.1.1 HI.out.1.2, m32_id HI.out.2.1.1 HI.out.2.1.2] at hS2
    obtain ⟨A2, c2, rfl⟩ := hS2.rowN (n := 64) (rootF_len _ _ _)
    have B2 := Aside0.mk (A0.out.lift1 hS2)
    clear hS2
    go_wp2_with fail
    refine (equal_ (Kd.C_below HR.out B2.out.toBelow) B2.out.rowC').mono ?_
    rintro e w3 ⟨rfl, hb3⟩
    have B3 := (B2.out.below hb3).tail
    have z0 : w3.cell? ⟨w.heap.size + 1, 0, none⟩ = some (.int .i64 x) := (B3.at2.cell 0).trans rfl
    have z1 : w3.cell? ⟨w.heap.size + 1, 1, none⟩ = some (.int .i64 y) := (B3.at2.cell 1).trans rfl
    have z2 : w3.cell? ⟨w.heap.size + 1, 2, none⟩ = some (.int .u32 z) := (B3.at2.cell 2).trans rfl
    have B3' := Aside0.mk B3
    clear hb3 B3
    by_cases he : l = rootF x y z
    case pos =>
      have HN : Aside0 (unrootF l = some (x, y, z)) := ⟨hU.out (hIR.out.2 ⟨by omega, by omega, he⟩)⟩
      rw [decide_eq_true he]
      clear he
      obtain ⟨c0, f0, c1, f1, c2, f2, hS4⟩ := store3 (.int .i64 x) (.int .i64 y) (.int .u32 z) B3'.out
      obtain ⟨w4, hw4⟩ : ∃ w4, (((w3.setCell ⟨w.heap.size, 0, none⟩ (.int .i64 x)).setCell ⟨w.heap.size, 1, none⟩ (.int .i64 y)).setCell ⟨w.heap.size, 2, none⟩ (.int .u32 z)) = w4 := ⟨_, rfl⟩
      rw [hw4] at hS4
      have r0 := (hS4.cell 0).trans rfl
      have r1 := (hS4.cell 1).trans rfl
      have r2 := (hS4.cell 2).trans rfl
      have B4 := Aside0.mk hS4
      clear hS4
      go_wp2_with fail
      go_retc (.tuple #[.agg #[.int .i64 x, .int .i64 y, .int .u32 z], .bool true])
      exact ⟨by unfold readV; rw [HN.out]; rfl, B4.out.toBelow⟩
    case neg =>
      have HN : Aside0 (unrootF l = none) := ⟨hU0.out (fun h => he (hIR.out.1 h).2.2)⟩
      rw [decide_eq_false he]
      clear he
      obtain ⟨c0, f0, c1, f1, c2, f2, hS4⟩ := store3 (.int .i64 0) (.int .i64 0) (.int .u32 0) B3'.out
      obtain ⟨w4, hw4⟩ : ∃ w4, (((w3.setCell ⟨w.heap.size, 0, none⟩ (.int .i64 0)).setCell ⟨w.heap.size, 1, none⟩ (.int .i64 0)).setCell ⟨w.heap.size, 2, none⟩ (.int .u32 0)) = w4 := ⟨_, rfl⟩
      rw [hw4] at hS4
      have r0 := (hS4.cell 0).trans rfl
      have r1 := (hS4.cell 1).trans rfl
      have r2 := (hS4.cell 2).trans rfl
      have B4 := Aside0.mk hS4
      clear hS4
      go_wp2_with fail
      go_retc (.tuple #[.agg #[.int .i64 0, .int .i64 0, .int .u32 0], .bool false])
      exact ⟨by unfold readV; rw [HN.out]; rfl, B4.out.toBelow⟩
end Go.Proofs.Ytjngnigelkgekaa.Root
