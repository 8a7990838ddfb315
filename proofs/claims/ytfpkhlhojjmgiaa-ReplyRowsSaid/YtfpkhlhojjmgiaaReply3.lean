/- Package reply: the number of a value in any case: a panic that is caught. -/
import Derived.Test.YtfpkhlhojjmgiaaReply2
import Derived.Defers
import Derived.Recover
import Derived.Laws.Pointers
namespace Go.Proofs.Ytfpkhlhojjmgiaa.Reply
set_option linter.unusedVariables false
set_option linter.unusedSimpArgs false
open Go.RowKit Go.Proofs.YtfpkhlhojjmgiaaW.PrintWords Go.Proofs.YtfpkhlhojjmgiaaW.PrintLast Go.Proofs.YtfpkhlhojjmgiaaW.PrintMore Go.Proofs.Ytfpkhlhojjmgiaa.Kit
theorem assert_ok (x : Value) (W : World) : (Instr.typeAssert (.iface 2 x) 20 2 false).run Try.prog W = .ok x W := by
  simp [Instr.typeAssert, run_underlying Try.underlying2]
theorem rtE : Try.prog.rt.typeAssertionError = 15 := by kernel_rfl
theorem assert_dies (W : World) : ∃ p W', (Instr.typeAssert .nilIface 20 2 false).run Try.prog W = .halt (.panic (.iface 15 p)) W' ∧ Below W.heap.size W W' := by
  have h : ∃ cs : Array Value, ∃ t : TypeId, (Instr.typeAssert .nilIface 20 2 false).run Try.prog W = .halt (.panic (.iface 15 (.pointer (some ⟨W.heap.size, 0, none⟩)))) (W.alloc (.cells cs t)) := by
    simp [Instr.typeAssert, run_underlying Try.underlying2, runtimePanic, goPanic, go_sem, rtE, elemOf, newVar, newRow, run_underlying Try.underlying15]
    exact ⟨_, _, rfl⟩
  obtain ⟨cs, t, h⟩ := h
  exact ⟨_, _, h, below_alloc (Below.refl _ _) _⟩
theorem catch_panicking (p : Addr) (x : Int) (u : TypeId) (pv : Value) (older : List PanicEntry) (w : World) (hc : w.cell? p = some (.int .i64 x)) (hz : w.frozen? p = false) :
    CallsD Try.prog 43 #[.pointer (some p)] (.panicking ({ v := .iface u pv, recovered := false } :: older)) w fun e u' w' =>
      e = .returned (.tuple #[]) ∧ u' = .panicking ({ v := .iface u pv, recovered := true } :: older) ∧ w' = w.setCell p (.int .i64 (-1)) := by
  refine callsD_of_wpS Try.func43 rfl fun c₀ cs hu => ?_
  apply wpS_seq
  apply wpS_region
  simp [wpOpsS, go_sem, recoverD, hu, Try.ntmps43, Exit.thenS]
  refine wpS_cond (t := true) (by simp [Act.eval, Array.replicate]) ?_
  simp only [if_true]
  apply wpS_region
  simp [wpOpsS, go_sem, hc, hz, bodyPostS, results, Try.results43]
theorem catch_idle (p : Addr) (w : World) :
    CallsD Try.prog 43 #[.pointer (some p)] .returning w fun e u' w' => e = .returned (.tuple #[]) ∧ u' = .returning ∧ w' = w := by
  refine callsD_of_wpS Try.func43 rfl fun c₀ cs hu => ?_
  apply wpS_seq
  apply wpS_region
  simp [wpOpsS, go_sem, recoverD, hu, Try.ntmps43, Exit.thenS]
  refine wpS_cond (t := false) (by simp [Act.eval, Array.replicate]) ?_
  simp only [Bool.false_eq_true, if_false]
  refine wpS_of_wp (wp_skip ?_)
  cases c₀
  simp_all [bodyPostS, results, Try.results43]
set_option maxHeartbeats 800000 in
set_option maxRecDepth 100000 in
theorem sure_some {v : Value} {n : Int} (h : Ofs v (some n)) (W : World) : Calls Try.prog 44 #[v] W fun e w' => e = .returned (.int .i64 n) ∧ Below W.heap.size W w' := by
  have HO := Aside0.mk h
  clear h
  have ha := assert_ok (.int .i64 n)
  go_enter Try.func44, Try.ntmps44
  go_wp2_with fail
  refine (HO.out W).mono ?_
  rintro e w' ⟨rfl, hb⟩
  have HB := Aside0.mk hb
  clear hb
  go_wp2_with fail
  go_ret
  exact ⟨by first | rfl | (simp; done), HB.out⟩
set_option maxHeartbeats 800000 in
set_option maxRecDepth 100000 in
theorem sure_none {v : Value} (h : Ofs v none) (W : World) : Calls Try.prog 44 #[v] W fun e w' => (∃ T p, e = .panicked [{ v := .iface T p, recovered := false }]) ∧ Below W.heap.size W w' := by
  have HO := Aside0.mk h
  clear h
  go_enter Try.func44, Try.ntmps44
  go_wp2_with fail
  refine (HO.out W).mono ?_
  rintro e w' ⟨rfl, hb⟩
  obtain ⟨p, w2, hd, hb2⟩ := assert_dies w'
  have HB : Aside0 (Below W.heap.size W w2) := ⟨hb.trans (hb2.mono hb.size)⟩
  clear hb hb2
  go_wp2_with fail
  exact ⟨rfl, ⟨_, _, rfl⟩, HB.out⟩
set_option maxHeartbeats 800000 in
set_option maxRecDepth 100000 in
theorem must_ {v : Value} {r : Option Int} (h : Ofs v r) (W : World) : Calls Try.prog 30 #[v] W fun e w' => e = .returned (.int .i64 (r.getD (-1))) ∧ Below W.heap.size W w' := by
  have hmf : ∀ (fn : Fn) (first cap : Array Value) (w : World), (Instr.makeFunc fn first cap).run Try.prog w = .ok (.func fn first cap) w := fun _ _ _ _ => rfl
  have A1 := Aside0.mk ((Sep.start W).newBlk 2 #[.int .i64 0])
  cases r with
  | some n =>
    have HO := Aside0.mk h
    clear h
    go_enter_defers Try.func30, Try.ntmps30
    go_wp2_with fail
    refine (sure_some HO.out _).mono ?_
    rintro e w2 ⟨rfl, hb⟩
    have A2 := Aside0.mk (A1.out.below hb)
    have c0 : w2.cell? ⟨W.heap.size, 0, none⟩ = some (.int .i64 0) := (A2.out.cell 0).trans rfl
    have f0 := A2.out.frozen 0
    have A3 := Aside0.mk (A2.out.setBlk 0 (.int .i64 n))
    clear hb
    go_wp2_with fail
    refine leaves_cons (f := 43) (args := #[.pointer (some ⟨W.heap.size, 0, none⟩)]) (by simp) (by simp [go_sem]) ?_
    refine (catch_idle ⟨W.heap.size, 0, none⟩ _).mono ?_
    rintro e u' w'' ⟨rfl, rfl, rfl⟩
    have c1 : (w2.setCell ⟨W.heap.size, 0, none⟩ (.int .i64 n)).cell? ⟨W.heap.size, 0, none⟩ = some (.int .i64 n) := (A3.out.cell 0).trans rfl
    have hB := A3.out.toBelow
    simp [Leaves, settle, results, Try.results30, go_sem, c1, hB]
  | none =>
    have HO := Aside0.mk h
    clear h
    go_enter_defers Try.func30, Try.ntmps30
    go_wp2_with fail
    refine (sure_none HO.out _).mono ?_
    rintro e w2 ⟨⟨T, p, rfl⟩, hb⟩
    have A2 := Aside0.mk (A1.out.below hb)
    have c0 : w2.cell? ⟨W.heap.size, 0, none⟩ = some (.int .i64 0) := (A2.out.cell 0).trans rfl
    have f0 := A2.out.frozen 0
    have A3 := Aside0.mk (A2.out.setBlk 0 (.int .i64 (-1)))
    clear hb
    go_wp2_with fail
    refine leaves_cons (f := 43) (args := #[.pointer (some ⟨W.heap.size, 0, none⟩)]) (by simp) (by simp [go_sem]) ?_
    refine (catch_panicking ⟨W.heap.size, 0, none⟩ 0 _ _ [] _ c0 f0).mono ?_
    rintro e u' w'' ⟨rfl, rfl, rfl⟩
    have c1 : (w2.setCell ⟨W.heap.size, 0, none⟩ (.int .i64 (-1))).cell? ⟨W.heap.size, 0, none⟩ = some (.int .i64 (-1)) := (A3.out.cell 0).trans rfl
    have hB := A3.out.toBelow
    simp [Leaves, settle, results, Try.results30, go_sem, c1, hB]
end Go.Proofs.Ytfpkhlhojjmgiaa.Reply
