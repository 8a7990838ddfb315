/- Bytes: a row cloned; made. -/
import Derived.Test.YtfpkhlhojjmgiaaProg
import Derived.Test.YtfpkhlhojjmgiaaSep
import Derived.WalkKit
import Derived.KernelRfl
import Derived.WalkSpells
import Derived.Deep.QuietTactic
import Derived.BigQuiet
namespace Go.Proofs.Ytfpkhlhojjmgiaa.Base
set_option linter.unusedVariables false
set_option linter.unusedSimpArgs false
open Go.RowKit Go.Proofs.YtfpkhlhojjmgiaaW.PrintWords Go.Proofs.YtfpkhlhojjmgiaaW.PrintLast Go.Proofs.YtfpkhlhojjmgiaaW.PrintMore Go.Proofs.Ytfpkhlhojjmgiaa.Kit
theorem infoB : (Try.prog.info? 5).map (fun i => (i.zero, i.size, i.bytes)) = some (some (.int .u8 0), 1, 1) := by kernel_rfl
abbrev U8 : Kd Int := Kd.int .u8
/-! ### slices_Clone__byte_byte: function 35 -/
def cloneF (l0 : List Int) : Option (List Int) := if l0.length < 140737488355328 then (some l0) else none
set_option maxHeartbeats 8000000 in
set_option maxRecDepth 100000 in
theorem clone0 (A0 : Option Addr) (c0 : Nat) (l0 : List Int) (r : List Int) (w : World) (hr0 : Kd.C (Kd.int .u8) w A0 l0.length l0) (hc0 : l0.length ≤ c0) (h : cloneF l0 = some r) :
    Calls Try.prog 35 #[.slice A0 l0.length c0] w fun e w' => ∃ v0_ : Value, e = .returned (v0_) ∧ Kd.R (Kd.int .u8) 5 w' w.heap.size (fun _ => True) v0_ r ∧ Below w.heap.size w w' := by
  have HR0 := Aside0.mk hr0
  have HC0 := Aside0.mk hc0
  clear hr0 hc0
  have HB := Aside0.mk (Below.refl w.heap.size w)
  have hl : l0.length < 140737488355328 ∧ l0 = r := by
    unfold cloneF at h
    split at h
    · exact ⟨by assumption, Option.some.inj h⟩
    · cases h
  obtain ⟨hl, rfl⟩ := hl
  have LMc3 := Aside0.mk hl
  clear h hl
  cases A0 with
  | none =>
    have hl0 : l0 = [] := by
      have := HR0.out
      cases l0 with
      | nil => rfl
      | cons a t => obtain ⟨ad, e, _⟩ := Kd.at_int HR0.out 0 (by decide) (by simp); cases e
    subst hl0
    have heq : ∀ W : World, Sem.run Try.prog (binOp .eql 22 (.slice none 0 c0) (.slice none 0 0)) W = .ok (.bool true) W := fun W => Lib.run_eql_slice_nil W 22 5 none _ c0 0 0 Try.underlying22
    show Calls Try.prog 35 #[.slice none 0 c0] w _
    go_enter Try.func35, Try.ntmps35
    go_wp2
    go_ret
    exact ⟨_, rfl, Kd.R_nil _ _ _ _ _, HB.out⟩
  | some a0 =>
    have heq : ∀ W : World, Sem.run Try.prog (binOp .eql 22 (.slice (some a0) l0.length c0) (.slice none 0 0)) W = .ok (.bool false) W := fun W => Lib.run_eql_slice_nil W 22 5 (some a0) _ c0 0 0 Try.underlying22
    go_enter Try.func35, Try.ntmps35
    go_wp2_with (first | ((with_reducible refine gate_dst (N := 5) rfl ?_); refine Kd.R_lit (Kd.int .u8) _ 5 ?hg (N := 5) ?hd (xs := ([] : List Int)) (inner := []) (ok := fun _ => True) (okp := fun _ => True) ?hr ?hp (fun _ hk => hk) trivial (Below.refl _ _) (Nat.le_refl _) (by simp) ?_; (case hd => rfl); (case hg => rfl); (case hr => first | (go_simp; done) | (go_simp; rfl)); (case hp => exact (Reps.none _ _)); intro v117 w5 ho6 hb hg_ hnew_; clear hg_ hnew_; have n0_ := Aside0.mk (Kd.R_lower ho6 (below_size (by repeat (first | (with_reducible first | exact HB.out | apply below_alloc | apply pw_below_drewN | apply below_drew1) | exact HB.out)))); have n1_ := Aside0.mk (below_step (by repeat (first | (with_reducible first | exact HB.out | apply below_alloc | apply pw_below_drewN | apply below_drew1) | exact HB.out)) hb); clear HB; have HO118 := n0_; have HB := n1_; clear n0_ n1_; clear hb ho6) | ((with_reducible refine gate_builtin (b := .append) (xs := #[.tmp 5, .tmp 6]) rfl ?_); at_builtin; refine Kd.R_append_rows (Kd.int .u8) (w0 := w) w.heap.size rfl (.tmp 5) (.tmp 6) 22 5 (.int .u8 0) 1 rfl Try.underlying22 infoB rfl (by decide) (by omega) v117 [] l0 _ _ _ (fun _ => True) (fun _ => False) rfl rfl ?aO ?aR (fun _ _ h => h) (fun _ h => h.elim) ?aF ?aB ?aS ?aL ?_; (case aR => repeat (first | exact (Kd.C_below HR0.out HB.out) | (with_reducible refine Kd.C_alloc ?_ _) | (with_reducible refine Kd.C_drewN ?_ _) | (with_reducible refine Kd.C_drew ?_))); (case aB => exact (by repeat (first | (with_reducible first | exact HB.out | apply below_alloc | apply pw_below_drewN | apply below_drew1) | exact HB.out))); (case aF => exact (fun _ _ => trivial)); (case aO => exact (by (with_reducible repeat (first | apply Kd.R_alloc | apply Kd.R_drewN | apply Kd.R_drew)); exact HO118.out)); (case aS => exact (below_size (by repeat (first | (with_reducible first | exact HB.out | apply below_alloc | apply pw_below_drewN | apply below_drew1) | exact HB.out)))); (case aL => have := LMc3.out; simp only [List.length_nil]; omega); intro v120 w7 ho hb hg hat; rw [List.nil_append] at ho; have n0_ := Aside0.mk (hb); have n1_ := Aside0.mk (ho); clear HB; clear HO118; have HB := n0_; have HO121 := n1_; clear n0_ n1_; clear ho hb hg hat))
    go_ret
    exact ⟨_, by first | rfl | (simp; done) | (simp [*]; done), by (with_reducible repeat (first | apply Kd.R_alloc | apply Kd.R_drewN | apply Kd.R_drew)); exact Kd.R_mono HO121.out (fun _ hk => trivial), by repeat (first | (with_reducible first | exact HB.out | apply below_alloc | apply pw_below_drewN | apply below_drew1) | exact HB.out)⟩
/-- slices.Clone of bytes that are read. -/
theorem clone_ {A : Option Addr} {n c : Nat} {l : List Int} {w : World} (hr : U8.C w A n l) (hc : n ≤ c) (hl : n < 140737488355328) :
    Calls Try.prog 35 #[.slice A n c] w fun e w' => ∃ v, e = .returned v ∧ Sep w w' [Row U8 5 v l] := by
  obtain rfl : l.length = n := hr.1
  refine (clone0 A c l l w hr hc (if_pos hl)).mono ?_
  rintro e w' ⟨v, rfl, hR, hB⟩
  exact ⟨v, rfl, (Sep.start w).newRow hR hB⟩
theorem make_ {m : Nat} (hm : m ≤ 100000) : ∀ W : World, (Instr.makeSlice 22 (.int .i64 (m : Int)) (.int .i64 (m : Int))).run Try.prog W = .ok (.slice (some ⟨W.heap.size, 0, none⟩) m m) (W.alloc (.cells (madeCells #[.int .u8 0] m) 5)) :=
  print_make (P := Try.prog) 22 5 .u8 1 Try.underlying22 infoB (by decide) m (by omega)
theorem madeB {w0 W : World} {F : List HP} (m : Nat) (h : Sep w0 W F) (hm : m ≤ 100000) : Sep w0 (W.alloc (.cells (madeCells #[.int .u8 0] m) 5)) (Row U8 5 (.slice (some ⟨W.heap.size, 0, none⟩) m m) (List.replicate m 0) :: F) :=
  h.madeRow (h1 := fun _ => rfl) (e := 5) (enc := Value.int .u8) 0 m (by omega)
end Go.Proofs.Ytfpkhlhojjmgiaa.Base
