/- Package reply: what a row was asked. -/
import Derived.Test.YtfpkhlhojjmgiaaReply6
namespace Go.Proofs.Ytfpkhlhojjmgiaa.Reply
set_option linter.unusedVariables false
set_option linter.unusedSimpArgs false
open Go.RowKit Go.Proofs.YtfpkhlhojjmgiaaW.PrintWords Go.Proofs.YtfpkhlhojjmgiaaW.PrintLast Go.Proofs.YtfpkhlhojjmgiaaW.PrintMore Go.Proofs.Ytfpkhlhojjmgiaa.Kit
set_option maxHeartbeats 1600000 in
set_option maxRecDepth 100000 in
theorem cloneA_ {A : Option Addr} {n c : Nat} {l : List (Int × Int)} {w : World} (hr : KAk.C w A n l) (hn : n ≤ 100000) :
    Calls Try.prog 41 #[.slice A n c] w fun e w' => ∃ v, e = .returned v ∧ Sep w w' [RowF KAk 61 v l] := by
  obtain rfl : l.length = n := hr.1
  have HR := Aside0.mk hr
  cases A with
  | none =>
    have hl : l = [] := by
      cases l with
      | nil => rfl
      | cons x r => obtain ⟨ad, hA, -⟩ := hr.2.2 (by simp); cases hA
    subst hl
    clear hr
    have heq : ∀ W : World, Sem.run Try.prog (binOp .eql 50 (.slice none 0 c) (.slice none 0 0)) W = .ok (.bool true) W := fun W => Lib.run_eql_slice_nil W 50 61 none _ c 0 0 Try.underlying50
    show Calls Try.prog 41 #[.slice none 0 c] w _
    go_enter Try.func41, Try.ntmps41
    go_wp2_with fail
    go_ret
    exact ⟨_, by first | rfl | (simp; done), (Sep.start w).rowF_nil KAk _⟩
  | some ad =>
    obtain ⟨cs, hraw, heach⟩ := raw_of_C hr
    have HE : Aside0 (∀ W : World, Each KAk l cs W) := ⟨fun W => ⟨heach.1, heach.2⟩⟩
    have HX := Aside0.mk hraw
    have hcl : cs.length = l.length := heach.1.symm
    have HCL := Aside0.mk hcl
    have L0 := Aside0.mk ((Sep.start w).rawLit0 2 61)
    clear hr hraw heach hcl
    have heq : ∀ W : World, Sem.run Try.prog (binOp .eql 50 (.slice (some ad) l.length c) (.slice none 0 0)) W = .ok (.bool false) W := fun W => Lib.run_eql_slice_nil W 50 61 (some ad) _ c 0 0 Try.underlying50
    go_enter Try.func41, Try.ntmps41
    go_wp2_with (first | (refine gate_builtin (b := .append) (xs := #[.tmp 5, .tmp 6]) rfl ?_; go_loud (refine L0.out.appendRaw rfl (.tmp 5) (.tmp 6) 50 _ 16 rfl Try.underlying50 infoAk rfl (by decide) (by decide) (some ad) l.length c rfl rfl (Kd.C_below HX.out L0.out.toBelow) (by rw [HCL.out]; simp; omega) ?_; intro v3 w3 hS3; rw [List.nil_append] at hS3; have A3 := Aside0.mk hS3; clear hS3)))
    go_ret
    exact ⟨_, by first | rfl | (simp; done), Sep.rowF_shut (cs := cs) (Sep.fxPure A3.out HE.out).at2⟩
section
variable {w0 W : World} {F : List HP} {g : Nat} {rs : List (Int × Bool)} {asks : List (Int × Int)}
set_option maxHeartbeats 1600000 in
set_option maxRecDepth 100000 in
theorem asks_ (h : Sep w0 W (RowR g rs asks :: F)) (hl : asks.length ≤ 100000) :
    Calls Try.prog 25 #[.pointer (some ⟨g, 0, none⟩)] W fun e w' => ∃ v, e = .returned v ∧ Sep w0 w' (RowF KAk 61 v asks :: RowR g rs asks :: F) := by
  obtain ⟨A, c, v, hs⟩ := rowR_open h
  obtain ⟨A5, c5, rfl⟩ := hs.at3.rowV
  have z1 : W.cell? ⟨g, 1, none⟩ = some (.slice A5 asks.length c5) := (hs.cell 1).trans rfl
  have HC := Aside0.mk hs.at3.rowC'
  have AH := Aside0.mk h
  clear h hs
  go_enter Try.func25, Try.ntmps25
  go_wp2_with fail
  refine (cloneA_ HC.out hl).mono ?_
  rintro e w2 ⟨v2, rfl, hS2⟩
  have A2 := Aside0.mk (AH.out.lift1 hS2)
  clear hS2
  go_wp2_with fail
  go_ret
  exact ⟨_, by first | rfl | (simp; done), A2.out⟩
end
end Go.Proofs.Ytfpkhlhojjmgiaa.Reply
