/- engramref9: has, Known. -/
import Derived.Test.YtkkgfpdjlohojaaRefT1
namespace Go.Proofs.Ytkkgfpdjlohojaa.RefT
set_option linter.unusedVariables false
set_option linter.unusedSimpArgs false
open Go.RowKit Go.Proofs.YtkkgfpdjlohojaaW.PrintWords Go.Proofs.YtkkgfpdjlohojaaW.PrintLast Go.Proofs.YtkkgfpdjlohojaaW.PrintMore Go.Proofs.Ytkkgfpdjlohojaa.Kit
open Go.Proofs.Ytkkgfpdjlohojaa.TokP
section
variable {w0 W : World} {F : List HP}
set_option maxHeartbeats 1600000 in
set_option maxRecDepth 100000 in
theorem has_ (h : Sep w0 W F) (s : ByteArray) (r : Int) :
    Calls Try.prog 34 #[.string s, .int .i32 r] W fun e w' => e = .returned (.bool (decide (r ∈ runesS s))) ∧ Sep w0 w' F := by
  have H1 : Aside0 (Sep w0 (World.iter W s 0) (SIt W.heap.size s 0 :: F)) := ⟨h.newIt s 0⟩
  clear h
  go_enter Try.func34, Try.ntmps34
  go_wp2_with fail
  obtain ⟨w1, hw1⟩ : ∃ x, World.iter W s 0 = x := ⟨_, rfl⟩
  obtain ⟨g, hg⟩ : ∃ g, W.heap.size = g := ⟨_, rfl⟩
  rw [hw1, hg] at H1
  rw [hw1, hg]
  clear hw1 hg
  go_loopg [] s.size (fun m wr => ∃ pos : Nat, (decide (r ∈ runesS s) = decide (r ∈ runesF s m pos)) ∧ s.size ≤ pos + m ∧ Sep w0 wr (SIt g s pos :: F))
  case atStart => exact ⟨0, rfl, by omega, H1.out⟩
  case round =>
    obtain ⟨pos, hacc, hpm, hS⟩ := hrel
    have HA := Aside0.mk (And.intro hacc hpm)
    by_cases hp : pos < s.size
    · have hnx : ∀ ty, (Instr.next (.pointer (some ⟨g, 0, none⟩)) true ty).run Try.prog wr = _ := fun ty => nextAt ty hS.sit hp
      have hwd := width_pos s pos hp
      obtain ⟨k, rfl⟩ : ∃ k, gk = k + 1 := ⟨gk - 1, by omega⟩
      have hst := runesF_step s k pos hp
      obtain ⟨W2, hW2⟩ : ∃ x, (Utf8.decode s pos).2 = x := ⟨_, rfl⟩
      obtain ⟨x, hr⟩ : ∃ x, (Utf8.decode s pos).1 = x := ⟨_, rfl⟩
      rw [hW2] at hnx hst hwd
      rw [hr] at hnx hst
      have B1 := Aside0.mk (hS.stepIt (pos + W2))
      have HST := Aside0.mk hst
      have HWD := Aside0.mk hwd
      obtain ⟨w2, hw2⟩ : ∃ x, iterTo wr g s (pos + W2) = x := ⟨_, rfl⟩
      rw [hw2] at B1 hnx
      clear hS hacc hpm hst hwd hW2 hr hw2 hp
      by_cases hx : (x : Int) = r
      · have hb : ((x : Int) == r) = true := by simp [hx]
        go_wp2_with fail
        go_ret
        exact ⟨by rw [HA.out.1, HST.out, decide_eq_true (by rw [← hx]; exact List.mem_cons_self ..)]; first | rfl | (simp; done), B1.out.tail⟩
      · have hb : ((x : Int) == r) = false := by simp [hx]
        go_wp2_with fail
        go_roundg k
        case measure => omega
        case rel => exact ⟨pos + W2, by rw [HA.out.1, HST.out]; exact decide_eq_decide.2 ⟨fun h => (List.mem_cons.1 h).resolve_left (fun h2 => hx h2.symm), fun h => List.mem_cons_of_mem _ h⟩, by have := HA.out.2; have := HWD.out; omega, B1.out⟩
    · have hnx : ∀ ty, (Instr.next (.pointer (some ⟨g, 0, none⟩)) true ty).run Try.prog wr = _ := fun ty => nextEnd ty hS.sit hp
      have hend := runesF_end s gk pos hp
      have HE := Aside0.mk hend
      have B2 := Aside0.mk hS.tail
      clear hS hend hpm hacc
      go_wp2_with fail
      go_ret
      exact ⟨by rw [HA.out.1, HE.out]; first | rfl | (simp; done), B2.out⟩
theorem signs_ : runesS ⟨#[43, 45, 42, 47, 37, 38, 124, 94, 60, 61, 33, 46, 44, 64, 36, 35, 63, 58, 59, 91, 93, 126, 194, 171, 194, 187, 194, 169, 194, 174, 194, 164, 194, 161, 206, 187, 207, 128]⟩ = signsL := by decide +kernel
set_option maxHeartbeats 1600000 in
set_option maxRecDepth 100000 in
theorem known_ (h : Sep w0 W F) (r : Int) : Calls Try.prog 27 #[.int .i32 r] W fun e w' => e = .returned (.bool (knownB r)) ∧ Sep w0 w' F := by
  have H := Aside0.mk h
  clear h
  go_enter Try.func27, Try.ntmps27
  go_wp2_with (go_at_call 34; refine (has_ H.out _ r).mono ?_; rintro e w1 ⟨rfl, hS⟩; have B1 := Aside0.mk hS; clear hS)
  all_goals (go_ret; refine ⟨congrArg (fun b => Ending.returned (Value.bool b)) ?_, by first | exact B1.out | exact H.out⟩)
  all_goals (rw [Bool.eq_iff_iff]; simp [knownB, signs_]; try (by_cases hp : r ∈ signsL <;> simp [hp] <;> omega))
end
end Go.Proofs.Ytkkgfpdjlohojaa.RefT
