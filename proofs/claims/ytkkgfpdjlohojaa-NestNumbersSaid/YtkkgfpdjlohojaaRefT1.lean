/- engramref9: runes, has, Name, Known. -/
import Derived.Test.YtkkgfpdjlohojaaRune
import Derived.Test.YtkkgfpdjlohojaaTokP
import Derived.Deep.LoopGhost
namespace Go.Proofs.Ytkkgfpdjlohojaa.RefT
set_option linter.unusedVariables false
set_option linter.unusedSimpArgs false
open Go.RowKit Go.Proofs.YtkkgfpdjlohojaaW.PrintWords Go.Proofs.YtkkgfpdjlohojaaW.PrintLast Go.Proofs.YtkkgfpdjlohojaaW.PrintMore Go.Proofs.Ytkkgfpdjlohojaa.Kit
open Go.Proofs.Ytkkgfpdjlohojaa.TokP
abbrev R32 : Kd Int := Kd.int .i32
theorem info32 : (Try.prog.info? 21).map (fun i => (i.zero, i.size, i.bytes)) = some (some (.int .i32 0), 1, 4) := by kernel_rfl
section
variable {w0 W : World} {F : List HP}
set_option maxHeartbeats 1600000 in
set_option maxRecDepth 100000 in
theorem runes_ (h : Sep w0 W F) (s : ByteArray) (hs : s.size ≤ 1000000) :
    Calls Try.prog 25 #[.string s] W fun e w' => ∃ v, e = .returned v ∧ Sep w0 w' (Row R32 21 v (runesS s) :: F) := by
  have H1 : Aside0 (Sep w0 (World.iter W s 0) (SIt W.heap.size s 0 :: Row R32 21 (.slice none 0 0) [] :: F)) := ⟨(h.nilRow R32 21).newIt s 0⟩
  clear h
  go_enter Try.func25, Try.ntmps25
  go_wp2_with fail
  obtain ⟨w1, hw1⟩ : ∃ x, World.iter W s 0 = x := ⟨_, rfl⟩
  obtain ⟨g, hg⟩ : ∃ g, W.heap.size = g := ⟨_, rfl⟩
  rw [hw1, hg] at H1
  rw [hw1, hg]
  clear hw1 hg
  go_loopg [3] s.size (fun m v wr => ∃ (pos : Nat) (acc : List Int), acc ++ runesF s m pos = runesS s ∧ s.size ≤ pos + m ∧ acc.length ≤ pos ∧ Sep w0 wr (SIt g s pos :: Row R32 21 v acc :: F))
  case atStart => exact ⟨0, [], rfl, by omega, Nat.zero_le _, H1.out⟩
  case round =>
    obtain ⟨pos, acc, hacc, hpm, hal, hS⟩ := hrel
    have HA := Aside0.mk (And.intro hacc (And.intro hpm hal))
    by_cases hp : pos < s.size
    · have hnx : ∀ ty, (Instr.next (.pointer (some ⟨g, 0, none⟩)) true ty).run Try.prog wr = _ := fun ty => nextAt ty hS.sit hp
      have hwd := width_pos s pos hp
      obtain ⟨k, rfl⟩ : ∃ k, gk = k + 1 := ⟨gk - 1, by omega⟩
      have hst := runesF_step s k pos hp
      obtain ⟨W2, hW2⟩ : ∃ x, (Utf8.decode s pos).2 = x := ⟨_, rfl⟩
      obtain ⟨r, hr⟩ : ∃ x, (Utf8.decode s pos).1 = x := ⟨_, rfl⟩
      rw [hW2] at hnx hst hwd
      rw [hr] at hnx hst
      have B1 := Aside0.mk (hS.stepIt (pos + W2))
      have HST := Aside0.mk hst
      have HWD := Aside0.mk hwd
      have HP := Aside0.mk hp
      obtain ⟨w2, hw2⟩ : ∃ x, iterTo wr g s (pos + W2) = x := ⟨_, rfl⟩
      rw [hw2] at B1 hnx
      have L := Aside0.mk (B1.out.litRow (enc := Value.int .i32) (h1 := fun _ => rfl) (e := 21) [(r : Int)] (by simp)).at3
      clear hS hacc hpm hal hst hwd hW2 hr hw2 hp
      go_wp2_with (first | (refine gate_builtin (b := .append) (xs := #[.tmp 11, .tmp 13]) rfl ?_; go_loud (refine L.out.appendRow rfl (.tmp 11) (.tmp 13) 48 (.int .i32 0) 4 rfl Try.underlying48 info32 rfl (by decide) (some ⟨w2.heap.size, 0, none⟩) 1 1 rfl rfl L.out.at2.rowC.2.2 (by have := HA.out.2.2; have := HP.out; simp; omega) ?_; intro v7 w7 hS7; have B7 := Aside0.mk hS7.at2.tail.at2; clear hS7)))
      go_roundg k
      case measure => omega
      case rel => exact ⟨pos + W2, acc ++ [(r : Int)], by rw [List.append_assoc]; have h9 := HA.out.1; rw [HST.out] at h9; exact h9, by have := HA.out.2.1; have := HWD.out; omega, by rw [List.length_append]; have := HA.out.2.2; have := HWD.out; simp; omega, B7.out⟩
    · have hnx : ∀ ty, (Instr.next (.pointer (some ⟨g, 0, none⟩)) true ty).run Try.prog wr = _ := fun ty => nextEnd ty hS.sit hp
      have hend := runesF_end s gk pos hp
      rw [hend, List.append_nil] at hacc
      have B2 := Aside0.mk hS.tail
      have HC := Aside0.mk hacc
      clear hS hacc hend hpm hal
      go_wp2_with fail
      go_ret
      exact ⟨_, by first | rfl | (simp; done), by rw [← HC.out]; exact B2.out⟩
set_option maxHeartbeats 1600000 in
set_option maxRecDepth 100000 in
theorem name_ (r : Int) : Calls Try.prog 26 #[.int .i32 r] W fun e w' => e = .returned (.bool (nameB r)) ∧ W = w' := by
  go_enter Try.func26, Try.ntmps26
  go_wp2_with fail
  all_goals (go_ret; refine ⟨congrArg (fun b => Ending.returned (Value.bool b)) ?_, rfl⟩)
  all_goals (rw [Bool.eq_iff_iff]; simp [nameB]; try omega)
end
end Go.Proofs.Ytkkgfpdjlohojaa.RefT
