/- Package reply: how many runes a text has. -/
import Derived.Test.YtfpkhlhojjmgiaaProg
import Derived.Test.YtfpkhlhojjmgiaaSep
import Derived.WalkKit
import Derived.KernelRfl
import Derived.WalkSpells
import Derived.Deep.QuietTactic
import Derived.Deep.RegionWith
import Derived.Deep.LoopGhost
import Derived.Laws.RangeString
import Derived.Laws.RangeAny
namespace Go.Proofs.Ytfpkhlhojjmgiaa.Reply
set_option linter.unusedVariables false
set_option linter.unusedSimpArgs false
open Go.RowKit Go.Proofs.YtfpkhlhojjmgiaaW.PrintWords Go.Proofs.YtfpkhlhojjmgiaaW.PrintLast Go.Proofs.YtfpkhlhojjmgiaaW.PrintMore Go.Proofs.Ytfpkhlhojjmgiaa.Kit
def cntR (s : ByteArray) : Nat → Nat → Int → Int
  | 0, _, acc => acc
  | b + 1, pos, acc => if pos < s.size then cntR s b (pos + (Utf8.decode s pos).2) (wrap64 (acc + 1)) else acc
def runesF (s : ByteArray) : Int := cntR s s.size 0 0
theorem width_pos (s : ByteArray) (pos : Nat) (h : pos < s.size) : 1 ≤ (Utf8.decode s pos).2 := by
  by_cases ha : (s[pos]'h).toNat < 128
  · rw [decode_ascii s pos h ha]
    exact Nat.le_refl _
  · exact (decode_high s pos h (by omega)).2
theorem cntR_end (s : ByteArray) (b pos : Nat) (acc : Int) (h : ¬ pos < s.size) : cntR s b pos acc = acc := by
  cases b with
  | zero => rfl
  | succ b => simp [cntR, h]
set_option maxRecDepth 100000 in
set_option maxHeartbeats 800000 in
theorem runes_ (s : ByteArray) (w : World) : Calls Try.prog 42 #[.string s] w fun e w' => e = .returned (.int .i64 (runesF s)) ∧ Below w.heap.size w w' := by
  go_enter Try.func42, Try.ntmps42
  go_wp2
  go_loopg [3] s.size (fun m v wr => ∃ (pos : Nat) (acc : Int), wr = w.iter s pos ∧ v = .int .i64 acc ∧ cntR s m pos acc = runesF s ∧ s.size ≤ pos + m)
  case atStart => exact ⟨0, 0, rfl, rfl, rfl, by omega⟩
  case round =>
    obtain ⟨pos, acc, rfl, rfl, hc, hb⟩ := hrel
    have HC := Aside0.mk hc
    have HB := Aside0.mk hb
    clear hc hb
    by_cases hp : pos < s.size
    · have hnx : ∀ ty, (Instr.next (.pointer (some ⟨w.heap.size, 0, none⟩)) true ty).run Try.prog (w.iter s pos) = _ := fun ty => run_next_any w s pos ty hp
      go_wp2
      have hwd := width_pos s pos hp
      go_roundg (gk - 1)
      case measure => have := HB.out; omega
      case rel =>
        have hcc := HC.out
        have hbb := HB.out
        obtain ⟨m, rfl⟩ : ∃ m, gk = m + 1 := ⟨gk - 1, by omega⟩
        rw [cntR, if_pos hp] at hcc
        exact ⟨_, _, rfl, rfl, hcc, by omega⟩
    · have hnx : ∀ ty, (Instr.next (.pointer (some ⟨w.heap.size, 0, none⟩)) true ty).run Try.prog (w.iter s pos) = _ := fun ty => run_next_end w s pos ty hp
      have HF : Aside0 (acc = runesF s) := ⟨by have := HC.out; rwa [cntR_end _ _ _ _ hp] at this⟩
      go_wp2
      go_ret
      exact ⟨by rw [HF.out]; first | rfl | (simp; done), below_alloc (Below.refl _ _) _⟩
set_option maxRecDepth 100000 in
set_option maxHeartbeats 800000 in
theorem count_ (s : ByteArray) (w : World) : Calls Try.prog 39 #[.string s] w fun e w' => e = .returned (.int .i64 (runesF s)) ∧ Below w.heap.size w w' := by
  go_enter Try.func39, Try.ntmps39
  go_wp2
  go_loopg [3] s.size (fun m v wr => ∃ (pos : Nat) (acc : Int), wr = w.iter s pos ∧ v = .int .i64 acc ∧ cntR s m pos acc = runesF s ∧ s.size ≤ pos + m)
  case atStart => exact ⟨0, 0, rfl, rfl, rfl, by omega⟩
  case round =>
    obtain ⟨pos, acc, rfl, rfl, hc, hb⟩ := hrel
    have HC := Aside0.mk hc
    have HB := Aside0.mk hb
    clear hc hb
    by_cases hp : pos < s.size
    · have hnx : ∀ ty, (Instr.next (.pointer (some ⟨w.heap.size, 0, none⟩)) true ty).run Try.prog (w.iter s pos) = _ := fun ty => run_next_any w s pos ty hp
      go_wp2
      have hwd := width_pos s pos hp
      go_roundg (gk - 1)
      case measure => have := HB.out; omega
      case rel =>
        have hcc := HC.out
        have hbb := HB.out
        obtain ⟨m, rfl⟩ : ∃ m, gk = m + 1 := ⟨gk - 1, by omega⟩
        rw [cntR, if_pos hp] at hcc
        exact ⟨_, _, rfl, rfl, hcc, by omega⟩
    · have hnx : ∀ ty, (Instr.next (.pointer (some ⟨w.heap.size, 0, none⟩)) true ty).run Try.prog (w.iter s pos) = _ := fun ty => run_next_end w s pos ty hp
      have HF : Aside0 (acc = runesF s) := ⟨by have := HC.out; rwa [cntR_end _ _ _ _ hp] at this⟩
      go_wp2
      go_ret
      exact ⟨by rw [HF.out]; first | rfl | (simp; done), below_alloc (Below.refl _ _) _⟩
end Go.Proofs.Ytfpkhlhojjmgiaa.Reply
