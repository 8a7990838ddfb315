/- Package sum: a step, a sum, a number put and got. -/
import Derived.Test.YtfpkhlhojjmgiaaProg
import Derived.Test.YtfpkhlhojjmgiaaSep
import Derived.Test.YtfpkhlhojjmgiaaBytes
import Derived.WalkKit
import Derived.KernelRfl
import Derived.WalkSpells
import Derived.Deep.QuietTactic
namespace Go.Proofs.Ytfpkhlhojjmgiaa.Sum
set_option linter.unusedVariables false
set_option linter.unusedSimpArgs false
open Go.RowKit Go.Proofs.YtfpkhlhojjmgiaaW.PrintWords Go.Proofs.YtfpkhlhojjmgiaaW.PrintLast Go.Proofs.YtfpkhlhojjmgiaaW.PrintMore Go.Proofs.Ytfpkhlhojjmgiaa.Kit Go.Proofs.Ytfpkhlhojjmgiaa.Plain
abbrev B8 : Kd Int := Kd.int .u8
theorem infoB8 : (Try.prog.info? 5).map (fun i => (i.zero, i.size, i.bytes)) = some (some (.int .u8 0), 1, 1) := by kernel_rfl
theorem sumF_snoc (l : List Int) (x : Int) : sumF (l ++ [x]) = stepF (sumF l) x := by unfold sumF; rw [List.foldl_append]; rfl
theorem stepF_in (h x : Int) : 0 ≤ stepF h x ∧ stepF h x ≤ 4294967295 := by unfold stepF; omega
theorem sumF_in (l : List Int) : 0 ≤ sumF l ∧ sumF l ≤ 4294967295 := by
  rcases List.eq_nil_or_concat l with rfl | ⟨a, x, rfl⟩
  · unfold sumF; simp
  · rw [List.concat_eq_append, sumF_snoc]; exact stepF_in _ _
theorem take_snoc {l : List Int} {j : Nat} (h : j < l.length) : l.take (j + 1) = l.take j ++ [rd l (j : Int)] := by
  rw [List.take_add_one, List.getElem?_eq_getElem h]
  unfold rd
  rw [Int.toNat_natCast, List.getD_eq_getElem?_getD, List.getElem?_eq_getElem h]
  rfl
set_option maxHeartbeats 1600000 in
set_option maxRecDepth 100000 in
theorem put_ {A : Option Addr} {n c : Nat} {l : List Int} {m : Int} {w : World} (hr : B8.C w A n l) (hm : 0 ≤ m ∧ m ≤ 4294967295) (hl : n ≤ 140737488355320) :
    Calls Try.prog 50 #[.slice A n c, .int .u32 m] w fun e w' => ∃ v, e = .returned v ∧ Sep w w' [Row B8 5 v (l ++ put4 m)] := by
  obtain rfl : l.length = n := hr.1
  have HR := Aside0.mk hr
  have HM := Aside0.mk hm
  have L0 := Aside0.mk ((Sep.start w).litRow (enc := Value.int .u8) (h1 := fun _ => rfl) (e := 5) [] (by decide))
  clear hr
  go_enter Try.func50, Try.ntmps50
  go_wp2_with (first | (refine gate_builtin (b := .append) (xs := #[.tmp 7, .tmp 8]) rfl ?_; go_loud (refine L0.out.appendRow rfl (.tmp 7) (.tmp 8) 22 (.int .u8 0) 1 rfl Try.underlying22 infoB8 rfl (by decide) A l.length c rfl rfl (Kd.C_alloc HR.out _) (by simp; omega) ?_; intro v1 w1 hS1; rw [List.nil_append] at hS1; have A1 := Aside0.mk hS1; clear hS1)))
  go_loopg [5, 6] 4 (fun k v p wr => ∃ j : Nat, p = .int .i64 (3 - (j : Int)) ∧ j + k = 4 ∧ Sep w wr [Row B8 5 v (l ++ (put4 m).take j)])
  case atStart => exact ⟨0, rfl, rfl, by rw [List.take_zero, List.append_nil]; exact A1.out⟩
  case round =>
    obtain ⟨j, rfl, hjk, hS⟩ := hrel
    have AS := Aside0.mk hS
    have AK := Aside0.mk hjk
    clear hS
    by_cases hj : j < 4
    · clear hjk
      rcases (by omega : j = 0 ∨ j = 1 ∨ j = 2 ∨ j = 3) with rfl | rfl | rfl | rfl
      · have AR2 := Aside0.mk (AS.out.litRow (enc := Value.int .u8) (h1 := fun _ => rfl) (e := 5) [m / 16777216] (by simp)).at2
        have hT : (put4 m).take 1 = (put4 m).take 0 ++ [m / 16777216] := by unfold put4; simp <;> omega
        have AT := Aside0.mk hT
        clear hT
        go_wp2_with (first | (refine gate_builtin (b := .append) (xs := #[.tmp 14, .tmp 20]) rfl ?_; go_loud (refine AR2.out.appendRow rfl (.tmp 14) (.tmp 20) 22 (.int .u8 0) 1 rfl Try.underlying22 infoB8 rfl (by decide) (some ⟨wr.heap.size, 0, none⟩) 1 1 rfl rfl AR2.out.at2.rowC.2.2 (by simp [put4]; omega) ?_; intro v2 w2 hS2; have AS2 := Aside0.mk hS2; clear hS2)))
        go_roundg (gk - 1)
        case measure => have := AK.out; omega
        case rel => exact ⟨1, by go_num, by have := AK.out; omega, by rw [AT.out, ← List.append_assoc]; exact AS2.out.drop2⟩
      · have AR2 := Aside0.mk (AS.out.litRow (enc := Value.int .u8) (h1 := fun _ => rfl) (e := 5) [m / 65536 % 256] (by simp)).at2
        have hT : (put4 m).take 2 = (put4 m).take 1 ++ [m / 65536 % 256] := by unfold put4; simp <;> omega
        have AT := Aside0.mk hT
        clear hT
        go_wp2_with (first | (refine gate_builtin (b := .append) (xs := #[.tmp 14, .tmp 20]) rfl ?_; go_loud (refine AR2.out.appendRow rfl (.tmp 14) (.tmp 20) 22 (.int .u8 0) 1 rfl Try.underlying22 infoB8 rfl (by decide) (some ⟨wr.heap.size, 0, none⟩) 1 1 rfl rfl AR2.out.at2.rowC.2.2 (by simp [put4]; omega) ?_; intro v2 w2 hS2; have AS2 := Aside0.mk hS2; clear hS2)))
        go_roundg (gk - 1)
        case measure => have := AK.out; omega
        case rel => exact ⟨2, by go_num, by have := AK.out; omega, by rw [AT.out, ← List.append_assoc]; exact AS2.out.drop2⟩
      · have AR2 := Aside0.mk (AS.out.litRow (enc := Value.int .u8) (h1 := fun _ => rfl) (e := 5) [m / 256 % 256] (by simp)).at2
        have hT : (put4 m).take 3 = (put4 m).take 2 ++ [m / 256 % 256] := by unfold put4; simp <;> omega
        have AT := Aside0.mk hT
        clear hT
        go_wp2_with (first | (refine gate_builtin (b := .append) (xs := #[.tmp 14, .tmp 20]) rfl ?_; go_loud (refine AR2.out.appendRow rfl (.tmp 14) (.tmp 20) 22 (.int .u8 0) 1 rfl Try.underlying22 infoB8 rfl (by decide) (some ⟨wr.heap.size, 0, none⟩) 1 1 rfl rfl AR2.out.at2.rowC.2.2 (by simp [put4]; omega) ?_; intro v2 w2 hS2; have AS2 := Aside0.mk hS2; clear hS2)))
        go_roundg (gk - 1)
        case measure => have := AK.out; omega
        case rel => exact ⟨3, by go_num, by have := AK.out; omega, by rw [AT.out, ← List.append_assoc]; exact AS2.out.drop2⟩
      · have AR2 := Aside0.mk (AS.out.litRow (enc := Value.int .u8) (h1 := fun _ => rfl) (e := 5) [m % 256] (by simp)).at2
        have hT : (put4 m).take 4 = (put4 m).take 3 ++ [m % 256] := by unfold put4; simp <;> omega
        have AT := Aside0.mk hT
        clear hT
        go_wp2_with (first | (refine gate_builtin (b := .append) (xs := #[.tmp 14, .tmp 20]) rfl ?_; go_loud (refine AR2.out.appendRow rfl (.tmp 14) (.tmp 20) 22 (.int .u8 0) 1 rfl Try.underlying22 infoB8 rfl (by decide) (some ⟨wr.heap.size, 0, none⟩) 1 1 rfl rfl AR2.out.at2.rowC.2.2 (by simp [put4]; omega) ?_; intro v2 w2 hS2; have AS2 := Aside0.mk hS2; clear hS2)))
        go_roundg (gk - 1)
        case measure => have := AK.out; omega
        case rel => exact ⟨4, by go_num, by have := AK.out; omega, by rw [AT.out, ← List.append_assoc]; exact AS2.out.drop2⟩
    · have hj4 : j = 4 := by omega
      subst hj4
      clear hjk hj AK
      go_wp2_with fail
      go_ret
      exact ⟨_, by first | rfl | (simp; done), AS.out⟩
end Go.Proofs.Ytfpkhlhojjmgiaa.Sum
