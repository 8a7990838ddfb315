/- Memory: pages put behind; which pages are dirty. -/
import Derived.Test.YtfpkhlhojjmgiaaCells4
namespace Go.Proofs.Ytfpkhlhojjmgiaa.Cells
set_option linter.unusedVariables false
set_option linter.unusedSimpArgs false
open Go.RowKit Go.Proofs.YtfpkhlhojjmgiaaW.PrintWords Go.Proofs.YtfpkhlhojjmgiaaW.PrintLast Go.Proofs.YtfpkhlhojjmgiaaW.PrintMore Go.Proofs.Ytfpkhlhojjmgiaa.Kit Go.Proofs.Ytfpkhlhojjmgiaa.Base Go.Proofs.Ytfpkhlhojjmgiaa.Plain
section
variable {w0 W : World} {g : Nat} {b : List Int} {most : Int} {dirty : List Bool} {F : List HP}
set_option maxHeartbeats 400000 in
theorem grow_out (h : Sep w0 W (Mem g b most dirty :: F)) (n : Int) (hn : n < 0 ∨ most - (dirty.length : Int) < n) :
    Calls Try.prog 20 #[.pointer (some ⟨g, 0, none⟩), .int .i64 n] W fun e w' => e = .returned (.int .i64 (-1)) ∧ W = w' := by
  obtain ⟨Ab, cb, Ad, cd, hq, hs⟩ := open_ h
  have c1 : W.cell? ⟨g, 1, none⟩ = some (.int .i64 most) := by rw [hs.cell 1]; rfl
  have hm1 : most ≤ 64 := hq.2.2.1
  have hm2 : (dirty.length : Int) ≤ most := hq.2.1
  have AH := Aside0.mk h
  clear hs hq h
  by_cases h0 : n < 0
  · clear hn
    go_enter Try.func20, Try.ntmps20
    go_wp2_with fail
    refine (pages_ AH.out).mono ?_
    rintro e w2 ⟨rfl, rfl⟩
    go_wp2_with fail
    go_ret
    exact ⟨by first | rfl | (simp; done), rfl⟩
  · have h1 : most - (dirty.length : Int) < n := by omega
    clear hn
    go_enter Try.func20, Try.ntmps20
    go_wp2_with fail
    refine (pages_ AH.out).mono ?_
    rintro e w2 ⟨rfl, rfl⟩
    go_wp2_with fail
    go_ret
    exact ⟨by first | rfl | (simp; done), rfl⟩
set_option maxHeartbeats 1600000 in
set_option maxRecDepth 100000 in
theorem grow_in (h : Sep w0 W (Mem g b most dirty :: F)) (n : Nat) (hn : (dirty.length : Int) + (n : Int) ≤ most) :
    Calls Try.prog 20 #[.pointer (some ⟨g, 0, none⟩), .int .i64 (n : Int)] W fun e w' => e = .returned (.int .i64 (dirty.length : Int)) ∧ Sep w0 w' (Mem g (b ++ List.replicate (64 * n) 0) most (dirty ++ List.replicate n true) :: F) := by
  obtain ⟨Ab, cb, Ad, cd, hq, hs⟩ := open_ h
  have c1 : W.cell? ⟨g, 1, none⟩ = some (.int .i64 most) := by rw [hs.cell 1]; rfl
  have hm1 : most ≤ 64 := hq.2.2.1
  have hm2 : ¬ (most - (dirty.length : Int) < (n : Int)) := by omega
  have hn0 : ¬ ((n : Int) < 0) := by omega
  have hbl := hq.1
  have ABL := Aside0.mk hbl
  have AH := Aside0.mk h
  have AN := Aside0.mk hn
  clear hs hq h hbl
  go_enter Try.func20, Try.ntmps20
  go_wp2_with fail
  refine (pages_ AH.out).mono ?_
  rintro e w2 ⟨rfl, rfl⟩
  go_wp2_with fail
  go_loopg [21] n (fun m p wr => ∃ j : Nat, j + m = n ∧ p = .int .i64 (j : Int) ∧ Sep w0 wr (Mem g (b ++ List.replicate (64 * j) 0) most (dirty ++ List.replicate j true) :: F))
  case atStart => exact ⟨0, by omega, rfl, by rw [Nat.mul_zero, List.replicate_zero, List.replicate_zero, List.append_nil, List.append_nil]; exact AH.out⟩
  case round =>
    obtain ⟨j, hjm, rfl, hS⟩ := hrel
    have AK := Aside0.mk hjm
    by_cases hj : j < n
    · have hnn := AN.out
      obtain ⟨Ab, cb, Ad, cd, hq, hs⟩ := open_ hS
      have c0 : wr.cell? ⟨g, 0, none⟩ = some (.slice Ab (b ++ List.replicate (64 * j) 0).length cb) := (hs.cell 0).trans rfl
      have HL1 : Aside0 (((b ++ List.replicate (64 * j) (0 : Int)) ++ List.replicate 64 0).length = b.length + 64 * j + 64) := ⟨by simp; omega⟩
      have HL2 : Aside0 ((dirty ++ List.replicate j true ++ [true]).length = dirty.length + j + 1) := ⟨by simp; omega⟩
      have hl1 : (b ++ List.replicate (64 * j) (0 : Int)).length = b.length + 64 * j := by simp
      have hl2 : (dirty ++ List.replicate j true).length = dirty.length + j := by simp
      rw [hl1] at c0
      rw [hl1, hl2] at hs
      have HS := Aside0.mk hs.at2
      have hb5 : b.length + 64 * j ≤ 5000 := by have := ABL.out; omega
      have hd5 : dirty.length + j ≤ 100 := by omega
      have AL := Aside0.mk (And.intro hl1 hl2)
      clear hS hs hq hl1 hl2
      go_wp2_with (first | (refine gate_builtin (b := .append) (xs := #[.tmp 27, .const (.int .i64 64)]) rfl ?_; go_loud (refine HS.out.zerosRow (0 : Int) rfl (.tmp 27) (.const (.int .i64 64)) 22 3 1 rfl Try.underlying22 Try.underlying3 infoB rfl (by decide) 64 rfl rfl (by rw [AL.out.1]; omega) ?_; intro v1 w1 hS1; obtain ⟨A1, k1, rfl⟩ := hS1.rowN HL1.out; have c1 : w1.cell? ⟨g, 0, none⟩ = some (.slice Ab (b.length + 64 * j) cb) := (hS1.at2.cell 0).trans rfl; have f1 := hS1.at2.frozen 0; have hS2 := hS1.at2.setBlk 0 (.slice A1 (b.length + 64 * j + 64) k1); have c2 : (w1.setCell ⟨g, 0, none⟩ (.slice A1 (b.length + 64 * j + 64) k1)).cell? ⟨g, 2, none⟩ = some (.slice Ad (dirty.length + j) cd) := (hS2.cell 2).trans rfl; have hS3 := hS2.litRow (enc := Value.bool) (h1 := fun _ => rfl) (e := 4) [true] (by decide); rw [show (w1.setCell ⟨g, 0, none⟩ (.slice A1 (b.length + 64 * j + 64) k1)).heap.size = w1.heap.size by simp [World.setCell]] at hS3; have A2 := Aside0.mk hS3; clear hS1 hS2 hS3)) | (refine gate_builtin (b := .append) (xs := #[.tmp 35, .tmp 36]) rfl ?_; go_loud (refine A2.out.at4.appendRow rfl (.tmp 35) (.tmp 36) 58 (.bool false) 1 rfl Try.underlying58 infoT rfl (by decide) (some ⟨w1.heap.size, 0, none⟩) 1 1 rfl rfl A2.out.rowC.2.2 (by rw [AL.out.2, List.length_singleton]; omega) ?_; intro v3 w3 hS3; obtain ⟨A3, k3, rfl⟩ := hS3.rowN HL2.out; have c3 : w3.cell? ⟨g, 2, none⟩ = some (.slice Ad (dirty.length + j) cd) := (hS3.at3.cell 2).trans rfl; have f3 := hS3.at3.frozen 2; have A4 := Aside0.mk (hS3.at3.setBlk 2 (.slice A3 (dirty.length + j + 1) k3)); clear hS3)))
      go_roundg (gk - 1)
      case measure => have := AK.out; omega
      case rel =>
        refine ⟨j + 1, by have := AK.out; omega, by go_num, ?_⟩
        have h5 := A4.out.at4.at4.tail.at2
        have e1 : b ++ List.replicate (64 * (j + 1)) (0 : Int) = b ++ List.replicate (64 * j) 0 ++ List.replicate 64 0 := by rw [List.append_assoc, List.replicate_append_replicate, Nat.mul_add, Nat.mul_one]
        have e2 : dirty ++ List.replicate (j + 1) true = dirty ++ List.replicate j true ++ [true] := by rw [List.append_assoc]; congr 1; exact List.replicate_succ' ..
        rw [e1, e2]
        exact shut_ (by have := ABL.out; simp; omega) (by have := AN.out; simp; omega) hm1 h5
    · have hjn : j = n := by omega
      subst hjn
      have A5 := Aside0.mk hS
      clear hS hjm AK hj
      go_wp2_with fail
      go_ret
      exact ⟨by first | rfl | (simp; done), A5.out⟩
end
end Go.Proofs.Ytfpkhlhojjmgiaa.Cells
