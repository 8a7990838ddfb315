/- engramlaw11.known. -/
import Derived.Test.YtfpkhlhojjmgiaaCells6
import Derived.Test.YtfpkhlhojjmgiaaSame
namespace Go.Proofs.Ytfpkhlhojjmgiaa.Cells
set_option linter.unusedVariables false
set_option linter.unusedSimpArgs false
open Go.RowKit Go.Proofs.YtfpkhlhojjmgiaaW.PrintWords Go.Proofs.YtfpkhlhojjmgiaaW.PrintLast Go.Proofs.YtfpkhlhojjmgiaaW.PrintMore Go.Proofs.Ytfpkhlhojjmgiaa.Kit Go.Proofs.Ytfpkhlhojjmgiaa.Base Go.Proofs.Ytfpkhlhojjmgiaa.Plain
def kb : List Int := storeB (List.replicate 64 0) 56 (-2) 8
theorem kb_load : loadF kb 63 1 = 255 := by decide +kernel
theorem kb_len : kb.length = 64 := by decide +kernel
theorem kb_dirt : dirtB (List.replicate 1 false) 56 8 = [true] := by decide +kernel
theorem zeros_bytes (n : Nat) : Bytes (List.replicate n 0) := fun x hx => by
  have := List.eq_of_mem_replicate hx
  omega
set_option maxHeartbeats 1600000 in
set_option maxRecDepth 100000 in
theorem known_ (w : World) : Calls Try.prog 15 #[] w fun e w' => e = .returned (.bool true) ∧ Below w.heap.size w w' := by
  have hmk := make_ (m := 5) (by omega)
  rw [show ((5 : Nat) : Int) = 5 from rfl] at hmk
  go_enter Try.func15, Try.ntmps15
  go_wp2_with fail
  refine (new_ok (n := 1) (most := 2) (by decide) (by decide)).mono ?_
  rintro e w1 ⟨g, rfl, hS⟩
  have A1 := Aside0.mk hS
  have M1 := Aside0.mk (madeB 5 hS (by omega))
  clear hS
  go_wp2_with fail
  refine (new_none (n := 2) (most := 1) (by decide)).mono ?_
  rintro e w2 ⟨rfl, rfl⟩
  go_wp2_with fail
  refine (of_none (k := 5) (most := 9) (by decide) (by decide)).mono ?_
  rintro e w2 ⟨rfl, rfl⟩
  clear hmk
  go_wp2_with fail
  refine (load_out M1.out.tail 57 true (by rw [List.length_replicate]; decide)).mono ?_
  rintro e w2 ⟨rfl, hS2⟩
  have A2 := Aside0.mk hS2
  clear hS2 A1
  go_wp2_with fail
  refine (store_in A2.out 56 (-2) true (by rw [List.length_replicate]; decide)).mono ?_
  rintro e w3 ⟨rfl, hS3⟩
  rw [show storeB (List.replicate (64 * 1) 0) 56 (-2) (wd true) = kb from rfl, show dirtB (List.replicate 1 false) 56 (wd true) = [true] from kb_dirt] at hS3
  have A3 := Aside0.mk hS3
  clear hS3
  go_wp2_with fail
  refine (load_in A3.out (storeB_bytes _ _ (zeros_bytes 64) 8) 63 false (by rw [kb_len]; decide)).mono ?_
  rintro e w4 ⟨rfl, hS4⟩
  rw [show loadF kb 63 (wd false) = 255 from kb_load]
  have A4 := Aside0.mk hS4
  clear hS4
  go_wp2_with fail
  refine (grow_in A4.out 1 (by decide)).mono ?_
  rintro e w5 ⟨rfl, hS5⟩
  have A5 := Aside0.mk hS5
  clear hS5
  go_wp2_with fail
  refine (grow_out A5.out 1 (.inr (by decide))).mono ?_
  rintro e w6 ⟨rfl, rfl⟩
  go_wp2_with fail
  refine (grow_in A5.out 0 (by decide)).mono ?_
  rintro e w6 ⟨rfl, hS6⟩
  have A6 := Aside0.mk hS6
  clear hS6
  go_wp2_with fail
  refine (dirty_ A6.out).mono ?_
  rintro e w7 ⟨v7, rfl, hS7⟩
  rw [show dirtyI ([true] ++ List.replicate 1 true ++ List.replicate 0 true) = [0, 1] from rfl] at hS7
  obtain ⟨A, c, rfl⟩ := hS7.rowN (n := 2) rfl
  have A7 := Aside0.mk (hS7.litRow (enc := Value.int .i64) (h1 := fun _ => rfl) (e := 3) [0, 1] (by decide))
  clear hS7
  go_wp2_with fail
  refine (Book.sameI_ (xs := [0, 1]) (ys := [0, 1]) A7.out.at2.rowC.2.2 A7.out.rowC.2.2).mono ?_
  rintro e w8 ⟨rfl, hb8⟩
  have A8 := Aside0.mk (A7.out.below hb8)
  clear hb8
  rw [show decide ([(0 : Int), 1] = [0, 1]) = true from rfl]
  go_wp2_with fail
  refine (most_ A8.out.tail.tail).mono ?_
  rintro e w9 ⟨rfl, rfl⟩
  go_wp2_with fail
  go_ret
  exact ⟨by first | rfl | (simp; done), A8.out.toBelow⟩
end Go.Proofs.Ytfpkhlhojjmgiaa.Cells
