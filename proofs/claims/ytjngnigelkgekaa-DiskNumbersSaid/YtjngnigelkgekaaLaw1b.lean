/- Chapter 1's laws: what is known. -/
import Derived.Test.YtjngnigelkgekaaLaw1a
namespace Go.Proofs.Ytjngnigelkgekaa.Disk
set_option linter.unusedVariables false
set_option linter.unusedSimpArgs false
open Go.RowKit Go.Proofs.YtjngnigelkgekaaW.PrintWords Go.Proofs.YtjngnigelkgekaaW.PrintLast Go.Proofs.YtjngnigelkgekaaW.PrintMore Go.Proofs.Ytjngnigelkgekaa.Kit
def onesAt (j : Nat) : List Int := List.replicate j 1 ++ List.replicate (64 - j) 0
theorem ones_set {j : Nat} (hj : j < 64) : (onesAt j).set j 1 = onesAt (j + 1) := by
  unfold onesAt
  rw [List.set_append_right _ _ (by simp), List.length_replicate, Nat.sub_self, show 64 - j = (64 - (j + 1)) + 1 by omega, List.replicate_succ, List.set_cons_zero, List.replicate_succ', List.append_assoc]
  rfl
def wt1 : Wt := fun j => if j = 1 then some (onesAt 64) else none
def las1 : List Int := List.replicate 64 0 ++ [1, 1, 1] ++ List.replicate 61 0
theorem crash1 : crashed (List.replicate (2 * 64) 0) wt1 [3] = las1 := by kernel_rfl
theorem crash2 : crashed las1 (fun _ => none) [] = las1 := by kernel_rfl
theorem sec1 : sec las1 1 = [1, 1, 1] ++ List.replicate 61 0 := by kernel_rfl
set_option maxHeartbeats 1600000 in
set_option maxRecDepth 100000 in
theorem known_ (w : World) : Calls Try.prog 51 #[] w fun e w' => e = .returned (.bool true) ∧ Below w.heap.size w w' := by
  have hmk63 : ∀ W : World, (Instr.makeSlice 30 (.int .i64 63) (.int .i64 63)).run Try.prog W = .ok (.slice (some ⟨W.heap.size, 0, none⟩) 63 63) (W.alloc (.cells (madeCells #[.int .u8 0] 63) 5)) := make_ (m := 63) (by omega)
  have hmk64 : ∀ W : World, (Instr.makeSlice 30 (.int .i64 64) (.int .i64 64)).run Try.prog W = .ok (.slice (some ⟨W.heap.size, 0, none⟩) 64 64) (W.alloc (.cells (madeCells #[.int .u8 0] 64) 5)) := make_ (m := 64) (by omega)
  go_enter Try.func51, Try.ntmps51
  go_wp2_with fail
  refine (new_ok (n := 2) (w := w) (by omega) (by omega)).mono ?_
  rintro e w1 ⟨g, rfl, hS1⟩
  go_wp2_with fail
  refine (new_none (n := 0) (by omega)).mono ?_
  rintro e w2 ⟨rfl, rfl⟩
  go_wp2_with fail
  refine (new_none (n := 161) (by omega)).mono ?_
  rintro e w2 ⟨rfl, rfl⟩
  go_wp2_with fail
  have h63 := madeB 63 hS1 (by omega)
  refine (of_none (m := 63) (l := List.replicate 63 0) h63.rowRd.rd (by omega)).mono ?_
  rintro e w2 ⟨rfl, rfl⟩
  go_wp2_with fail
  have h64 := madeB 64 h63.tail (by omega)
  rw [show (w1.alloc (Obj.cells (madeCells #[.int .u8 0] 63) 5)).heap.size = w1.heap.size + 1 by simp] at h64
  have A64 := Aside0.mk h64
  clear h63 h64 hS1 hmk63 hmk64
  go_loopg [27] 64 (fun k p wr => ∃ j : Nat, p = .int .i64 (j : Int) ∧ j + k = 64 ∧ Sep w wr (Row U8 5 (.slice (some ⟨w1.heap.size + 1, 0, none⟩) 64 64) (onesAt j) :: [Dsk g (List.replicate (2 * 64) 0) (fun _ => none)]))
  case atStart => exact ⟨0, rfl, rfl, A64.out⟩
  case round =>
    obtain ⟨j, rfl, hjk, hS⟩ := hrel
    by_cases hj : j < 64
    · obtain ⟨f1, f2⟩ := hS.rowCell (0 : Int) j hj
      have AS := Aside0.mk hS
      have AK := Aside0.mk hjk
      clear hS hjk
      go_wp2
      go_roundg (gk - 1)
      case measure => have := AK.out; omega
      case rel => exact ⟨j + 1, by go_num, by have := AK.out; omega, by have := AS.out.putRow j 1; rw [ones_set hj] at this; exact this⟩
    · have hj64 : j = 64 := by omega
      subst hj64
      have AS := Aside0.mk hS
      clear hS hjk hj
      go_wp2_with fail
      refine (write_in AS.out.at2 1 (by simp) AS.out.rowC.2.2 (Nat.le_refl _)).mono ?_
      rintro e w3 ⟨rfl, hS3⟩
      go_wp2_with fail
      have hS3 : Sep w w3 (Dsk g (List.replicate (2 * 64) 0) wt1 :: [Row U8 5 (.slice (some ⟨w1.heap.size + 1, 0, none⟩) 64 64) (onesAt 64)]) := hS3
      have hL := (hS3.litRow (enc := Value.int .i64) (h1 := fun _ => rfl) (e := 3) [3] (by decide)).at2
      refine (crash_ hL (fun W' h => h.rowRd.rd)).mono ?_
      rintro e w4 ⟨rfl, hS4⟩
      have hk : ((keysOf ((List.replicate (2 * 64) (0 : Int)).length / 64) wt1).length : Int) = 1 := by kernel_rfl
      rw [hk]
      rw [crash1] at hS4
      clear hL hS3 hk
      go_wp2_with fail
      refine (read_in hS4 1 (by decide)).mono ?_
      rintro e w5 ⟨v, rfl, hS5⟩
      simp only [Option.getD_none] at hS5
      rw [sec1] at hS5
      obtain ⟨gv, cv, rfl⟩ := hS5.rowFormN (n := 64) (by decide) (by decide)
      have f2 : w5.cell? ⟨gv, 2, none⟩ = some (.int .u8 1) := (hS5.rowCell (0 : Int) 2 (by decide)).1
      have f3 : w5.cell? ⟨gv, 3, none⟩ = some (.int .u8 0) := (hS5.rowCell (0 : Int) 3 (by decide)).1
      have A5 := Aside0.mk hS5.tail
      clear hS4 hS5 AS A64
      go_wp2_with fail
      refine (crash_ (cuts := []) A5.out (fun W' h => Kd.C_nil _ _)).mono ?_
      rintro e w6 ⟨rfl, hS6⟩
      rw [keys_none]
      rw [crash2] at hS6
      clear f2 f3
      go_wp2_with fail
      refine (write_out hS6 2 (n := 64) (by decide) (.inl (by decide))).mono ?_
      rintro e w7 ⟨rfl, rfl⟩
      go_wp2_with fail
      refine (write_out hS6 0 (n := 63) (by decide) (.inr (by decide))).mono ?_
      rintro e w7 ⟨rfl, rfl⟩
      go_wp2_with fail
      refine (len_ hS6).mono ?_
      rintro e w7 ⟨rfl, rfl⟩
      rw [show ((las1.length : Int) / 64) = 2 from by decide]
      go_wp2_with fail
      refine (image_ hS6).mono ?_
      rintro e w8 ⟨v8, rfl, hS8⟩
      obtain ⟨A8, c8, rfl⟩ := hS8.rowN (n := 128) (by decide)
      have A8' := Aside0.mk hS8
      clear hS6 hS8 A5
      go_wp2_with fail
      go_ret
      exact ⟨by first | rfl | (simp; done), A8'.out.toBelow⟩
end Go.Proofs.Ytjngnigelkgekaa.Disk
