/- engramlaw15.known. -/
import Derived.Test.YtfpkhlhojjmgiaaShade3
import Derived.Test.YtfpkhlhojjmgiaaElem
import Derived.Test.YtfpkhlhojjmgiaaCellsKnown
namespace Go.Proofs.Ytfpkhlhojjmgiaa.Shade
set_option linter.unusedVariables false
set_option linter.unusedSimpArgs false
open Go.RowKit Go.Proofs.YtfpkhlhojjmgiaaW.PrintWords Go.Proofs.YtfpkhlhojjmgiaaW.PrintLast Go.Proofs.YtfpkhlhojjmgiaaW.PrintMore Go.Proofs.Ytfpkhlhojjmgiaa.Kit Go.Proofs.Ytfpkhlhojjmgiaa.Base Go.Proofs.Ytfpkhlhojjmgiaa.Plain Go.Proofs.Ytfpkhlhojjmgiaa.Cells
theorem byte_at {A : Option Addr} {n : Nat} {b : List Int} {w : World} (hr : U8.C w A n b) {i : Nat} (hi : i < n) : ∃ ad, A = some ad ∧ w.cell? (ad.add i) = some (.int .u8 (rd b (i : Int))) := by
  obtain ⟨ad, hA, hc⟩ := Kd.at_int hr (i : Int) (by omega) (by omega)
  rw [Int.toNat_natCast] at hc
  exact ⟨ad, hA, hc⟩
def kz : List Int := List.replicate 64 0
def kq : List Int := storeB kz 3 9 1
def kb2 : List Int := kq ++ List.replicate 64 0
theorem k_changes : changesF kz kb2 1 2 5 = [(5, kq), (6, kz)] := by decide +kernel
theorem k_same : changesF kz kz 1 1 0 = [] := by decide +kernel
theorem k_len : kq.length = 64 := by decide +kernel
theorem k_at : rd kq 3 = 9 := by decide +kernel
theorem k_read : readF (metaF 7 3) = (7, 3, true) := by decide +kernel
theorem k_read2 : readF kz = (0, 0, false) := by decide +kernel
theorem k_mlen : (metaF 7 3).length = 64 := by decide +kernel
theorem put4_bytes (n : Int) : Bytes (put4 n) := by
  intro x hx
  simp only [put4, List.mem_cons, List.not_mem_nil, or_false] at hx
  rcases hx with rfl | rfl | rfl | rfl <;> omega
theorem mark_bytes : Bytes mark := by
  intro x hx
  simp only [mark, List.mem_cons, List.not_mem_nil, or_false] at hx
  rcases hx with rfl | rfl | rfl | rfl <;> omega
theorem meta_bytes (t p : Int) : Bytes (metaF t p) := ((mark_bytes.app (put4_bytes t)).app (put4_bytes p)).app (zeros_bytes 52)
set_option maxHeartbeats 3200000 in
set_option maxRecDepth 100000 in
theorem known_ (w : World) : Calls Try.prog 32 #[] w fun e w' => e = .returned (.bool true) ∧ Below w.heap.size w w' := by
  have hmk := make_ (m := 64) (by omega)
  rw [show ((64 : Nat) : Int) = 64 from rfl] at hmk
  go_enter Try.func32, Try.ntmps32
  go_wp2_with fail
  refine (new_ok (n := 1) (most := 2) (by decide) (by decide)).mono ?_
  rintro e w1 ⟨g, rfl, hS1⟩
  have A1 : Aside0 (Sep w w1 [Mem g kz 2 [false]]) := ⟨hS1⟩
  clear hS1
  go_wp2_with fail
  refine (copy_ A1.out).mono ?_
  rintro e w2 ⟨g2, rfl, hS2⟩
  have A2 := Aside0.mk hS2
  clear hS2
  go_wp2_with fail
  refine (store_in A2.out 3 9 false (by decide)).mono ?_
  rintro e w3 ⟨rfl, hS3⟩
  have A3 : Aside0 (Sep w w3 [Mem g2 kq 2 [true], Mem g kz 2 [false]]) := ⟨hS3⟩
  clear hS3
  go_wp2_with fail
  refine (grow_in A3.out 1 (by decide)).mono ?_
  rintro e w4 ⟨rfl, hS4⟩
  have A4 : Aside0 (Sep w w4 [Mem g2 kb2 2 [true, true], Mem g kz 2 [false]]) := ⟨hS4⟩
  clear hS4
  go_wp2_with fail
  refine (changes_ (first := 5) A4.out (.swap _ _ _) (.refl _) (by decide)).mono ?_
  rintro e w5 ⟨v5, rfl, hS5⟩
  rw [show changesF kz kb2 [false].length [true, true].length 5 = [(5, kq), (6, kz)] from k_changes] at hS5
  obtain ⟨A5', c5, rfl⟩ := hS5.rowN (n := 2) rfl
  have A5 := Aside0.mk hS5
  clear hS5
  go_wp2_with fail
  refine (meta_ (t := 7) (p := 3) (by decide) (by decide)).mono ?_
  rintro e w6 ⟨v6, rfl, hS6⟩
  obtain ⟨A6', c6, rfl⟩ := hS6.rowN k_mlen
  have A6 := Aside0.mk (A5.out.lift1 hS6)
  clear hS6
  go_wp2_with fail
  refine (read_ A6.out.rowC' A6.out.rowC.2.1 (meta_bytes 7 3)).mono ?_
  rintro e w7 ⟨rfl, hb7⟩
  rw [k_read]
  have A7 := Aside0.mk (madeB 64 (A6.out.below hb7).tail (by omega))
  clear hb7
  go_wp2_with fail
  refine (read_ (b := kz) A7.out.rowC' (Nat.le_refl _) (zeros_bytes 64)).mono ?_
  rintro e w8 ⟨rfl, hb8⟩
  rw [k_read2]
  have A8 := Aside0.mk (A7.out.below hb8).tail
  clear hb8 hmk
  have hC8 := A8.out.rowC'
  obtain ⟨hx0, ad, B0, c0, rfl, z00, z01, zc, zC⟩ := elem2_ hC8 (i := 0) (by decide)
  obtain ⟨hx1, ad', B1, c1, had, z10, -, -, -⟩ := elem2_ hC8 (i := 1) (by decide)
  cases had
  obtain ⟨bd, rfl, zb⟩ := byte_at zC (i := 3) (by show 3 < kq.length; rw [k_len]; decide)
  rw [show ad.add (0 * 2) = ad by simp [Addr.add]] at z00 z01
  replace z00 : w8.cell? ad = some (.int .i64 5) := z00
  replace z01 : w8.cell? ⟨ad.block, ad.off + 1, none⟩ = some (.slice (some bd) 64 c0) := z01
  replace z10 : w8.cell? ⟨ad.block, ad.off + 2, none⟩ = some (.int .i64 6) := z10
  replace zb : w8.cell? (bd.add 3) = some (.int .u8 9) := by
    have h : w8.cell? (bd.add 3) = some (.int .u8 (rd kq 3)) := zb
    rwa [k_at] at h
  replace zb : w8.cell? ⟨bd.block, bd.off + 3, none⟩ = some (.int .u8 9) := zb
  clear hC8 zc zC hx0 hx1
  go_wp2_with fail
  refine (changes_ (first := 0) A8.out.tail (.swap _ _ _) (.swap _ _ _) (by decide)).mono ?_
  rintro e w9 ⟨v9, rfl, hS9⟩
  rw [show changesF kz kz [false].length [false].length 0 = [] from k_same] at hS9
  obtain ⟨A9', c9, rfl⟩ := hS9.rowN (n := 0) rfl
  have A9 := Aside0.mk hS9
  clear hS9
  go_wp2_with fail
  refine changes_none1.mono ?_
  rintro e w10 ⟨rfl, rfl⟩
  go_wp2_with fail
  go_ret
  exact ⟨by first | rfl | (simp; done), A9.out.toBelow⟩
end Go.Proofs.Ytfpkhlhojjmgiaa.Shade
