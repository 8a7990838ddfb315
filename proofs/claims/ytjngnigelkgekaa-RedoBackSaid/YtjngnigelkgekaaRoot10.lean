/- Chapter 5's laws: what is known. -/
import Derived.Test.YtjngnigelkgekaaRoot9
namespace Go.Proofs.Ytjngnigelkgekaa.Root
set_option linter.unusedVariables false
set_option linter.unusedSimpArgs false
open Go.RowKit Go.Proofs.YtjngnigelkgekaaW.PrintWords Go.Proofs.YtjngnigelkgekaaW.PrintLast Go.Proofs.YtjngnigelkgekaaW.PrintMore Go.Proofs.Ytjngnigelkgekaa.Kit Go.Proofs.Ytjngnigelkgekaa.Plain Go.Proofs.Ytjngnigelkgekaa.Disk
theorem best9a : bestTo (9 : Nat) (secF 9 (List.replicate (9 * 64) 0) (fun _ => none)) 2 = (0, 0, 0) := by decide +kernel
theorem best9b : bestTo (9 : Nat) (secF 9 (List.replicate (9 * 64) 0) (putW 9 (fun _ => none) 1 (rootF 3 4 5))) 2 = (3, 4, 5) := by decide +kernel
set_option maxHeartbeats 1600000 in
set_option maxRecDepth 100000 in
theorem known_ (w : World) : Calls Try.prog 42 #[] w fun e w' => e = .returned (.bool true) ∧ Below w.heap.size w w' := by
  have HB1 := Aside0.mk best9a
  have HB2 := Aside0.mk best9b
  have HZL : Aside0 ((List.replicate (9 * 64) (0 : Int)).length = 64 * 9) := ⟨by rw [List.length_replicate]⟩
  have HZB : Aside0 (Bytes (List.replicate (9 * 64) (0 : Int))) := ⟨zeros_bytes _⟩
  have HS1 := Aside0.mk (secF_bytes (n := 9) HZB.out (zeros_none (n := 9)))
  have HP := Aside0.mk (putW_bytes (n := 9) (i := 1) (b := rootF 3 4 5) (zeros_none (n := 9)) (rootF_bytes 3 4 5))
  have HS2 := Aside0.mk (secF_bytes (n := 9) HZB.out HP.out)
  have HL2 := Aside0.mk (putW_len (n := 9) (i := 1) (b := rootF 3 4 5) Ref.none_len)
  have HR3 : Aside0 (readV (rootF 3 4 5) = .tuple #[.agg #[.int .i64 3, .int .i64 4, .int .u32 5], .bool true]) := ⟨readV_some (unroot_root (by decide) (by decide) (by decide) (by decide) (by decide) (by decide))⟩
  have HRB := Aside0.mk (rootF_bytes 3 4 5)
  generalize hz : List.replicate (9 * 64) (0 : Int) = z at HB1 HB2 HZL HZB HS1 HS2
  have HZ := Aside0.mk hz
  clear hz
  go_enter Try.func42, Try.ntmps42
  go_wp2_with fail
  refine (new_ok (n := 9) (by decide) (by decide)).mono ?_
  rintro e w1 ⟨g, rfl, hS1⟩
  rw [HZ.out] at hS1
  have B1 := Aside0.mk hS1
  clear hS1
  go_wp2_with fail
  refine (best_ (n := 9) B1.out HZL.out (by decide) Ref.none_len HS1.out).mono ?_
  rintro e w2 ⟨rfl, hS2⟩
  rw [HB1.out]
  rw [show rootV (0, 0, 0) = .agg #[.int .i64 0, .int .i64 0, .int .u32 0] from rfl, show decide ((0 : Int) < ((0, 0, 0) : R3).2.2) = false from rfl]
  have B2 := Aside0.mk ((hS2.newBlk 26 #[.int .i64 0, .int .i64 0, .int .u32 0]).newBlk 26 #[.int .i64 3, .int .i64 4, .int .u32 5])
  rw [show ∀ o : Obj, (w2.alloc o).heap.size = w2.heap.size + 1 from fun o => by simp] at B2
  clear hS2
  go_wp2_with fail
  refine (bytes_ 3 4 5 (by decide) _).mono ?_
  rintro e w3 ⟨v3, rfl, hS3⟩
  rw [m32_id (x := 3) (by decide) (by decide), m32_id (x := 4) (by decide) (by decide)] at hS3
  obtain ⟨A3, c3, rfl⟩ := hS3.rowN (n := 64) (rootF_len _ _ _)
  have B3 := Aside0.mk (B2.out.lift1 hS3)
  clear hS3
  go_wp2_with fail
  refine (read_ B3.out.rowC' B3.out.rowC.2.1 HRB.out).mono ?_
  rintro e w4 ⟨rfl, hb4⟩
  rw [HR3.out]
  have B4 := Aside0.mk (((B3.out.below hb4).tail).newBlk 26 #[.int .i64 3, .int .i64 4, .int .u32 5])
  clear hb4
  have k0 := (B4.out.at2.cell 0).trans rfl
  have k1 := (B4.out.at2.cell 1).trans rfl
  have k2 := (B4.out.at2.cell 2).trans rfl
  go_wp2_with fail
  refine (rroot_ 3 4 5 (by decide) _).mono ?_
  rintro e w5 ⟨v5, rfl, hS5⟩
  rw [m32_id (x := 3) (by decide) (by decide), m32_id (x := 4) (by decide) (by decide)] at hS5
  obtain ⟨A5, c5, rfl⟩ := hS5.rowN (n := 64) (rootF_len _ _ _)
  have B5 := Aside0.mk (B4.out.lift1 hS5)
  clear hS5 k0 k1 k2
  go_wp2_with fail
  refine (dwrite_ (B5.out.tail.at4) HZL.out (by decide) 1 (b := rootF 3 4 5) B5.out.rowC' B5.out.rowC.2.1).mono ?_
  rintro e w6 ⟨rfl, hS6⟩
  rw [show decide (1 < 9 ∧ (rootF 3 4 5).length = 64) = true from decide_eq_true ⟨by decide, rootF_len _ _ _⟩]
  have B6 := Aside0.mk hS6
  clear hS6
  go_wp2_with fail
  refine (best_ B6.out HZL.out (by decide) HL2.out HS2.out).mono ?_
  rintro e w7 ⟨rfl, hS7⟩
  rw [HB2.out]
  rw [show rootV (3, 4, 5) = .agg #[.int .i64 3, .int .i64 4, .int .u32 5] from rfl, show decide ((0 : Int) < ((3, 4, 5) : R3).2.2) = true from rfl]
  have B7 := Aside0.mk (hS7.newBlk 26 #[.int .i64 3, .int .i64 4, .int .u32 5])
  clear hS7
  go_wp2_with fail
  refine (best_nil _).mono ?_
  rintro e w8 ⟨rfl, hb8⟩
  rw [show rootV (0, 0, 0) = .agg #[.int .i64 0, .int .i64 0, .int .u32 0] from rfl]
  have B8 := Aside0.mk ((B7.out.below hb8).newBlk 26 #[.int .i64 0, .int .i64 0, .int .u32 0])
  clear hb8
  have a0 := (B8.out.at2.cell 0).trans rfl
  have a1 := (B8.out.at2.cell 1).trans rfl
  have a2 := (B8.out.at2.cell 2).trans rfl
  have b0 := (B8.out.at4.cell 0).trans rfl
  have b1 := (B8.out.at4.cell 1).trans rfl
  have b2 := (B8.out.at4.cell 2).trans rfl
  have d0 := (B8.out.at5.cell 0).trans rfl
  have d1 := (B8.out.at5.cell 1).trans rfl
  have d2 := (B8.out.at5.cell 2).trans rfl
  go_wp2_with fail
  refine (home_ 3 4 5 0 _).mono ?_
  rintro e w9 ⟨rfl, hb9⟩
  rw [show homeF 3 4 0 = 5 by decide +kernel]
  have B9 := Aside0.mk (B8.out.below hb9)
  clear hb9 a0 a1 a2 b0 b1 b2
  clear d0 d1 d2
  have d0 := (B9.out.at5.cell 0).trans rfl
  have d1 := (B9.out.at5.cell 1).trans rfl
  have d2 := (B9.out.at5.cell 2).trans rfl
  go_wp2_with fail
  refine (home_ 3 4 5 4 _).mono ?_
  rintro e w10 ⟨rfl, hb10⟩
  rw [show homeF 3 4 4 = -1 by decide +kernel]
  have B10 := Aside0.mk (B9.out.below hb10)
  clear hb10
  clear d0 d1 d2
  have d0 := (B10.out.at5.cell 0).trans rfl
  have d1 := (B10.out.at5.cell 1).trans rfl
  have d2 := (B10.out.at5.cell 2).trans rfl
  go_wp2_with fail
  refine (right_ 3 4 5 9 _).mono ?_
  rintro e w11 ⟨rfl, hb11⟩
  rw [show rightR 3 4 5 9 = true by decide +kernel]
  have B11 := Aside0.mk (B10.out.below hb11)
  clear hb11
  clear d0 d1 d2
  have d0 := (B11.out.at5.cell 0).trans rfl
  have d1 := (B11.out.at5.cell 1).trans rfl
  have d2 := (B11.out.at5.cell 2).trans rfl
  go_wp2_with fail
  refine (right_ 3 4 5 8 _).mono ?_
  rintro e w12 ⟨rfl, hb12⟩
  rw [show rightR 3 4 5 8 = false by decide +kernel]
  have B12 := Aside0.mk (B11.out.below hb12)
  clear hb12
  clear d0 d1 d2
  go_wp2_with fail
  go_ret
  exact ⟨by first | rfl | (simp; done), B12.out.toBelow⟩
end Go.Proofs.Ytjngnigelkgekaa.Root
