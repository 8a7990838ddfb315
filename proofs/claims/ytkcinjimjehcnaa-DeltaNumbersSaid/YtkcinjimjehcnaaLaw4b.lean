/- engramlaw4: reads, known. -/
import Derived.Test.YtkcinjimjehcnaaLaw4a
namespace Go.Proofs.Ytkcinjimjehcnaa.Delta
set_option linter.unusedVariables false
set_option linter.unusedSimpArgs false
open Go.RowKit Go.Proofs.YtkcinjimjehcnaaW.PrintWords Go.Proofs.YtkcinjimjehcnaaW.PrintLast Go.Proofs.YtkcinjimjehcnaaW.PrintMore Go.Proofs.Ytkcinjimjehcnaa.Kit Go.Proofs.Ytkcinjimjehcnaa.Base Go.Proofs.Ytkcinjimjehcnaa.Plain
theorem undelta_bytes {b : List Int} (h : Bytes b) (pages : Int) : ∀ c ∈ (undeltaF b pages).getD [], Bytes c.2 := by
  intro c hc
  unfold undeltaF at hc
  split at hc
  · cases hc
  · split at hc
    · cases hc
    · split at hc
      · simp only [Option.getD_some, rawF, List.mem_map] at hc
        obtain ⟨i, _, rfl⟩ := hc
        exact (h.drop _).take _
      · cases hc
set_option maxHeartbeats 1600000 in
set_option maxRecDepth 100000 in
theorem lreads_ {A : Option Addr} {n c : Nat} {b : List Int} {w : World} (hr : U8.C w A n b) (hc : n ≤ c) (hb : Bytes b) (hl : n ≤ 1000000) (pages : Int) :
    Calls Try.prog 23 #[.slice A n c, .int .i64 pages] w fun e w' => e = .returned (.bool true) ∧ Below w.heap.size w w' := by
  have HR := Aside0.mk hr
  have HB := Aside0.mk (undelta_bytes hb pages)
  have HX := Aside0.mk (And.intro hc (And.intro hb hl))
  clear hr hc hb hl
  go_enter Try.func23, Try.ntmps23
  go_wp2_with fail
  refine (read_ HR.out HX.out.1 HX.out.2.1 HX.out.2.2 pages).mono ?_
  rintro e w1 ⟨v1, rfl, hS1⟩
  have A1 := Aside0.mk hS1
  clear hS1
  go_wp2_with fail
  refine (rundelta_ (Kd.C_below HR.out A1.out.toBelow) HX.out.1 HX.out.2.1 HX.out.2.2 pages).mono ?_
  rintro e w2 ⟨v2, rfl, hS2⟩
  have hS3 := A1.out.lift1 hS2
  obtain ⟨A2, c2, rfl⟩ := hS3.rowV
  obtain ⟨A4, c4, rfl⟩ := hS3.at2.rowV
  have A3 := Aside0.mk hS3
  clear hS2 hS3
  generalize (undeltaF b pages).isSome = ok at *
  go_wp2_with fail
  refine (rsame_ A3.out.at2.rowC.2.2 A3.out.rowC.2.2 HB.out HB.out).mono ?_
  rintro e w4 ⟨rfl, hb4⟩
  rw [decide_eq_true rfl]
  go_wp2_with fail
  go_ret
  exact ⟨by first | rfl | (simp; done), (A3.out.below hb4).toBelow⟩
def kl : List Chg := [(1, List.replicate 64 0)]
theorem kl1 : undeltaF (deltaF kl) 4 = some kl := by decide +kernel
theorem kl2 : (deltaF kl).length = 68 := by decide +kernel
theorem kl3 : Bytes (deltaF kl) := by
  show ∀ x ∈ deltaF kl, 0 ≤ x ∧ x ≤ 255
  decide +kernel
theorem kl4 : rightF kl 2 = true := by decide +kernel
theorem kl5 : rightF kl 1 = false := by decide +kernel
theorem kl6 : strOfNums (deltaF []) = ⟨#[0, 0]⟩ := by kernel_rfl
set_option maxHeartbeats 1600000 in
set_option maxRecDepth 100000 in
theorem known_ (w : World) : Calls Try.prog 26 #[] w fun e w' => e = .returned (.bool true) ∧ Below w.heap.size w w' := by
  have hmk := make_ (m := 64) (by omega)
  rw [show ((64 : Nat) : Int) = 64 from rfl] at hmk
  have S1 := ((Sep.start w).madeRow (enc := Value.int .u8) (h1 := fun _ => rfl) (e := 5) (0 : Int) 64 (by omega)).newBlk 42 #[.int .i64 1, .slice (some ⟨w.heap.size, 0, none⟩) 64 64]
  rw [show (w.alloc (.cells (madeCells #[.int .u8 0] 64) 5)).heap.size = w.heap.size + 1 by simp] at S1
  have A1 := Aside0.mk S1
  have AC : Aside0 (KC.C _ (some ⟨w.heap.size + 1, 0, none⟩) 1 kl) := ⟨kc_blk (l := kl) S1.blk (by decide) (fun i x hx => by
    match i, hx with
    | 0, hx => cases hx; exact ⟨_, _, rfl, rfl, by decide, S1.at2.rowC.2.2⟩)⟩
  clear S1
  go_enter Try.func26, Try.ntmps26
  go_wp2_with fail
  refine (read_ (A := none) (n := 0) (c := 0) (b := []) (Kd.C_nil _ _) (Nat.le_refl _) (fun x h => by cases h) (by decide) 4).mono ?_
  rintro e w2 ⟨v2, rfl, hS2⟩
  rw [show (undeltaF [] 4).isSome = false from rfl]
  have A2 := Aside0.mk (A1.out.lift1 hS2).tail
  have C2 := Aside0.mk (Kd.C_below AC.out hS2.toBelow)
  clear hS2 hmk
  go_wp2_with fail
  refine (bytes_ C2.out (by rw [kl2]; decide)).mono ?_
  rintro e w3 ⟨v3, rfl, hS3⟩
  obtain ⟨A3, c3, rfl⟩ := hS3.rowN kl2
  have B3 := Aside0.mk (A2.out.lift1 hS3)
  have C3 := Aside0.mk (Kd.C_below C2.out hS3.toBelow)
  clear hS3
  go_wp2_with fail
  refine (read_ (b := deltaF kl) (by have := B3.out.rowC.2.2; rwa [kl2] at this) B3.out.rowC.2.1 kl3 (by decide) 4).mono ?_
  rintro e w4 ⟨v4, rfl, hS4⟩
  rw [kl1] at hS4 ⊢
  obtain ⟨A4, c4, rfl⟩ := hS4.rowN (n := 1) rfl
  have B4 := Aside0.mk (B3.out.lift1 hS4)
  have C4 := Aside0.mk (Kd.C_below C3.out hS4.toBelow)
  clear hS4
  rw [show (some kl).isSome = true from rfl]
  go_wp2_with fail
  refine (bytes_ (A := none) (n := 0) (c := 0) (l := []) (Kd.C_nil _ _) (by decide)).mono ?_
  rintro e w5 ⟨v5, rfl, hS5⟩
  obtain ⟨A5, c5, rfl⟩ := hS5.rowN (n := 2) rfl
  have hs5 := strS hS5
  rw [kl6] at hs5
  have B5 := Aside0.mk (B4.out.lift1 hS5)
  have C5 := Aside0.mk (Kd.C_below C4.out hS5.toBelow)
  clear hS5
  go_wp2_with fail
  refine (same_ C5.out B5.out.at2.rowC.2.2).mono ?_
  rintro e w6 ⟨rfl, hb6⟩
  have B6 := Aside0.mk (B5.out.below hb6)
  have C6 := Aside0.mk (Kd.C_below C5.out hb6)
  clear hb6 hs5
  rw [show decide (kl = (some kl).getD []) = true from decide_eq_true rfl]
  go_wp2_with fail
  refine (right_ C6.out 2).mono ?_
  rintro e w7 ⟨rfl, hb7⟩
  have B7 := Aside0.mk (B6.out.below hb7)
  have C7 := Aside0.mk (Kd.C_below C6.out hb7)
  clear hb7
  rw [kl4]
  go_wp2_with fail
  refine (right_ C7.out 1).mono ?_
  rintro e w8 ⟨rfl, hb8⟩
  have B8 := Aside0.mk (B7.out.below hb8)
  clear hb8
  rw [kl5]
  go_wp2_with fail
  refine (need_ 0 _).mono ?_
  rintro e w9 ⟨rfl, rfl⟩
  rw [show needF 0 = 18 from rfl]
  go_wp2_with fail
  refine (need_ 1 _).mono ?_
  rintro e w9 ⟨rfl, rfl⟩
  rw [show needF 1 = 84 from rfl]
  go_wp2_with fail
  refine (need_ (-1) _).mono ?_
  rintro e w9 ⟨rfl, rfl⟩
  rw [show needF (-1) = 0 from rfl]
  go_wp2_with fail
  go_ret
  exact ⟨by first | rfl | (simp; done), B8.out.toBelow⟩
end Go.Proofs.Ytkcinjimjehcnaa.Delta
