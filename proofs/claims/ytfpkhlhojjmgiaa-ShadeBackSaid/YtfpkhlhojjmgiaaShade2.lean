/- Package shade: the page read; what was turned. -/
import Derived.Test.YtfpkhlhojjmgiaaShade1
import Derived.Test.YtfpkhlhojjmgiaaCells6
import Derived.Test.YtfpkhlhojjmgiaaDeep
import Derived.OwnWalk
namespace Go.Proofs.Ytfpkhlhojjmgiaa.Shade
set_option linter.unusedVariables false
set_option linter.unusedSimpArgs false
open Go.RowKit Go.Proofs.YtfpkhlhojjmgiaaW.PrintWords Go.Proofs.YtfpkhlhojjmgiaaW.PrintLast Go.Proofs.YtfpkhlhojjmgiaaW.PrintMore Go.Proofs.Ytfpkhlhojjmgiaa.Kit Go.Proofs.Ytfpkhlhojjmgiaa.Base Go.Proofs.Ytfpkhlhojjmgiaa.Plain Go.Proofs.Ytfpkhlhojjmgiaa.Sum
theorem getF_rng {b : List Int} (h : Bytes b) (a : Int) : 0 ≤ getF b a ∧ getF b a ≤ 4294967295 := by
  unfold getF
  have h0 := h.at a
  have h1 := h.at (a + 1)
  have h2 := h.at (a + 2)
  have h3 := h.at (a + 3)
  split <;> omega
def readOk (b : List Int) : Prop := getF b 4 ≤ 2048 ∧ getF b 8 ≤ 64 ∧ b = metaF (getF b 4) (getF b 8)
instance (b : List Int) : Decidable (readOk b) := by unfold readOk; infer_instance
def readF (b : List Int) : Int × Int × Bool := if readOk b then (getF b 4, getF b 8, true) else (0, 0, false)
set_option maxHeartbeats 1600000 in
set_option maxRecDepth 100000 in
theorem read_ {A : Option Addr} {n c : Nat} {b : List Int} {w : World} (hr : U8.C w A n b) (hc : n ≤ c) (hb : Bytes b) :
    Calls Try.prog 47 #[.slice A n c] w fun e w' => e = .returned (.tuple #[.int .i64 (readF b).1, .int .i64 (readF b).2.1, .bool (readF b).2.2]) ∧ Below w.heap.size w w' := by
  have HR := Aside0.mk hr
  have HX := Aside0.mk (And.intro hc hb)
  have r4 := getF_rng hb 4
  have r8 := getF_rng hb 8
  have HD : Aside0 (readOk b ↔ (getF b 4 ≤ 2048 ∧ getF b 8 ≤ 64 ∧ b = metaF (getF b 4) (getF b 8))) := ⟨Iff.rfl⟩
  have HF : Aside0 (readF b = if readOk b then (getF b 4, getF b 8, true) else (0, 0, false)) := ⟨rfl⟩
  clear hr hc hb
  go_enter Try.func47, Try.ntmps47
  go_wp2_with fail
  refine (get_ (l := b) (a := 4) HR.out HX.out.1 HX.out.2 (by decide)).mono ?_
  rintro e w1 ⟨rfl, rfl⟩
  go_wp2_with fail
  refine (get_ (l := b) (a := 8) HR.out HX.out.1 HX.out.2 (by decide)).mono ?_
  rintro e w2 ⟨rfl, rfl⟩
  generalize getF b 4 = t at *
  generalize getF b 8 = p at *
  have ht : IntKind.i64.wrap t = t := by rw [IntKind.wrap_i64]; omega
  have hp : IntKind.i64.wrap p = p := by rw [IntKind.wrap_i64]; omega
  by_cases h1 : 2048 < t
  · have HN : Aside0 (readF b = (0, 0, false)) := ⟨by rw [HF.out, if_neg (fun h => by have := HD.out.1 h; omega)]⟩
    go_wp2_with fail
    go_ret3
    exact ⟨by rw [HN.out]; first | rfl | (simp; done), Below.refl _ _⟩
  · have h1' : decide (2048 < t) = false := decide_eq_false h1
    by_cases h2 : 64 < p
    · have HN : Aside0 (readF b = (0, 0, false)) := ⟨by rw [HF.out, if_neg (fun h => by have := HD.out.1 h; omega)]⟩
      go_wp2_with fail
      go_ret3
      exact ⟨by rw [HN.out]; first | rfl | (simp; done), Below.refl _ _⟩
    · go_wp2_with fail
      refine (meta_ (t := t) (p := p) (by omega) (by omega)).mono ?_
      rintro e w3 ⟨v3, rfl, hS3⟩
      obtain ⟨A3, c3, rfl⟩ := hS3.rowV
      have B3 := Aside0.mk hS3
      clear hS3
      go_wp2_with fail
      refine (equal_ (Kd.C_below HR.out B3.out.toBelow) B3.out.rowC.2.2).mono ?_
      rintro e w4 ⟨rfl, hb4⟩
      have B4 := Aside0.mk (B3.out.below hb4)
      clear hb4
      by_cases h3 : b = metaF t p
      · rw [decide_eq_true h3]
        have HN : Aside0 (readF b = (t, p, true)) := ⟨by rw [HF.out, if_pos (HD.out.2 ⟨by omega, by omega, h3⟩)]⟩
        clear h3
        go_wp2_with fail
        go_ret3
        exact ⟨by rw [HN.out]; first | rfl | (simp; done), B4.out.toBelow⟩
      · rw [decide_eq_false h3]
        have HN : Aside0 (readF b = (0, 0, false)) := ⟨by rw [HF.out, if_neg (fun h => h3 (HD.out.1 h).2.2)]⟩
        clear h3
        go_wp2_with fail
        go_ret3
        exact ⟨by rw [HN.out]; first | rfl | (simp; done), B4.out.toBelow⟩
end Go.Proofs.Ytfpkhlhojjmgiaa.Shade
