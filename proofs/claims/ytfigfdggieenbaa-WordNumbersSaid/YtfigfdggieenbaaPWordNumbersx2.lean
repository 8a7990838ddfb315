-- PRINTED BY print.sh 35421559b90ae4d0a3588c463048766b98c2df88dd9212a6774a882060cdf62d: not written by this session
import Derived.Test.YtfigfdggieenbaaPWordNumbersx0
import Derived.Test.YtfigfdggieenbaaPWordNumbersx1
namespace Go.Proofs.Ytfigfdggieenbaa.PWordNumbers
open Go.RowKit Go.Proofs.YtfigfdggieenbaaW.PrintWords Go.Proofs.YtfigfdggieenbaaW.PrintLast Go.Proofs.YtfigfdggieenbaaW.PrintMore
attribute [local go_sem] max2_int min2_int max_two min_two max_three min_three max_four min_four   -- for this text's walks alone
set_option linter.unusedVariables false
set_option linter.unusedSimpArgs false

/-! ### engramref11_Do: function 43 -/
def engramref11_Do.j0 : Nat → Int → Int → Int → Int → Bool → Option (Int × Int)
  | 0, _, _, _, _, _ => none
  | k + 1, x0, x1, x2, x8, x24 => if x24 = true then (if x2 = 0 then (some (0, 3)) else (if x2 = (-1) then (if x0 = 37 then (some (0, 0)) else (if x1 = (-9223372036854775808) then (some (0, 4)) else (some (wrap64 (-x1), 0)))) else (if x0 = 47 then (some (wrap64 (Int.tdiv x1 x2), 0)) else (some (Int.tmod x1 x2, 0))))) else (if x8 = 38 then (some (Go.bits .and .i64 x1 x2, 0)) else (if x8 = 124 then (some (Go.bits .or .i64 x1 x2, 0)) else (if x8 = 94 then (some (Go.bits .xor .i64 x1 x2, 0)) else (if x8 = 60 then ((engramref11_bit.f (decide (x1 < x2))).bind fun t109 => (some (t109, 0))) else (if x8 = 61 then ((engramref11_bit.f (x1 == x2)).bind fun t110 => (some (t110, 0))) else (if x8 = 171 then (if 0 ≤ (IntKind.u64.wrap (Go.bits .and .i64 x2 63)) then (some (shl .i64 x1 (IntKind.u64.wrap (Go.bits .and .i64 x2 63)), 0)) else (none)) else (if x8 = 187 then (if 0 ≤ (IntKind.u64.wrap (Go.bits .and .i64 x2 63)) then (some (shr .i64 x1 (IntKind.u64.wrap (Go.bits .and .i64 x2 63)), 0)) else (none)) else (if x8 = 33 then ((engramref11_bit.f (x1 == 0)).bind fun t111 => (some (t111, 0))) else (some (0, 2))))))))))
def engramref11_Do.f (k : Nat) (a0 : Int) (a1 : Int) (a2 : Int) : Option (Int × Int) := if a0 = 43 then (some (wrap64 (a1 + a2), 0)) else (if a0 = 45 then (some (wrap64 (a1 - a2), 0)) else (if a0 = 42 then (some (wrap64 (a1 * a2), 0)) else (if a0 = 47 then (engramref11_Do.j0 k a0 a1 a2 a0 (a0 == 47)) else (engramref11_Do.j0 k a0 a1 a2 a0 (a0 == 37)))))
theorem engramref11_Do.mono_l : ∀ k, (∀ y0 y1 y2 y3 y4, LeO (engramref11_Do.j0 k y0 y1 y2 y3 y4) (engramref11_Do.j0 (k + 1) y0 y1 y2 y3 y4))
  | 0 => fun _ _ _ _ _ r h => by simp [engramref11_Do.j0] at h
  | k + 1 => by
    have ih0 := engramref11_Do.mono_l k
    · intro y0 y1 y2 y3 y4
      unfold engramref11_Do.j0
      repeat' first
      | (with_reducible exact ih0 _ _ _ _ _)
      | (with_reducible exact LeO.refl _)
      | (with_reducible exact LeO.none _)
      | (with_reducible refine LeO.ite ?_ ?_)
      | (with_reducible refine LeO.bind ?_ (fun _ => ?_))
      | exact ih0 _ _ _ _ _
      | exact LeO.none _
      | refine LeO.ite ?_ ?_
      | refine LeO.bind ?_ (fun _ => ?_)
theorem engramref11_Do.mono : ∀ a0 a1 a2 k, LeO (engramref11_Do.f k a0 a1 a2) (engramref11_Do.f (k + 1) a0 a1 a2) := by
  intro a0 a1 a2 k
  have ih0 := engramref11_Do.mono_l k
  unfold engramref11_Do.f
  repeat' first
      | (with_reducible exact ih0 _ _ _ _ _)
      | (with_reducible exact LeO.refl _)
      | (with_reducible exact LeO.none _)
      | (with_reducible refine LeO.ite ?_ ?_)
      | (with_reducible refine LeO.bind ?_ (fun _ => ?_))
      | exact ih0 _ _ _ _ _
      | exact LeO.none _
      | refine LeO.ite ?_ ?_
      | refine LeO.bind ?_ (fun _ => ?_)
set_option maxHeartbeats 8000000 in
set_option maxRecDepth 100000 in
theorem engramref11_Do.calls (k : Nat) (a0 : Int) (a1 : Int) (a2 : Int) (r1 : Int) (r2 : Int) (w : World) (h : engramref11_Do.f k a0 a1 a2 = some (r1, r2)) :
    Calls Try.prog 43 #[.int .i32 a0, .int .i64 a1, .int .i64 a2] w fun e w' => e = .returned (.tuple #[.int .i64 r1, .int .i64 r2]) ∧ Drawn0 w w' := by
  have H : (if a0 = 43 then (some (wrap64 (a1 + a2), 0)) else (if a0 = 45 then (some (wrap64 (a1 - a2), 0)) else (if a0 = 42 then (some (wrap64 (a1 * a2), 0)) else (if a0 = 47 then (engramref11_Do.j0 k a0 a1 a2 a0 (a0 == 47)) else (engramref11_Do.j0 k a0 a1 a2 a0 (a0 == 37)))))) = some (r1, r2) := h
  clear h
  by_cases c4 : a0 = 43
  · rw [if_pos c4] at H
    have c4b0 : (a0 == 43) = true := beq_iff_eq.mpr c4
    have c4b1 : (a0 != 43) = false := bne_eq_false_iff_eq.mpr c4
    clear c4
    simp only [Option.some.injEq, Prod.mk.injEq] at H
    obtain ⟨rfl, rfl⟩ := H
    go_enter Try.func43, Try.ntmps43
    go_wp2
    go_ret2
    exact ⟨by first | rfl | (simp; done) | (simp [*]; done), by repeat (first | exact Drawn0.refl _ | apply Drawn0.step)⟩
  · rw [if_neg c4] at H
    have c4b0 : (a0 == 43) = false := beq_eq_false_iff_ne.mpr c4
    have c4b1 : (a0 != 43) = true := bne_iff_ne.mpr c4
    by_cases c5 : a0 = 45
    · rw [if_pos c5] at H
      have c5b0 : (a0 == 45) = true := beq_iff_eq.mpr c5
      have c5b1 : (a0 != 45) = false := bne_eq_false_iff_eq.mpr c5
      clear c5
      simp only [Option.some.injEq, Prod.mk.injEq] at H
      obtain ⟨rfl, rfl⟩ := H
      go_enter Try.func43, Try.ntmps43
      go_wp2
      go_ret2
      exact ⟨by first | rfl | (simp; done) | (simp [*]; done), by repeat (first | exact Drawn0.refl _ | apply Drawn0.step)⟩
    · rw [if_neg c5] at H
      have c5b0 : (a0 == 45) = false := beq_eq_false_iff_ne.mpr c5
      have c5b1 : (a0 != 45) = true := bne_iff_ne.mpr c5
      by_cases c6 : a0 = 42
      · rw [if_pos c6] at H
        have c6b0 : (a0 == 42) = true := beq_iff_eq.mpr c6
        have c6b1 : (a0 != 42) = false := bne_eq_false_iff_eq.mpr c6
        clear c6
        simp only [Option.some.injEq, Prod.mk.injEq] at H
        obtain ⟨rfl, rfl⟩ := H
        go_enter Try.func43, Try.ntmps43
        go_wp2
        go_ret2
        exact ⟨by first | rfl | (simp; done) | (simp [*]; done), by repeat (first | exact Drawn0.refl _ | apply Drawn0.step)⟩
      · rw [if_neg c6] at H
        have c6b0 : (a0 == 42) = false := beq_eq_false_iff_ne.mpr c6
        have c6b1 : (a0 != 42) = true := bne_iff_ne.mpr c6
        have HC7 := Aside0.mk H
        clear H
        go_enter Try.func43, Try.ntmps43
        go_upto_if 24 with (fail)
        go_cut [24] (fun v24 wc => ∃ (kq : Nat) (x24_6 : Bool), v24 = .bool x24_6 ∧ Aside0 (engramref11_Do.j0 kq a0 a1 a2 a0 x24_6 = some (r1, r2)) ∧ Aside0 (kq ≤ k) ∧ Drawn0 w wc)
        case first =>
          have H := HC7.out
          clear HC7
          by_cases c8 : a0 = 47
          · rw [if_pos c8] at H
            have c8b0 : (a0 == 47) = true := beq_iff_eq.mpr c8
            have c8b1 : (a0 != 47) = false := bne_eq_false_iff_eq.mpr c8
            clear c8
            (first | rw [c8b0] | (simp only [i64_w, i32_w]; rw [c8b0]) | skip)
            have H' := Aside0.mk H
            clear H
            go_wp2
            go_meet
            case rel => exact ⟨_, ((a0 == 47)), (by first | rfl | (simp; done) | (simp [*]; done)), H', ⟨by first | omega | exact Nat.le_refl _⟩, by repeat (first | exact Drawn0.refl _ | apply Drawn0.step)⟩
          · rw [if_neg c8] at H
            have c8b0 : (a0 == 47) = false := beq_eq_false_iff_ne.mpr c8
            have c8b1 : (a0 != 47) = true := bne_iff_ne.mpr c8
            (first | rw [c8b0] | (simp only [i64_w, i32_w]; rw [c8b0]) | skip)
            have H' := Aside0.mk H
            clear H
            go_wp2
            go_meet
            case rel => exact ⟨_, ((a0 == 37)), (by first | rfl | (simp; done) | (simp [*]; done)), H', ⟨by first | omega | exact Nat.le_refl _⟩, by repeat (first | exact Drawn0.refl _ | apply Drawn0.step)⟩
        case rest =>
          clear HC7
          try clear p2
          try clear c4
          try clear c4b0
          try clear c4b1
          try clear c5
          try clear c5b0
          try clear c5b1
          try clear c6
          try clear c6b0
          try clear c6b1
          try clear p6
          try clear c8
          try clear c8b0
          try clear c8b1
          obtain ⟨kq, x24_6, rfl, HA, HJ6, ⟨mc6, rfl⟩⟩ := hcut
          cases kq with
          | zero => exact absurd HA.out (by simp [engramref11_Do.j0])
          | succ kj6 =>
            have H := HA.out
            clear HA
            simp only [engramref11_Do.j0] at H
            by_cases c9 : x24_6 = true
            · subst c9
              have H1 : (if a2 = 0 then (some (0, 3)) else (if a2 = (-1) then (if a0 = 37 then (some (0, 0)) else (if a1 = (-9223372036854775808) then (some (0, 4)) else (some (wrap64 (-a1), 0)))) else (if a0 = 47 then (some (wrap64 (Int.tdiv a1 a2), 0)) else (some (Int.tmod a1 a2, 0))))) = some (r1, r2) := by rw [if_pos rfl] at H; exact H
              clear H
              have H := H1
              clear H1
              by_cases c10 : a2 = 0
              · rw [if_pos c10] at H
                have c10b0 : (a2 == 0) = true := beq_iff_eq.mpr c10
                have c10b1 : (a2 != 0) = false := bne_eq_false_iff_eq.mpr c10
                clear c10
                simp only [Option.some.injEq, Prod.mk.injEq] at H
                obtain ⟨rfl, rfl⟩ := H
                go_wp2
                go_ret2
                exact ⟨by first | rfl | (simp; done) | (simp [*]; done), by repeat (first | exact Drawn0.refl _ | apply Drawn0.step)⟩
              · rw [if_neg c10] at H
                have c10b0 : (a2 == 0) = false := beq_eq_false_iff_ne.mpr c10
                have c10b1 : (a2 != 0) = true := bne_iff_ne.mpr c10
                by_cases c11 : a2 = (-1)
                · rw [if_pos c11] at H
                  have c11b0 : (a2 == (-1)) = true := beq_iff_eq.mpr c11
                  have c11b1 : (a2 != (-1)) = false := bne_eq_false_iff_eq.mpr c11
                  clear c11
                  by_cases c12 : a0 = 37
                  · rw [if_pos c12] at H
                    have c12b0 : (a0 == 37) = true := beq_iff_eq.mpr c12
                    have c12b1 : (a0 != 37) = false := bne_eq_false_iff_eq.mpr c12
                    clear c12
                    simp only [Option.some.injEq, Prod.mk.injEq] at H
                    obtain ⟨rfl, rfl⟩ := H
                    go_wp2
                    go_ret2
                    exact ⟨by first | rfl | (simp; done) | (simp [*]; done), by repeat (first | exact Drawn0.refl _ | apply Drawn0.step)⟩
                  · rw [if_neg c12] at H
                    have c12b0 : (a0 == 37) = false := beq_eq_false_iff_ne.mpr c12
                    have c12b1 : (a0 != 37) = true := bne_iff_ne.mpr c12
                    by_cases c13 : a1 = (-9223372036854775808)
                    · rw [if_pos c13] at H
                      have c13b0 : (a1 == (-9223372036854775808)) = true := beq_iff_eq.mpr c13
                      have c13b1 : (a1 != (-9223372036854775808)) = false := bne_eq_false_iff_eq.mpr c13
                      clear c13
                      simp only [Option.some.injEq, Prod.mk.injEq] at H
                      obtain ⟨rfl, rfl⟩ := H
                      go_wp2
                      go_ret2
                      exact ⟨by first | rfl | (simp; done) | (simp [*]; done), by repeat (first | exact Drawn0.refl _ | apply Drawn0.step)⟩
                    · rw [if_neg c13] at H
                      have c13b0 : (a1 == (-9223372036854775808)) = false := beq_eq_false_iff_ne.mpr c13
                      have c13b1 : (a1 != (-9223372036854775808)) = true := bne_iff_ne.mpr c13
                      simp only [Option.some.injEq, Prod.mk.injEq] at H
                      obtain ⟨rfl, rfl⟩ := H
                      go_wp2
                      go_ret2
                      exact ⟨by first | rfl | (simp; done) | (simp [*]; done), by repeat (first | exact Drawn0.refl _ | apply Drawn0.step)⟩
                · rw [if_neg c11] at H
                  have c11b0 : (a2 == (-1)) = false := beq_eq_false_iff_ne.mpr c11
                  have c11b1 : (a2 != (-1)) = true := bne_iff_ne.mpr c11
                  by_cases c14 : a0 = 47
                  · rw [if_pos c14] at H
                    have c14b0 : (a0 == 47) = true := beq_iff_eq.mpr c14
                    have c14b1 : (a0 != 47) = false := bne_eq_false_iff_eq.mpr c14
                    clear c14
                    simp only [Option.some.injEq, Prod.mk.injEq] at H
                    obtain ⟨rfl, rfl⟩ := H
                    go_wp2
                    go_ret2
                    exact ⟨by first | rfl | (simp; done) | (simp [*]; done), by repeat (first | exact Drawn0.refl _ | apply Drawn0.step)⟩
                  · rw [if_neg c14] at H
                    have c14b0 : (a0 == 47) = false := beq_eq_false_iff_ne.mpr c14
                    have c14b1 : (a0 != 47) = true := bne_iff_ne.mpr c14
                    simp only [Option.some.injEq, Prod.mk.injEq] at H
                    obtain ⟨rfl, rfl⟩ := H
                    go_wp2
                    go_ret2
                    exact ⟨by first | rfl | (simp; done) | (simp [*]; done), by repeat (first | exact Drawn0.refl _ | apply Drawn0.step)⟩
            · replace c9 := Bool.eq_false_iff.mpr c9
              subst c9
              have H1 : (if a0 = 38 then (some (Go.bits .and .i64 a1 a2, 0)) else (if a0 = 124 then (some (Go.bits .or .i64 a1 a2, 0)) else (if a0 = 94 then (some (Go.bits .xor .i64 a1 a2, 0)) else (if a0 = 60 then ((engramref11_bit.f (decide (a1 < a2))).bind fun t109 => (some (t109, 0))) else (if a0 = 61 then ((engramref11_bit.f (a1 == a2)).bind fun t110 => (some (t110, 0))) else (if a0 = 171 then (if 0 ≤ (IntKind.u64.wrap (Go.bits .and .i64 a2 63)) then (some (shl .i64 a1 (IntKind.u64.wrap (Go.bits .and .i64 a2 63)), 0)) else (none)) else (if a0 = 187 then (if 0 ≤ (IntKind.u64.wrap (Go.bits .and .i64 a2 63)) then (some (shr .i64 a1 (IntKind.u64.wrap (Go.bits .and .i64 a2 63)), 0)) else (none)) else (if a0 = 33 then ((engramref11_bit.f (a1 == 0)).bind fun t111 => (some (t111, 0))) else (some (0, 2)))))))))) = some (r1, r2) := by rw [if_neg (show ¬ (false = true) by decide)] at H; exact H
              clear H
              have H := H1
              clear H1
              by_cases c15 : a0 = 38
              · rw [if_pos c15] at H
                have c15b0 : (a0 == 38) = true := beq_iff_eq.mpr c15
                have c15b1 : (a0 != 38) = false := bne_eq_false_iff_eq.mpr c15
                clear c15
                simp only [Option.some.injEq, Prod.mk.injEq] at H
                obtain ⟨rfl, rfl⟩ := H
                go_wp2
                go_ret2
                exact ⟨by first | rfl | (simp; done) | (simp [*]; done), by repeat (first | exact Drawn0.refl _ | apply Drawn0.step)⟩
              · rw [if_neg c15] at H
                have c15b0 : (a0 == 38) = false := beq_eq_false_iff_ne.mpr c15
                have c15b1 : (a0 != 38) = true := bne_iff_ne.mpr c15
                by_cases c16 : a0 = 124
                · rw [if_pos c16] at H
                  have c16b0 : (a0 == 124) = true := beq_iff_eq.mpr c16
                  have c16b1 : (a0 != 124) = false := bne_eq_false_iff_eq.mpr c16
                  clear c16
                  simp only [Option.some.injEq, Prod.mk.injEq] at H
                  obtain ⟨rfl, rfl⟩ := H
                  go_wp2
                  go_ret2
                  exact ⟨by first | rfl | (simp; done) | (simp [*]; done), by repeat (first | exact Drawn0.refl _ | apply Drawn0.step)⟩
                · rw [if_neg c16] at H
                  have c16b0 : (a0 == 124) = false := beq_eq_false_iff_ne.mpr c16
                  have c16b1 : (a0 != 124) = true := bne_iff_ne.mpr c16
                  by_cases c17 : a0 = 94
                  · rw [if_pos c17] at H
                    have c17b0 : (a0 == 94) = true := beq_iff_eq.mpr c17
                    have c17b1 : (a0 != 94) = false := bne_eq_false_iff_eq.mpr c17
                    clear c17
                    simp only [Option.some.injEq, Prod.mk.injEq] at H
                    obtain ⟨rfl, rfl⟩ := H
                    go_wp2
                    go_ret2
                    exact ⟨by first | rfl | (simp; done) | (simp [*]; done), by repeat (first | exact Drawn0.refl _ | apply Drawn0.step)⟩
                  · rw [if_neg c17] at H
                    have c17b0 : (a0 == 94) = false := beq_eq_false_iff_ne.mpr c17
                    have c17b1 : (a0 != 94) = true := bne_iff_ne.mpr c17
                    by_cases c18 : a0 = 60
                    · rw [if_pos c18] at H
                      have c18b0 : (a0 == 60) = true := beq_iff_eq.mpr c18
                      have c18b1 : (a0 != 60) = false := bne_eq_false_iff_eq.mpr c18
                      clear c18
                      replace H := Option.bind_eq_some_iff.mp H
                      obtain ⟨t109, A190, H⟩ := H
                      replace H : (some (t109, 0)) = some (r1, r2) := H
                      have A19 := Aside0.mk A190
                      clear A190
                      simp only [Option.some.injEq, Prod.mk.injEq] at H
                      obtain ⟨rfl, rfl⟩ := H
                      go_wp2_with (first | ((with_reducible refine gate_callee (f := 46) rfl ?_); refine goesL_ (some 65) rfl rfl Try.func46 (by kernel_rfl) rfl #[.bool (decide (a1 < a2))] rfl (by (try simp only [List.map_toArray, List.map_cons, List.map_nil]); first | done | rfl | (simp only [List.length_drop, List.length_take]; rfl)) ?_; (with_reducible refine (engramref11_bit.calls (decide (a1 < a2)) t109 _ A19.out).mono ?_); rintro e w' ⟨rfl, ⟨nd, rfl⟩⟩; refine ⟨_, rfl, ?_⟩))
                      go_ret2
                      exact ⟨by first | rfl | (simp; done) | (simp [*]; done), by repeat (first | exact Drawn0.refl _ | apply Drawn0.step)⟩
                    · rw [if_neg c18] at H
                      have c18b0 : (a0 == 60) = false := beq_eq_false_iff_ne.mpr c18
                      have c18b1 : (a0 != 60) = true := bne_iff_ne.mpr c18
                      by_cases c20 : a0 = 61
                      · rw [if_pos c20] at H
                        have c20b0 : (a0 == 61) = true := beq_iff_eq.mpr c20
                        have c20b1 : (a0 != 61) = false := bne_eq_false_iff_eq.mpr c20
                        clear c20
                        replace H := Option.bind_eq_some_iff.mp H
                        obtain ⟨t110, A210, H⟩ := H
                        replace H : (some (t110, 0)) = some (r1, r2) := H
                        have A21 := Aside0.mk A210
                        clear A210
                        simp only [Option.some.injEq, Prod.mk.injEq] at H
                        obtain ⟨rfl, rfl⟩ := H
                        go_wp2_with (first | ((with_reducible refine gate_callee (f := 46) rfl ?_); refine goesL_ (some 71) rfl rfl Try.func46 (by kernel_rfl) rfl #[.bool (a1 == a2)] rfl (by (try simp only [List.map_toArray, List.map_cons, List.map_nil]); first | done | rfl | (simp only [List.length_drop, List.length_take]; rfl)) ?_; (with_reducible refine (engramref11_bit.calls (a1 == a2) t110 _ A21.out).mono ?_); rintro e w' ⟨rfl, ⟨nd, rfl⟩⟩; refine ⟨_, rfl, ?_⟩))
                        go_ret2
                        exact ⟨by first | rfl | (simp; done) | (simp [*]; done), by repeat (first | exact Drawn0.refl _ | apply Drawn0.step)⟩
                      · rw [if_neg c20] at H
                        have c20b0 : (a0 == 61) = false := beq_eq_false_iff_ne.mpr c20
                        have c20b1 : (a0 != 61) = true := bne_iff_ne.mpr c20
                        by_cases c22 : a0 = 171
                        · rw [if_pos c22] at H
                          have c22b0 : (a0 == 171) = true := beq_iff_eq.mpr c22
                          have c22b1 : (a0 != 171) = false := bne_eq_false_iff_eq.mpr c22
                          clear c22
                          obtain ⟨ji23, hji23⟩ : ∃ j_ : Int, (IntKind.u64.wrap (Go.bits .and .i64 a2 63)) = j_ := ⟨_, rfl⟩
                          replace H : (if 0 ≤ (ji23) then (some (shl .i64 a1 (ji23), 0)) else (none)) = some (r1, r2) := by first | (rw [hji23] at H; exact H) | (simp only [hji23] at H ⊢; exact H)
                          by_cases c24 : 0 ≤ (ji23)
                          · rw [if_pos c24] at H
                            have c24b0 := eq_true c24
                            have c24b1 : decide (0 ≤ (ji23)) = true := decide_eq_true c24
                            clear c24
                            obtain ⟨ji25, hji25⟩ : ∃ j_ : Int, (shl .i64 a1 (ji23)) = j_ := ⟨_, rfl⟩
                            replace H : (some (ji25, 0)) = some (r1, r2) := by first | (rw [hji25] at H; exact H) | (simp only [hji25] at H ⊢; exact H)
                            have hji25_ : (IntKind.i64.wrap (a1 * 2 ^ min (ji23).toNat 64)) = ji25 := hji25
                            have hji25z : (ji23) ≤ 64 → (IntKind.i64.wrap (a1 * 2 ^ (ji23).toNat)) = ji25 := shl_small hji25
                            have hji25y : (wrap64 (a1 * 2 ^ min (ji23).toNat 64)) = ji25 := (i64_w _).symm.trans hji25_
                            have hji25x : (ji23) ≤ 64 → (wrap64 (a1 * 2 ^ (ji23).toNat)) = ji25 := fun h_ => (i64_w _).symm.trans (hji25z h_)
                            simp only [Option.some.injEq, Prod.mk.injEq] at H
                            obtain ⟨rfl, rfl⟩ := H
                            go_wp2
                            go_ret2
                            exact ⟨by first | rfl | (simp; done) | (simp only [← hji23, ← hji25] <;> (first | rfl | simp)) | (simp [*]; done), by repeat (first | exact Drawn0.refl _ | apply Drawn0.step)⟩
                          · rw [if_neg c24] at H
                            exact absurd H (by simp)
                        · rw [if_neg c22] at H
                          have c22b0 : (a0 == 171) = false := beq_eq_false_iff_ne.mpr c22
                          have c22b1 : (a0 != 171) = true := bne_iff_ne.mpr c22
                          by_cases c26 : a0 = 187
                          · rw [if_pos c26] at H
                            have c26b0 : (a0 == 187) = true := beq_iff_eq.mpr c26
                            have c26b1 : (a0 != 187) = false := bne_eq_false_iff_eq.mpr c26
                            clear c26
                            obtain ⟨ji27, hji27⟩ : ∃ j_ : Int, (IntKind.u64.wrap (Go.bits .and .i64 a2 63)) = j_ := ⟨_, rfl⟩
                            replace H : (if 0 ≤ (ji27) then (some (shr .i64 a1 (ji27), 0)) else (none)) = some (r1, r2) := by first | (rw [hji27] at H; exact H) | (simp only [hji27] at H ⊢; exact H)
                            by_cases c28 : 0 ≤ (ji27)
                            · rw [if_pos c28] at H
                              have c28b0 := eq_true c28
                              have c28b1 : decide (0 ≤ (ji27)) = true := decide_eq_true c28
                              clear c28
                              obtain ⟨ji29, hji29⟩ : ∃ j_ : Int, (shr .i64 a1 (ji27)) = j_ := ⟨_, rfl⟩
                              replace H : (some (ji29, 0)) = some (r1, r2) := by first | (rw [hji29] at H; exact H) | (simp only [hji29] at H ⊢; exact H)
                              have hji29_ : (a1 / 2 ^ min (ji27).toNat 64) = ji29 := hji29
                              have hji29z : (ji27) ≤ 64 → (a1 / 2 ^ (ji27).toNat) = ji29 := shr_small hji29
                              simp only [Option.some.injEq, Prod.mk.injEq] at H
                              obtain ⟨rfl, rfl⟩ := H
                              go_wp2
                              go_ret2
                              exact ⟨by first | rfl | (simp; done) | (simp only [← hji27, ← hji29] <;> (first | rfl | simp)) | (simp [*]; done), by repeat (first | exact Drawn0.refl _ | apply Drawn0.step)⟩
                            · rw [if_neg c28] at H
                              exact absurd H (by simp)
                          · rw [if_neg c26] at H
                            have c26b0 : (a0 == 187) = false := beq_eq_false_iff_ne.mpr c26
                            have c26b1 : (a0 != 187) = true := bne_iff_ne.mpr c26
                            by_cases c30 : a0 = 33
                            · rw [if_pos c30] at H
                              have c30b0 : (a0 == 33) = true := beq_iff_eq.mpr c30
                              have c30b1 : (a0 != 33) = false := bne_eq_false_iff_eq.mpr c30
                              clear c30
                              replace H := Option.bind_eq_some_iff.mp H
                              obtain ⟨t111, A310, H⟩ := H
                              replace H : (some (t111, 0)) = some (r1, r2) := H
                              have A31 := Aside0.mk A310
                              clear A310
                              simp only [Option.some.injEq, Prod.mk.injEq] at H
                              obtain ⟨rfl, rfl⟩ := H
                              go_wp2_with (first | ((with_reducible refine gate_callee (f := 46) rfl ?_); refine goesL_ (some 90) rfl rfl Try.func46 (by kernel_rfl) rfl #[.bool (a1 == 0)] rfl (by (try simp only [List.map_toArray, List.map_cons, List.map_nil]); first | done | rfl | (simp only [List.length_drop, List.length_take]; rfl)) ?_; (with_reducible refine (engramref11_bit.calls (a1 == 0) t111 _ A31.out).mono ?_); rintro e w' ⟨rfl, ⟨nd, rfl⟩⟩; refine ⟨_, rfl, ?_⟩))
                              go_ret2
                              exact ⟨by first | rfl | (simp; done) | (simp [*]; done), by repeat (first | exact Drawn0.refl _ | apply Drawn0.step)⟩
                            · rw [if_neg c30] at H
                              have c30b0 : (a0 == 33) = false := beq_eq_false_iff_ne.mpr c30
                              have c30b1 : (a0 != 33) = true := bne_iff_ne.mpr c30
                              simp only [Option.some.injEq, Prod.mk.injEq] at H
                              obtain ⟨rfl, rfl⟩ := H
                              go_wp2
                              go_ret2
                              exact ⟨by first | rfl | (simp; done) | (simp [*]; done), by repeat (first | exact Drawn0.refl _ | apply Drawn0.step)⟩

/-! ### engramlaw10_same: function 30 -/
def engramlaw10_same.f (k : Nat) (a0 : Int) (a1 : Int) (a2 : Int) : Option (Bool) := (word_Do.f k a0 a1 a2).bind fun bt112 => ((engramref11_Do.f k a0 a1 a2).bind fun bt114 => (if bt112.1 = bt114.1 then (if bt112.2 = bt114.2 then ((word_Byte.f a1).bind fun t116 => (some (t116 == (Go.bits .and .i64 a1 255)))) else (some false)) else (some false)))
theorem engramlaw10_same.mono : ∀ a0 a1 a2 k, LeO (engramlaw10_same.f k a0 a1 a2) (engramlaw10_same.f (k + 1) a0 a1 a2) := by
  intro a0 a1 a2 k
  unfold engramlaw10_same.f
  repeat' first
      | (with_reducible exact engramref11_Do.mono _ _ _ _)
      | (with_reducible exact word_Do.mono _ _ _ _)
      | (with_reducible exact LeO.refl _)
      | (with_reducible exact LeO.none _)
      | (with_reducible refine LeO.ite ?_ ?_)
      | (with_reducible refine LeO.bind ?_ (fun _ => ?_))
      | exact engramref11_Do.mono _ _ _ _
      | exact word_Do.mono _ _ _ _
      | exact LeO.none _
      | refine LeO.ite ?_ ?_
      | refine LeO.bind ?_ (fun _ => ?_)
set_option maxHeartbeats 8000000 in
set_option maxRecDepth 100000 in
theorem engramlaw10_same.calls (k : Nat) (a0 : Int) (a1 : Int) (a2 : Int) (r : Bool) (w : World) (h : engramlaw10_same.f k a0 a1 a2 = some r) :
    Calls Try.prog 30 #[.int .i32 a0, .int .i64 a1, .int .i64 a2] w fun e w' => e = .returned (.bool r) ∧ Drawn0 w w' := by
  have H : ((word_Do.f k a0 a1 a2).bind fun bt112 => ((engramref11_Do.f k a0 a1 a2).bind fun bt114 => (if bt112.1 = bt114.1 then (if bt112.2 = bt114.2 then ((word_Byte.f a1).bind fun t116 => (some (t116 == (Go.bits .and .i64 a1 255)))) else (some false)) else (some false)))) = some r := h
  clear h
  replace H := Option.bind_eq_some_iff.mp H
  obtain ⟨⟨t112, t113⟩, A40, H⟩ := H
  replace H : ((engramref11_Do.f k a0 a1 a2).bind fun bt114 => (if t112 = bt114.1 then (if t113 = bt114.2 then ((word_Byte.f a1).bind fun t116 => (some (t116 == (Go.bits .and .i64 a1 255)))) else (some false)) else (some false))) = some r := H
  have A4 := Aside0.mk A40
  clear A40
  replace H := Option.bind_eq_some_iff.mp H
  obtain ⟨⟨t114, t115⟩, A50, H⟩ := H
  replace H : (if t112 = t114 then (if t113 = t115 then ((word_Byte.f a1).bind fun t116 => (some (t116 == (Go.bits .and .i64 a1 255)))) else (some false)) else (some false)) = some r := H
  have A5 := Aside0.mk A50
  clear A50
  by_cases c6 : t112 = t114
  · rw [if_pos c6] at H
    have c6b0 : (t112 == t114) = true := beq_iff_eq.mpr c6
    have c6b1 : (t112 != t114) = false := bne_eq_false_iff_eq.mpr c6
    clear c6
    by_cases c7 : t113 = t115
    · rw [if_pos c7] at H
      have c7b0 : (t113 == t115) = true := beq_iff_eq.mpr c7
      have c7b1 : (t113 != t115) = false := bne_eq_false_iff_eq.mpr c7
      clear c7
      replace H := Option.bind_eq_some_iff.mp H
      obtain ⟨t116, A80, H⟩ := H
      replace H : (some (t116 == (Go.bits .and .i64 a1 255))) = some r := H
      have A8 := Aside0.mk A80
      clear A80
      obtain rfl := Option.some.inj H
      go_enter Try.func30, Try.ntmps30
      go_wp2_with (first | ((with_reducible refine gate_callee (f := 32) rfl ?_); refine goesL_ (some 15) rfl rfl Try.func32 (by kernel_rfl) rfl #[.int .i32 a0, .int .i64 a1, .int .i64 a2] rfl (by (try simp only [List.map_toArray, List.map_cons, List.map_nil]); first | done | rfl | (simp only [List.length_drop, List.length_take]; rfl)) ?_; (with_reducible refine (word_Do.calls k a0 a1 a2 t112 t113 _ A4.out).mono ?_); rintro e w' ⟨rfl, ⟨nd, rfl⟩⟩; refine ⟨_, rfl, ?_⟩) | ((with_reducible refine gate_callee (f := 43) rfl ?_); refine goesL_ (some 22) rfl rfl Try.func43 (by kernel_rfl) rfl #[.int .i32 a0, .int .i64 a1, .int .i64 a2] rfl (by (try simp only [List.map_toArray, List.map_cons, List.map_nil]); first | done | rfl | (simp only [List.length_drop, List.length_take]; rfl)) ?_; (with_reducible refine (engramref11_Do.calls k a0 a1 a2 t114 t115 _ A5.out).mono ?_); rintro e w' ⟨rfl, ⟨nd, rfl⟩⟩; refine ⟨_, rfl, ?_⟩) | (go_at_call 33; (with_reducible refine (word_Byte.calls a1 t116 _ A8.out).mono ?_); rintro e w' ⟨rfl, ⟨nd, rfl⟩⟩))
      go_ret
      exact ⟨by first | rfl | (simp; done) | (simp [*]; done), by repeat (first | exact Drawn0.refl _ | apply Drawn0.step)⟩
    · rw [if_neg c7] at H
      have c7b0 : (t113 == t115) = false := beq_eq_false_iff_ne.mpr c7
      have c7b1 : (t113 != t115) = true := bne_iff_ne.mpr c7
      obtain rfl := Option.some.inj H
      go_enter Try.func30, Try.ntmps30
      go_wp2_with (first | ((with_reducible refine gate_callee (f := 32) rfl ?_); refine goesL_ (some 15) rfl rfl Try.func32 (by kernel_rfl) rfl #[.int .i32 a0, .int .i64 a1, .int .i64 a2] rfl (by (try simp only [List.map_toArray, List.map_cons, List.map_nil]); first | done | rfl | (simp only [List.length_drop, List.length_take]; rfl)) ?_; (with_reducible refine (word_Do.calls k a0 a1 a2 t112 t113 _ A4.out).mono ?_); rintro e w' ⟨rfl, ⟨nd, rfl⟩⟩; refine ⟨_, rfl, ?_⟩) | ((with_reducible refine gate_callee (f := 43) rfl ?_); refine goesL_ (some 22) rfl rfl Try.func43 (by kernel_rfl) rfl #[.int .i32 a0, .int .i64 a1, .int .i64 a2] rfl (by (try simp only [List.map_toArray, List.map_cons, List.map_nil]); first | done | rfl | (simp only [List.length_drop, List.length_take]; rfl)) ?_; (with_reducible refine (engramref11_Do.calls k a0 a1 a2 t114 t115 _ A5.out).mono ?_); rintro e w' ⟨rfl, ⟨nd, rfl⟩⟩; refine ⟨_, rfl, ?_⟩))
      go_ret
      exact ⟨by first | rfl | (simp; done) | (simp [*]; done), by repeat (first | exact Drawn0.refl _ | apply Drawn0.step)⟩
  · rw [if_neg c6] at H
    have c6b0 : (t112 == t114) = false := beq_eq_false_iff_ne.mpr c6
    have c6b1 : (t112 != t114) = true := bne_iff_ne.mpr c6
    obtain rfl := Option.some.inj H
    go_enter Try.func30, Try.ntmps30
    go_wp2_with (first | ((with_reducible refine gate_callee (f := 32) rfl ?_); refine goesL_ (some 15) rfl rfl Try.func32 (by kernel_rfl) rfl #[.int .i32 a0, .int .i64 a1, .int .i64 a2] rfl (by (try simp only [List.map_toArray, List.map_cons, List.map_nil]); first | done | rfl | (simp only [List.length_drop, List.length_take]; rfl)) ?_; (with_reducible refine (word_Do.calls k a0 a1 a2 t112 t113 _ A4.out).mono ?_); rintro e w' ⟨rfl, ⟨nd, rfl⟩⟩; refine ⟨_, rfl, ?_⟩) | ((with_reducible refine gate_callee (f := 43) rfl ?_); refine goesL_ (some 22) rfl rfl Try.func43 (by kernel_rfl) rfl #[.int .i32 a0, .int .i64 a1, .int .i64 a2] rfl (by (try simp only [List.map_toArray, List.map_cons, List.map_nil]); first | done | rfl | (simp only [List.length_drop, List.length_take]; rfl)) ?_; (with_reducible refine (engramref11_Do.calls k a0 a1 a2 t114 t115 _ A5.out).mono ?_); rintro e w' ⟨rfl, ⟨nd, rfl⟩⟩; refine ⟨_, rfl, ?_⟩))
    go_ret
    exact ⟨by first | rfl | (simp; done) | (simp [*]; done), by repeat (first | exact Drawn0.refl _ | apply Drawn0.step)⟩

/-! ### engramlaw10_known: function 31 -/
def engramlaw10_known.f (k : Nat)  : Option (Bool) := (word_Do.f k 47 1 0).bind fun bt117 => ((word_Do.f k 187 (-1) 9).bind fun bt119 => ((word_Do.f k 120 1 1).bind fun bt121 => ((word_Do.f k 47 (-9223372036854775808) (-1)).bind fun bt123 => ((word_Do.f k 37 (-9223372036854775808) (-1)).bind fun bt125 => (if bt117.2 = 3 then (if bt119.1 = (-1) then (if bt119.2 = 0 then (if bt121.2 = 2 then (if bt123.2 = 4 then (if bt125.1 = 0 then (if bt125.2 = 0 then ((word_Byte.f (-1)).bind fun t127 => (some (t127 == 255))) else (some false)) else (some false)) else (some false)) else (some false)) else (some false)) else (some false)) else (some false))))))
theorem engramlaw10_known.mono : ∀ k, LeO (engramlaw10_known.f k ) (engramlaw10_known.f (k + 1) ) := by
  intro  k
  unfold engramlaw10_known.f
  repeat' first
      | (with_reducible exact word_Do.mono _ _ _ _)
      | (with_reducible exact LeO.refl _)
      | (with_reducible exact LeO.none _)
      | (with_reducible refine LeO.ite ?_ ?_)
      | (with_reducible refine LeO.bind ?_ (fun _ => ?_))
      | exact word_Do.mono _ _ _ _
      | exact LeO.none _
      | refine LeO.ite ?_ ?_
      | refine LeO.bind ?_ (fun _ => ?_)
set_option maxHeartbeats 8000000 in
set_option maxRecDepth 100000 in
theorem engramlaw10_known.calls (k : Nat)  (r : Bool) (w : World) (h : engramlaw10_known.f k  = some r) :
    Calls Try.prog 31 #[] w fun e w' => e = .returned (.bool r) ∧ Drawn0 w w' := by
  have H : ((word_Do.f k 47 1 0).bind fun bt117 => ((word_Do.f k 187 (-1) 9).bind fun bt119 => ((word_Do.f k 120 1 1).bind fun bt121 => ((word_Do.f k 47 (-9223372036854775808) (-1)).bind fun bt123 => ((word_Do.f k 37 (-9223372036854775808) (-1)).bind fun bt125 => (if bt117.2 = 3 then (if bt119.1 = (-1) then (if bt119.2 = 0 then (if bt121.2 = 2 then (if bt123.2 = 4 then (if bt125.1 = 0 then (if bt125.2 = 0 then ((word_Byte.f (-1)).bind fun t127 => (some (t127 == 255))) else (some false)) else (some false)) else (some false)) else (some false)) else (some false)) else (some false)) else (some false))))))) = some r := h
  clear h
  replace H := Option.bind_eq_some_iff.mp H
  obtain ⟨⟨t117, t118⟩, A10, H⟩ := H
  replace H : ((word_Do.f k 187 (-1) 9).bind fun bt119 => ((word_Do.f k 120 1 1).bind fun bt121 => ((word_Do.f k 47 (-9223372036854775808) (-1)).bind fun bt123 => ((word_Do.f k 37 (-9223372036854775808) (-1)).bind fun bt125 => (if t118 = 3 then (if bt119.1 = (-1) then (if bt119.2 = 0 then (if bt121.2 = 2 then (if bt123.2 = 4 then (if bt125.1 = 0 then (if bt125.2 = 0 then ((word_Byte.f (-1)).bind fun t127 => (some (t127 == 255))) else (some false)) else (some false)) else (some false)) else (some false)) else (some false)) else (some false)) else (some false)))))) = some r := H
  have A1 := Aside0.mk A10
  clear A10
  replace H := Option.bind_eq_some_iff.mp H
  obtain ⟨⟨t119, t120⟩, A20, H⟩ := H
  replace H : ((word_Do.f k 120 1 1).bind fun bt121 => ((word_Do.f k 47 (-9223372036854775808) (-1)).bind fun bt123 => ((word_Do.f k 37 (-9223372036854775808) (-1)).bind fun bt125 => (if t118 = 3 then (if t119 = (-1) then (if t120 = 0 then (if bt121.2 = 2 then (if bt123.2 = 4 then (if bt125.1 = 0 then (if bt125.2 = 0 then ((word_Byte.f (-1)).bind fun t127 => (some (t127 == 255))) else (some false)) else (some false)) else (some false)) else (some false)) else (some false)) else (some false)) else (some false))))) = some r := H
  have A2 := Aside0.mk A20
  clear A20
  replace H := Option.bind_eq_some_iff.mp H
  obtain ⟨⟨t121, t122⟩, A30, H⟩ := H
  replace H : ((word_Do.f k 47 (-9223372036854775808) (-1)).bind fun bt123 => ((word_Do.f k 37 (-9223372036854775808) (-1)).bind fun bt125 => (if t118 = 3 then (if t119 = (-1) then (if t120 = 0 then (if t122 = 2 then (if bt123.2 = 4 then (if bt125.1 = 0 then (if bt125.2 = 0 then ((word_Byte.f (-1)).bind fun t127 => (some (t127 == 255))) else (some false)) else (some false)) else (some false)) else (some false)) else (some false)) else (some false)) else (some false)))) = some r := H
  have A3 := Aside0.mk A30
  clear A30
  replace H := Option.bind_eq_some_iff.mp H
  obtain ⟨⟨t123, t124⟩, A40, H⟩ := H
  replace H : ((word_Do.f k 37 (-9223372036854775808) (-1)).bind fun bt125 => (if t118 = 3 then (if t119 = (-1) then (if t120 = 0 then (if t122 = 2 then (if t124 = 4 then (if bt125.1 = 0 then (if bt125.2 = 0 then ((word_Byte.f (-1)).bind fun t127 => (some (t127 == 255))) else (some false)) else (some false)) else (some false)) else (some false)) else (some false)) else (some false)) else (some false))) = some r := H
  have A4 := Aside0.mk A40
  clear A40
  replace H := Option.bind_eq_some_iff.mp H
  obtain ⟨⟨t125, t126⟩, A50, H⟩ := H
  replace H : (if t118 = 3 then (if t119 = (-1) then (if t120 = 0 then (if t122 = 2 then (if t124 = 4 then (if t125 = 0 then (if t126 = 0 then ((word_Byte.f (-1)).bind fun t127 => (some (t127 == 255))) else (some false)) else (some false)) else (some false)) else (some false)) else (some false)) else (some false)) else (some false)) = some r := H
  have A5 := Aside0.mk A50
  clear A50
  by_cases c6 : t118 = 3
  · rw [if_pos c6] at H
    have c6b0 : (t118 == 3) = true := beq_iff_eq.mpr c6
    have c6b1 : (t118 != 3) = false := bne_eq_false_iff_eq.mpr c6
    clear c6
    by_cases c7 : t119 = (-1)
    · rw [if_pos c7] at H
      have c7b0 : (t119 == (-1)) = true := beq_iff_eq.mpr c7
      have c7b1 : (t119 != (-1)) = false := bne_eq_false_iff_eq.mpr c7
      clear c7
      by_cases c8 : t120 = 0
      · rw [if_pos c8] at H
        have c8b0 : (t120 == 0) = true := beq_iff_eq.mpr c8
        have c8b1 : (t120 != 0) = false := bne_eq_false_iff_eq.mpr c8
        clear c8
        by_cases c9 : t122 = 2
        · rw [if_pos c9] at H
          have c9b0 : (t122 == 2) = true := beq_iff_eq.mpr c9
          have c9b1 : (t122 != 2) = false := bne_eq_false_iff_eq.mpr c9
          clear c9
          by_cases c10 : t124 = 4
          · rw [if_pos c10] at H
            have c10b0 : (t124 == 4) = true := beq_iff_eq.mpr c10
            have c10b1 : (t124 != 4) = false := bne_eq_false_iff_eq.mpr c10
            clear c10
            by_cases c11 : t125 = 0
            · rw [if_pos c11] at H
              have c11b0 : (t125 == 0) = true := beq_iff_eq.mpr c11
              have c11b1 : (t125 != 0) = false := bne_eq_false_iff_eq.mpr c11
              clear c11
              by_cases c12 : t126 = 0
              · rw [if_pos c12] at H
                have c12b0 : (t126 == 0) = true := beq_iff_eq.mpr c12
                have c12b1 : (t126 != 0) = false := bne_eq_false_iff_eq.mpr c12
                clear c12
                replace H := Option.bind_eq_some_iff.mp H
                obtain ⟨t127, A130, H⟩ := H
                replace H : (some (t127 == 255)) = some r := H
                have A13 := Aside0.mk A130
                clear A130
                obtain rfl := Option.some.inj H
                go_enter Try.func31, Try.ntmps31
                go_wp2_with (first | ((with_reducible refine gate_callee (f := 32) rfl ?_); refine goesL_ (some 12) rfl rfl Try.func32 (by kernel_rfl) rfl #[.int .i32 47, .int .i64 1, .int .i64 0] rfl (by (try simp only [List.map_toArray, List.map_cons, List.map_nil]); first | done | rfl | (simp only [List.length_drop, List.length_take]; rfl)) ?_; (with_reducible refine (word_Do.calls k 47 1 0 t117 t118 _ A1.out).mono ?_); rintro e w' ⟨rfl, ⟨nd, rfl⟩⟩; refine ⟨_, rfl, ?_⟩) | ((with_reducible refine gate_callee (f := 32) rfl ?_); refine goesL_ (some 16) rfl rfl Try.func32 (by kernel_rfl) rfl #[.int .i32 187, .int .i64 (-1), .int .i64 9] rfl (by (try simp only [List.map_toArray, List.map_cons, List.map_nil]); first | done | rfl | (simp only [List.length_drop, List.length_take]; rfl)) ?_; (with_reducible refine (word_Do.calls k 187 (-1) 9 t119 t120 _ A2.out).mono ?_); rintro e w' ⟨rfl, ⟨nd, rfl⟩⟩; refine ⟨_, rfl, ?_⟩) | ((with_reducible refine gate_callee (f := 32) rfl ?_); refine goesL_ (some 20) rfl rfl Try.func32 (by kernel_rfl) rfl #[.int .i32 120, .int .i64 1, .int .i64 1] rfl (by (try simp only [List.map_toArray, List.map_cons, List.map_nil]); first | done | rfl | (simp only [List.length_drop, List.length_take]; rfl)) ?_; (with_reducible refine (word_Do.calls k 120 1 1 t121 t122 _ A3.out).mono ?_); rintro e w' ⟨rfl, ⟨nd, rfl⟩⟩; refine ⟨_, rfl, ?_⟩) | ((with_reducible refine gate_callee (f := 32) rfl ?_); refine goesL_ (some 24) rfl rfl Try.func32 (by kernel_rfl) rfl #[.int .i32 47, .int .i64 (-9223372036854775808), .int .i64 (-1)] rfl (by (try simp only [List.map_toArray, List.map_cons, List.map_nil]); first | done | rfl | (simp only [List.length_drop, List.length_take]; rfl)) ?_; (with_reducible refine (word_Do.calls k 47 (-9223372036854775808) (-1) t123 t124 _ A4.out).mono ?_); rintro e w' ⟨rfl, ⟨nd, rfl⟩⟩; refine ⟨_, rfl, ?_⟩) | ((with_reducible refine gate_callee (f := 32) rfl ?_); refine goesL_ (some 28) rfl rfl Try.func32 (by kernel_rfl) rfl #[.int .i32 37, .int .i64 (-9223372036854775808), .int .i64 (-1)] rfl (by (try simp only [List.map_toArray, List.map_cons, List.map_nil]); first | done | rfl | (simp only [List.length_drop, List.length_take]; rfl)) ?_; (with_reducible refine (word_Do.calls k 37 (-9223372036854775808) (-1) t125 t126 _ A5.out).mono ?_); rintro e w' ⟨rfl, ⟨nd, rfl⟩⟩; refine ⟨_, rfl, ?_⟩) | (go_at_call 33; (with_reducible refine (word_Byte.calls (-1) t127 _ A13.out).mono ?_); rintro e w' ⟨rfl, ⟨nd, rfl⟩⟩))
                go_ret
                exact ⟨by first | rfl | (simp; done) | (simp [*]; done), by repeat (first | exact Drawn0.refl _ | apply Drawn0.step)⟩
              · rw [if_neg c12] at H
                have c12b0 : (t126 == 0) = false := beq_eq_false_iff_ne.mpr c12
                have c12b1 : (t126 != 0) = true := bne_iff_ne.mpr c12
                obtain rfl := Option.some.inj H
                go_enter Try.func31, Try.ntmps31
                go_wp2_with (first | ((with_reducible refine gate_callee (f := 32) rfl ?_); refine goesL_ (some 12) rfl rfl Try.func32 (by kernel_rfl) rfl #[.int .i32 47, .int .i64 1, .int .i64 0] rfl (by (try simp only [List.map_toArray, List.map_cons, List.map_nil]); first | done | rfl | (simp only [List.length_drop, List.length_take]; rfl)) ?_; (with_reducible refine (word_Do.calls k 47 1 0 t117 t118 _ A1.out).mono ?_); rintro e w' ⟨rfl, ⟨nd, rfl⟩⟩; refine ⟨_, rfl, ?_⟩) | ((with_reducible refine gate_callee (f := 32) rfl ?_); refine goesL_ (some 16) rfl rfl Try.func32 (by kernel_rfl) rfl #[.int .i32 187, .int .i64 (-1), .int .i64 9] rfl (by (try simp only [List.map_toArray, List.map_cons, List.map_nil]); first | done | rfl | (simp only [List.length_drop, List.length_take]; rfl)) ?_; (with_reducible refine (word_Do.calls k 187 (-1) 9 t119 t120 _ A2.out).mono ?_); rintro e w' ⟨rfl, ⟨nd, rfl⟩⟩; refine ⟨_, rfl, ?_⟩) | ((with_reducible refine gate_callee (f := 32) rfl ?_); refine goesL_ (some 20) rfl rfl Try.func32 (by kernel_rfl) rfl #[.int .i32 120, .int .i64 1, .int .i64 1] rfl (by (try simp only [List.map_toArray, List.map_cons, List.map_nil]); first | done | rfl | (simp only [List.length_drop, List.length_take]; rfl)) ?_; (with_reducible refine (word_Do.calls k 120 1 1 t121 t122 _ A3.out).mono ?_); rintro e w' ⟨rfl, ⟨nd, rfl⟩⟩; refine ⟨_, rfl, ?_⟩) | ((with_reducible refine gate_callee (f := 32) rfl ?_); refine goesL_ (some 24) rfl rfl Try.func32 (by kernel_rfl) rfl #[.int .i32 47, .int .i64 (-9223372036854775808), .int .i64 (-1)] rfl (by (try simp only [List.map_toArray, List.map_cons, List.map_nil]); first | done | rfl | (simp only [List.length_drop, List.length_take]; rfl)) ?_; (with_reducible refine (word_Do.calls k 47 (-9223372036854775808) (-1) t123 t124 _ A4.out).mono ?_); rintro e w' ⟨rfl, ⟨nd, rfl⟩⟩; refine ⟨_, rfl, ?_⟩) | ((with_reducible refine gate_callee (f := 32) rfl ?_); refine goesL_ (some 28) rfl rfl Try.func32 (by kernel_rfl) rfl #[.int .i32 37, .int .i64 (-9223372036854775808), .int .i64 (-1)] rfl (by (try simp only [List.map_toArray, List.map_cons, List.map_nil]); first | done | rfl | (simp only [List.length_drop, List.length_take]; rfl)) ?_; (with_reducible refine (word_Do.calls k 37 (-9223372036854775808) (-1) t125 t126 _ A5.out).mono ?_); rintro e w' ⟨rfl, ⟨nd, rfl⟩⟩; refine ⟨_, rfl, ?_⟩))
                go_ret
                exact ⟨by first | rfl | (simp; done) | (simp [*]; done), by repeat (first | exact Drawn0.refl _ | apply Drawn0.step)⟩
            · rw [if_neg c11] at H
              have c11b0 : (t125 == 0) = false := beq_eq_false_iff_ne.mpr c11
              have c11b1 : (t125 != 0) = true := bne_iff_ne.mpr c11
              obtain rfl := Option.some.inj H
              go_enter Try.func31, Try.ntmps31
              go_wp2_with (first | ((with_reducible refine gate_callee (f := 32) rfl ?_); refine goesL_ (some 12) rfl rfl Try.func32 (by kernel_rfl) rfl #[.int .i32 47, .int .i64 1, .int .i64 0] rfl (by (try simp only [List.map_toArray, List.map_cons, List.map_nil]); first | done | rfl | (simp only [List.length_drop, List.length_take]; rfl)) ?_; (with_reducible refine (word_Do.calls k 47 1 0 t117 t118 _ A1.out).mono ?_); rintro e w' ⟨rfl, ⟨nd, rfl⟩⟩; refine ⟨_, rfl, ?_⟩) | ((with_reducible refine gate_callee (f := 32) rfl ?_); refine goesL_ (some 16) rfl rfl Try.func32 (by kernel_rfl) rfl #[.int .i32 187, .int .i64 (-1), .int .i64 9] rfl (by (try simp only [List.map_toArray, List.map_cons, List.map_nil]); first | done | rfl | (simp only [List.length_drop, List.length_take]; rfl)) ?_; (with_reducible refine (word_Do.calls k 187 (-1) 9 t119 t120 _ A2.out).mono ?_); rintro e w' ⟨rfl, ⟨nd, rfl⟩⟩; refine ⟨_, rfl, ?_⟩) | ((with_reducible refine gate_callee (f := 32) rfl ?_); refine goesL_ (some 20) rfl rfl Try.func32 (by kernel_rfl) rfl #[.int .i32 120, .int .i64 1, .int .i64 1] rfl (by (try simp only [List.map_toArray, List.map_cons, List.map_nil]); first | done | rfl | (simp only [List.length_drop, List.length_take]; rfl)) ?_; (with_reducible refine (word_Do.calls k 120 1 1 t121 t122 _ A3.out).mono ?_); rintro e w' ⟨rfl, ⟨nd, rfl⟩⟩; refine ⟨_, rfl, ?_⟩) | ((with_reducible refine gate_callee (f := 32) rfl ?_); refine goesL_ (some 24) rfl rfl Try.func32 (by kernel_rfl) rfl #[.int .i32 47, .int .i64 (-9223372036854775808), .int .i64 (-1)] rfl (by (try simp only [List.map_toArray, List.map_cons, List.map_nil]); first | done | rfl | (simp only [List.length_drop, List.length_take]; rfl)) ?_; (with_reducible refine (word_Do.calls k 47 (-9223372036854775808) (-1) t123 t124 _ A4.out).mono ?_); rintro e w' ⟨rfl, ⟨nd, rfl⟩⟩; refine ⟨_, rfl, ?_⟩) | ((with_reducible refine gate_callee (f := 32) rfl ?_); refine goesL_ (some 28) rfl rfl Try.func32 (by kernel_rfl) rfl #[.int .i32 37, .int .i64 (-9223372036854775808), .int .i64 (-1)] rfl (by (try simp only [List.map_toArray, List.map_cons, List.map_nil]); first | done | rfl | (simp only [List.length_drop, List.length_take]; rfl)) ?_; (with_reducible refine (word_Do.calls k 37 (-9223372036854775808) (-1) t125 t126 _ A5.out).mono ?_); rintro e w' ⟨rfl, ⟨nd, rfl⟩⟩; refine ⟨_, rfl, ?_⟩))
              go_ret
              exact ⟨by first | rfl | (simp; done) | (simp [*]; done), by repeat (first | exact Drawn0.refl _ | apply Drawn0.step)⟩
          · rw [if_neg c10] at H
            have c10b0 : (t124 == 4) = false := beq_eq_false_iff_ne.mpr c10
            have c10b1 : (t124 != 4) = true := bne_iff_ne.mpr c10
            obtain rfl := Option.some.inj H
            go_enter Try.func31, Try.ntmps31
            go_wp2_with (first | ((with_reducible refine gate_callee (f := 32) rfl ?_); refine goesL_ (some 12) rfl rfl Try.func32 (by kernel_rfl) rfl #[.int .i32 47, .int .i64 1, .int .i64 0] rfl (by (try simp only [List.map_toArray, List.map_cons, List.map_nil]); first | done | rfl | (simp only [List.length_drop, List.length_take]; rfl)) ?_; (with_reducible refine (word_Do.calls k 47 1 0 t117 t118 _ A1.out).mono ?_); rintro e w' ⟨rfl, ⟨nd, rfl⟩⟩; refine ⟨_, rfl, ?_⟩) | ((with_reducible refine gate_callee (f := 32) rfl ?_); refine goesL_ (some 16) rfl rfl Try.func32 (by kernel_rfl) rfl #[.int .i32 187, .int .i64 (-1), .int .i64 9] rfl (by (try simp only [List.map_toArray, List.map_cons, List.map_nil]); first | done | rfl | (simp only [List.length_drop, List.length_take]; rfl)) ?_; (with_reducible refine (word_Do.calls k 187 (-1) 9 t119 t120 _ A2.out).mono ?_); rintro e w' ⟨rfl, ⟨nd, rfl⟩⟩; refine ⟨_, rfl, ?_⟩) | ((with_reducible refine gate_callee (f := 32) rfl ?_); refine goesL_ (some 20) rfl rfl Try.func32 (by kernel_rfl) rfl #[.int .i32 120, .int .i64 1, .int .i64 1] rfl (by (try simp only [List.map_toArray, List.map_cons, List.map_nil]); first | done | rfl | (simp only [List.length_drop, List.length_take]; rfl)) ?_; (with_reducible refine (word_Do.calls k 120 1 1 t121 t122 _ A3.out).mono ?_); rintro e w' ⟨rfl, ⟨nd, rfl⟩⟩; refine ⟨_, rfl, ?_⟩) | ((with_reducible refine gate_callee (f := 32) rfl ?_); refine goesL_ (some 24) rfl rfl Try.func32 (by kernel_rfl) rfl #[.int .i32 47, .int .i64 (-9223372036854775808), .int .i64 (-1)] rfl (by (try simp only [List.map_toArray, List.map_cons, List.map_nil]); first | done | rfl | (simp only [List.length_drop, List.length_take]; rfl)) ?_; (with_reducible refine (word_Do.calls k 47 (-9223372036854775808) (-1) t123 t124 _ A4.out).mono ?_); rintro e w' ⟨rfl, ⟨nd, rfl⟩⟩; refine ⟨_, rfl, ?_⟩) | ((with_reducible refine gate_callee (f := 32) rfl ?_); refine goesL_ (some 28) rfl rfl Try.func32 (by kernel_rfl) rfl #[.int .i32 37, .int .i64 (-9223372036854775808), .int .i64 (-1)] rfl (by (try simp only [List.map_toArray, List.map_cons, List.map_nil]); first | done | rfl | (simp only [List.length_drop, List.length_take]; rfl)) ?_; (with_reducible refine (word_Do.calls k 37 (-9223372036854775808) (-1) t125 t126 _ A5.out).mono ?_); rintro e w' ⟨rfl, ⟨nd, rfl⟩⟩; refine ⟨_, rfl, ?_⟩))
            go_ret
            exact ⟨by first | rfl | (simp; done) | (simp [*]; done), by repeat (first | exact Drawn0.refl _ | apply Drawn0.step)⟩
        · rw [if_neg c9] at H
          have c9b0 : (t122 == 2) = false := beq_eq_false_iff_ne.mpr c9
          have c9b1 : (t122 != 2) = true := bne_iff_ne.mpr c9
          obtain rfl := Option.some.inj H
          go_enter Try.func31, Try.ntmps31
          go_wp2_with (first | ((with_reducible refine gate_callee (f := 32) rfl ?_); refine goesL_ (some 12) rfl rfl Try.func32 (by kernel_rfl) rfl #[.int .i32 47, .int .i64 1, .int .i64 0] rfl (by (try simp only [List.map_toArray, List.map_cons, List.map_nil]); first | done | rfl | (simp only [List.length_drop, List.length_take]; rfl)) ?_; (with_reducible refine (word_Do.calls k 47 1 0 t117 t118 _ A1.out).mono ?_); rintro e w' ⟨rfl, ⟨nd, rfl⟩⟩; refine ⟨_, rfl, ?_⟩) | ((with_reducible refine gate_callee (f := 32) rfl ?_); refine goesL_ (some 16) rfl rfl Try.func32 (by kernel_rfl) rfl #[.int .i32 187, .int .i64 (-1), .int .i64 9] rfl (by (try simp only [List.map_toArray, List.map_cons, List.map_nil]); first | done | rfl | (simp only [List.length_drop, List.length_take]; rfl)) ?_; (with_reducible refine (word_Do.calls k 187 (-1) 9 t119 t120 _ A2.out).mono ?_); rintro e w' ⟨rfl, ⟨nd, rfl⟩⟩; refine ⟨_, rfl, ?_⟩) | ((with_reducible refine gate_callee (f := 32) rfl ?_); refine goesL_ (some 20) rfl rfl Try.func32 (by kernel_rfl) rfl #[.int .i32 120, .int .i64 1, .int .i64 1] rfl (by (try simp only [List.map_toArray, List.map_cons, List.map_nil]); first | done | rfl | (simp only [List.length_drop, List.length_take]; rfl)) ?_; (with_reducible refine (word_Do.calls k 120 1 1 t121 t122 _ A3.out).mono ?_); rintro e w' ⟨rfl, ⟨nd, rfl⟩⟩; refine ⟨_, rfl, ?_⟩) | ((with_reducible refine gate_callee (f := 32) rfl ?_); refine goesL_ (some 24) rfl rfl Try.func32 (by kernel_rfl) rfl #[.int .i32 47, .int .i64 (-9223372036854775808), .int .i64 (-1)] rfl (by (try simp only [List.map_toArray, List.map_cons, List.map_nil]); first | done | rfl | (simp only [List.length_drop, List.length_take]; rfl)) ?_; (with_reducible refine (word_Do.calls k 47 (-9223372036854775808) (-1) t123 t124 _ A4.out).mono ?_); rintro e w' ⟨rfl, ⟨nd, rfl⟩⟩; refine ⟨_, rfl, ?_⟩) | ((with_reducible refine gate_callee (f := 32) rfl ?_); refine goesL_ (some 28) rfl rfl Try.func32 (by kernel_rfl) rfl #[.int .i32 37, .int .i64 (-9223372036854775808), .int .i64 (-1)] rfl (by (try simp only [List.map_toArray, List.map_cons, List.map_nil]); first | done | rfl | (simp only [List.length_drop, List.length_take]; rfl)) ?_; (with_reducible refine (word_Do.calls k 37 (-9223372036854775808) (-1) t125 t126 _ A5.out).mono ?_); rintro e w' ⟨rfl, ⟨nd, rfl⟩⟩; refine ⟨_, rfl, ?_⟩))
          go_ret
          exact ⟨by first | rfl | (simp; done) | (simp [*]; done), by repeat (first | exact Drawn0.refl _ | apply Drawn0.step)⟩
      · rw [if_neg c8] at H
        have c8b0 : (t120 == 0) = false := beq_eq_false_iff_ne.mpr c8
        have c8b1 : (t120 != 0) = true := bne_iff_ne.mpr c8
        obtain rfl := Option.some.inj H
        go_enter Try.func31, Try.ntmps31
        go_wp2_with (first | ((with_reducible refine gate_callee (f := 32) rfl ?_); refine goesL_ (some 12) rfl rfl Try.func32 (by kernel_rfl) rfl #[.int .i32 47, .int .i64 1, .int .i64 0] rfl (by (try simp only [List.map_toArray, List.map_cons, List.map_nil]); first | done | rfl | (simp only [List.length_drop, List.length_take]; rfl)) ?_; (with_reducible refine (word_Do.calls k 47 1 0 t117 t118 _ A1.out).mono ?_); rintro e w' ⟨rfl, ⟨nd, rfl⟩⟩; refine ⟨_, rfl, ?_⟩) | ((with_reducible refine gate_callee (f := 32) rfl ?_); refine goesL_ (some 16) rfl rfl Try.func32 (by kernel_rfl) rfl #[.int .i32 187, .int .i64 (-1), .int .i64 9] rfl (by (try simp only [List.map_toArray, List.map_cons, List.map_nil]); first | done | rfl | (simp only [List.length_drop, List.length_take]; rfl)) ?_; (with_reducible refine (word_Do.calls k 187 (-1) 9 t119 t120 _ A2.out).mono ?_); rintro e w' ⟨rfl, ⟨nd, rfl⟩⟩; refine ⟨_, rfl, ?_⟩) | ((with_reducible refine gate_callee (f := 32) rfl ?_); refine goesL_ (some 20) rfl rfl Try.func32 (by kernel_rfl) rfl #[.int .i32 120, .int .i64 1, .int .i64 1] rfl (by (try simp only [List.map_toArray, List.map_cons, List.map_nil]); first | done | rfl | (simp only [List.length_drop, List.length_take]; rfl)) ?_; (with_reducible refine (word_Do.calls k 120 1 1 t121 t122 _ A3.out).mono ?_); rintro e w' ⟨rfl, ⟨nd, rfl⟩⟩; refine ⟨_, rfl, ?_⟩) | ((with_reducible refine gate_callee (f := 32) rfl ?_); refine goesL_ (some 24) rfl rfl Try.func32 (by kernel_rfl) rfl #[.int .i32 47, .int .i64 (-9223372036854775808), .int .i64 (-1)] rfl (by (try simp only [List.map_toArray, List.map_cons, List.map_nil]); first | done | rfl | (simp only [List.length_drop, List.length_take]; rfl)) ?_; (with_reducible refine (word_Do.calls k 47 (-9223372036854775808) (-1) t123 t124 _ A4.out).mono ?_); rintro e w' ⟨rfl, ⟨nd, rfl⟩⟩; refine ⟨_, rfl, ?_⟩) | ((with_reducible refine gate_callee (f := 32) rfl ?_); refine goesL_ (some 28) rfl rfl Try.func32 (by kernel_rfl) rfl #[.int .i32 37, .int .i64 (-9223372036854775808), .int .i64 (-1)] rfl (by (try simp only [List.map_toArray, List.map_cons, List.map_nil]); first | done | rfl | (simp only [List.length_drop, List.length_take]; rfl)) ?_; (with_reducible refine (word_Do.calls k 37 (-9223372036854775808) (-1) t125 t126 _ A5.out).mono ?_); rintro e w' ⟨rfl, ⟨nd, rfl⟩⟩; refine ⟨_, rfl, ?_⟩))
        go_ret
        exact ⟨by first | rfl | (simp; done) | (simp [*]; done), by repeat (first | exact Drawn0.refl _ | apply Drawn0.step)⟩
    · rw [if_neg c7] at H
      have c7b0 : (t119 == (-1)) = false := beq_eq_false_iff_ne.mpr c7
      have c7b1 : (t119 != (-1)) = true := bne_iff_ne.mpr c7
      obtain rfl := Option.some.inj H
      go_enter Try.func31, Try.ntmps31
      go_wp2_with (first | ((with_reducible refine gate_callee (f := 32) rfl ?_); refine goesL_ (some 12) rfl rfl Try.func32 (by kernel_rfl) rfl #[.int .i32 47, .int .i64 1, .int .i64 0] rfl (by (try simp only [List.map_toArray, List.map_cons, List.map_nil]); first | done | rfl | (simp only [List.length_drop, List.length_take]; rfl)) ?_; (with_reducible refine (word_Do.calls k 47 1 0 t117 t118 _ A1.out).mono ?_); rintro e w' ⟨rfl, ⟨nd, rfl⟩⟩; refine ⟨_, rfl, ?_⟩) | ((with_reducible refine gate_callee (f := 32) rfl ?_); refine goesL_ (some 16) rfl rfl Try.func32 (by kernel_rfl) rfl #[.int .i32 187, .int .i64 (-1), .int .i64 9] rfl (by (try simp only [List.map_toArray, List.map_cons, List.map_nil]); first | done | rfl | (simp only [List.length_drop, List.length_take]; rfl)) ?_; (with_reducible refine (word_Do.calls k 187 (-1) 9 t119 t120 _ A2.out).mono ?_); rintro e w' ⟨rfl, ⟨nd, rfl⟩⟩; refine ⟨_, rfl, ?_⟩) | ((with_reducible refine gate_callee (f := 32) rfl ?_); refine goesL_ (some 20) rfl rfl Try.func32 (by kernel_rfl) rfl #[.int .i32 120, .int .i64 1, .int .i64 1] rfl (by (try simp only [List.map_toArray, List.map_cons, List.map_nil]); first | done | rfl | (simp only [List.length_drop, List.length_take]; rfl)) ?_; (with_reducible refine (word_Do.calls k 120 1 1 t121 t122 _ A3.out).mono ?_); rintro e w' ⟨rfl, ⟨nd, rfl⟩⟩; refine ⟨_, rfl, ?_⟩) | ((with_reducible refine gate_callee (f := 32) rfl ?_); refine goesL_ (some 24) rfl rfl Try.func32 (by kernel_rfl) rfl #[.int .i32 47, .int .i64 (-9223372036854775808), .int .i64 (-1)] rfl (by (try simp only [List.map_toArray, List.map_cons, List.map_nil]); first | done | rfl | (simp only [List.length_drop, List.length_take]; rfl)) ?_; (with_reducible refine (word_Do.calls k 47 (-9223372036854775808) (-1) t123 t124 _ A4.out).mono ?_); rintro e w' ⟨rfl, ⟨nd, rfl⟩⟩; refine ⟨_, rfl, ?_⟩) | ((with_reducible refine gate_callee (f := 32) rfl ?_); refine goesL_ (some 28) rfl rfl Try.func32 (by kernel_rfl) rfl #[.int .i32 37, .int .i64 (-9223372036854775808), .int .i64 (-1)] rfl (by (try simp only [List.map_toArray, List.map_cons, List.map_nil]); first | done | rfl | (simp only [List.length_drop, List.length_take]; rfl)) ?_; (with_reducible refine (word_Do.calls k 37 (-9223372036854775808) (-1) t125 t126 _ A5.out).mono ?_); rintro e w' ⟨rfl, ⟨nd, rfl⟩⟩; refine ⟨_, rfl, ?_⟩))
      go_ret
      exact ⟨by first | rfl | (simp; done) | (simp [*]; done), by repeat (first | exact Drawn0.refl _ | apply Drawn0.step)⟩
  · rw [if_neg c6] at H
    have c6b0 : (t118 == 3) = false := beq_eq_false_iff_ne.mpr c6
    have c6b1 : (t118 != 3) = true := bne_iff_ne.mpr c6
    obtain rfl := Option.some.inj H
    go_enter Try.func31, Try.ntmps31
    go_wp2_with (first | ((with_reducible refine gate_callee (f := 32) rfl ?_); refine goesL_ (some 12) rfl rfl Try.func32 (by kernel_rfl) rfl #[.int .i32 47, .int .i64 1, .int .i64 0] rfl (by (try simp only [List.map_toArray, List.map_cons, List.map_nil]); first | done | rfl | (simp only [List.length_drop, List.length_take]; rfl)) ?_; (with_reducible refine (word_Do.calls k 47 1 0 t117 t118 _ A1.out).mono ?_); rintro e w' ⟨rfl, ⟨nd, rfl⟩⟩; refine ⟨_, rfl, ?_⟩) | ((with_reducible refine gate_callee (f := 32) rfl ?_); refine goesL_ (some 16) rfl rfl Try.func32 (by kernel_rfl) rfl #[.int .i32 187, .int .i64 (-1), .int .i64 9] rfl (by (try simp only [List.map_toArray, List.map_cons, List.map_nil]); first | done | rfl | (simp only [List.length_drop, List.length_take]; rfl)) ?_; (with_reducible refine (word_Do.calls k 187 (-1) 9 t119 t120 _ A2.out).mono ?_); rintro e w' ⟨rfl, ⟨nd, rfl⟩⟩; refine ⟨_, rfl, ?_⟩) | ((with_reducible refine gate_callee (f := 32) rfl ?_); refine goesL_ (some 20) rfl rfl Try.func32 (by kernel_rfl) rfl #[.int .i32 120, .int .i64 1, .int .i64 1] rfl (by (try simp only [List.map_toArray, List.map_cons, List.map_nil]); first | done | rfl | (simp only [List.length_drop, List.length_take]; rfl)) ?_; (with_reducible refine (word_Do.calls k 120 1 1 t121 t122 _ A3.out).mono ?_); rintro e w' ⟨rfl, ⟨nd, rfl⟩⟩; refine ⟨_, rfl, ?_⟩) | ((with_reducible refine gate_callee (f := 32) rfl ?_); refine goesL_ (some 24) rfl rfl Try.func32 (by kernel_rfl) rfl #[.int .i32 47, .int .i64 (-9223372036854775808), .int .i64 (-1)] rfl (by (try simp only [List.map_toArray, List.map_cons, List.map_nil]); first | done | rfl | (simp only [List.length_drop, List.length_take]; rfl)) ?_; (with_reducible refine (word_Do.calls k 47 (-9223372036854775808) (-1) t123 t124 _ A4.out).mono ?_); rintro e w' ⟨rfl, ⟨nd, rfl⟩⟩; refine ⟨_, rfl, ?_⟩) | ((with_reducible refine gate_callee (f := 32) rfl ?_); refine goesL_ (some 28) rfl rfl Try.func32 (by kernel_rfl) rfl #[.int .i32 37, .int .i64 (-9223372036854775808), .int .i64 (-1)] rfl (by (try simp only [List.map_toArray, List.map_cons, List.map_nil]); first | done | rfl | (simp only [List.length_drop, List.length_take]; rfl)) ?_; (with_reducible refine (word_Do.calls k 37 (-9223372036854775808) (-1) t125 t126 _ A5.out).mono ?_); rintro e w' ⟨rfl, ⟨nd, rfl⟩⟩; refine ⟨_, rfl, ?_⟩))
    go_ret
    exact ⟨by first | rfl | (simp; done) | (simp [*]; done), by repeat (first | exact Drawn0.refl _ | apply Drawn0.step)⟩

end Go.Proofs.Ytfigfdggieenbaa.PWordNumbers
