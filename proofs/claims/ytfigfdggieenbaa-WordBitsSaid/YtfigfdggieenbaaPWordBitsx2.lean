-- PRINTED BY print.sh 35421559b90ae4d0a3588c463048766b98c2df88dd9212a6774a882060cdf62d: not written by this session
import Derived.Test.YtfigfdggieenbaaPWordBitsx0
import Derived.Test.YtfigfdggieenbaaPWordBitsx1
namespace Go.Proofs.Ytfigfdggieenbaa.PWordBits
open Go.RowKit Go.Proofs.YtfigfdggieenbaaW.PrintWords Go.Proofs.YtfigfdggieenbaaW.PrintLast Go.Proofs.YtfigfdggieenbaaW.PrintMore
attribute [local go_sem] max2_int min2_int max_two min_two max_three min_three max_four min_four   -- for this text's walks alone
set_option linter.unusedVariables false
set_option linter.unusedSimpArgs false

/-! ### engramlaw10_WordBits: function 14 -/
def engramlaw10_WordBits.l0 : Nat → Int → Int → Int → Int → Int → Int → Int → Int → Int → Int → Option (Bool)
  | 0, _, _, _, _, _, _, _, _, _, _ => none
  | k + 1, x0, x1, x5, x7, x9, x11, x13, x15, x17, x19 => if x19 < 64 then (if 0 ≤ x19 then (if (Go.bits .and .u64 (shr .u64 (IntKind.u64.wrap (x5)) x19) 1) = (IntKind.u64.wrap ((Go.bits .and .u64 (shr .u64 (IntKind.u64.wrap (x0)) x19) 1) * (Go.bits .and .u64 (shr .u64 (IntKind.u64.wrap (x1)) x19) 1))) then (if (Go.bits .and .u64 (shr .u64 (IntKind.u64.wrap (x7)) x19) 1) = (mx (Go.bits .and .u64 (shr .u64 (IntKind.u64.wrap (x0)) x19) 1) (Go.bits .and .u64 (shr .u64 (IntKind.u64.wrap (x1)) x19) 1)) then (if (Go.bits .and .u64 (shr .u64 (IntKind.u64.wrap (x9)) x19) 1) = (Go.bits .xor .u64 (Go.bits .and .u64 (shr .u64 (IntKind.u64.wrap (x0)) x19) 1) (Go.bits .and .u64 (shr .u64 (IntKind.u64.wrap (x1)) x19) 1)) then (engramlaw10_WordBits.l0 k x0 x1 x5 x7 x9 x11 x13 x15 x17 (IntKind.u64.wrap (x19 + 1))) else (some false)) else (some false)) else (some false)) else (none)) else (if x11 = x13 then (if x15 = x17 then (if (wrap64 (x5 + x7)) = (wrap64 (x0 + x1)) then ((word_Byte.f x0).bind fun t131 => (if t131 = (Go.bits .and .i64 x0 255) then ((engramlaw10_known.f k).bind fun t132 => (some t132)) else (some false))) else (some false)) else (some false)) else (some false))
def engramlaw10_WordBits.f (k : Nat) (a0 : Int) (a1 : Int) : Option (Bool) := (word_Do.f k 38 a0 a1).bind fun bt117 => ((word_Do.f k 124 a0 a1).bind fun bt119 => ((word_Do.f k 94 a0 a1).bind fun bt121 => ((word_Do.f k 171 a0 a1).bind fun bt123 => ((word_Do.f k 171 a0 (Go.bits .and .i64 a1 63)).bind fun bt125 => ((word_Do.f k 187 a0 a1).bind fun bt127 => ((word_Do.f k 187 a0 (wrap64 (a1 + 64))).bind fun bt129 => (engramlaw10_WordBits.l0 k a0 a1 bt117.1 bt119.1 bt121.1 bt123.1 bt125.1 bt127.1 bt129.1 0)))))))
theorem engramlaw10_WordBits.mono_l : ∀ k, (∀ y0 y1 y2 y3 y4 y5 y6 y7 y8 y9, LeO (engramlaw10_WordBits.l0 k y0 y1 y2 y3 y4 y5 y6 y7 y8 y9) (engramlaw10_WordBits.l0 (k + 1) y0 y1 y2 y3 y4 y5 y6 y7 y8 y9))
  | 0 => fun _ _ _ _ _ _ _ _ _ _ r h => by simp [engramlaw10_WordBits.l0] at h
  | k + 1 => by
    have ih0 := engramlaw10_WordBits.mono_l k
    · intro y0 y1 y2 y3 y4 y5 y6 y7 y8 y9
      unfold engramlaw10_WordBits.l0
      repeat' first
      | (with_reducible exact ih0 _ _ _ _ _ _ _ _ _ _)
      | (with_reducible exact engramlaw10_known.mono _)
      | (with_reducible exact word_Do.mono _ _ _ _)
      | (with_reducible exact LeO.refl _)
      | (with_reducible exact LeO.none _)
      | (with_reducible refine LeO.ite ?_ ?_)
      | (with_reducible refine LeO.bind ?_ (fun _ => ?_))
      | exact ih0 _ _ _ _ _ _ _ _ _ _
      | exact engramlaw10_known.mono _
      | exact word_Do.mono _ _ _ _
      | exact LeO.none _
      | refine LeO.ite ?_ ?_
      | refine LeO.bind ?_ (fun _ => ?_)
theorem engramlaw10_WordBits.mono : ∀ a0 a1 k, LeO (engramlaw10_WordBits.f k a0 a1) (engramlaw10_WordBits.f (k + 1) a0 a1) := by
  intro a0 a1 k
  have ih0 := engramlaw10_WordBits.mono_l k
  unfold engramlaw10_WordBits.f
  repeat' first
      | (with_reducible exact ih0 _ _ _ _ _ _ _ _ _ _)
      | (with_reducible exact engramlaw10_known.mono _)
      | (with_reducible exact word_Do.mono _ _ _ _)
      | (with_reducible exact LeO.refl _)
      | (with_reducible exact LeO.none _)
      | (with_reducible refine LeO.ite ?_ ?_)
      | (with_reducible refine LeO.bind ?_ (fun _ => ?_))
      | exact ih0 _ _ _ _ _ _ _ _ _ _
      | exact engramlaw10_known.mono _
      | exact word_Do.mono _ _ _ _
      | exact LeO.none _
      | refine LeO.ite ?_ ?_
      | refine LeO.bind ?_ (fun _ => ?_)
set_option maxHeartbeats 8000000 in
set_option maxRecDepth 100000 in
theorem engramlaw10_WordBits.calls (k : Nat) (a0 : Int) (a1 : Int) (r : Bool) (w : World) (h : engramlaw10_WordBits.f k a0 a1 = some r) :
    Calls Try.prog 14 #[.int .i64 a0, .int .i64 a1] w fun e w' => e = .returned (.bool r) ∧ Below w.heap.size w w' := by
  have HB := Aside0.mk (Below.refl w.heap.size w)
  have H : ((word_Do.f k 38 a0 a1).bind fun bt117 => ((word_Do.f k 124 a0 a1).bind fun bt119 => ((word_Do.f k 94 a0 a1).bind fun bt121 => ((word_Do.f k 171 a0 a1).bind fun bt123 => ((word_Do.f k 171 a0 (Go.bits .and .i64 a1 63)).bind fun bt125 => ((word_Do.f k 187 a0 a1).bind fun bt127 => ((word_Do.f k 187 a0 (wrap64 (a1 + 64))).bind fun bt129 => (engramlaw10_WordBits.l0 k a0 a1 bt117.1 bt119.1 bt121.1 bt123.1 bt125.1 bt127.1 bt129.1 0)))))))) = some r := h
  clear h
  replace H := Option.bind_eq_some_iff.mp H
  obtain ⟨⟨t117, t118⟩, A30, H⟩ := H
  replace H : ((word_Do.f k 124 a0 a1).bind fun bt119 => ((word_Do.f k 94 a0 a1).bind fun bt121 => ((word_Do.f k 171 a0 a1).bind fun bt123 => ((word_Do.f k 171 a0 (Go.bits .and .i64 a1 63)).bind fun bt125 => ((word_Do.f k 187 a0 a1).bind fun bt127 => ((word_Do.f k 187 a0 (wrap64 (a1 + 64))).bind fun bt129 => (engramlaw10_WordBits.l0 k a0 a1 t117 bt119.1 bt121.1 bt123.1 bt125.1 bt127.1 bt129.1 0))))))) = some r := H
  have A3 := Aside0.mk A30
  clear A30
  replace H := Option.bind_eq_some_iff.mp H
  obtain ⟨⟨t119, t120⟩, A40, H⟩ := H
  replace H : ((word_Do.f k 94 a0 a1).bind fun bt121 => ((word_Do.f k 171 a0 a1).bind fun bt123 => ((word_Do.f k 171 a0 (Go.bits .and .i64 a1 63)).bind fun bt125 => ((word_Do.f k 187 a0 a1).bind fun bt127 => ((word_Do.f k 187 a0 (wrap64 (a1 + 64))).bind fun bt129 => (engramlaw10_WordBits.l0 k a0 a1 t117 t119 bt121.1 bt123.1 bt125.1 bt127.1 bt129.1 0)))))) = some r := H
  have A4 := Aside0.mk A40
  clear A40
  replace H := Option.bind_eq_some_iff.mp H
  obtain ⟨⟨t121, t122⟩, A50, H⟩ := H
  replace H : ((word_Do.f k 171 a0 a1).bind fun bt123 => ((word_Do.f k 171 a0 (Go.bits .and .i64 a1 63)).bind fun bt125 => ((word_Do.f k 187 a0 a1).bind fun bt127 => ((word_Do.f k 187 a0 (wrap64 (a1 + 64))).bind fun bt129 => (engramlaw10_WordBits.l0 k a0 a1 t117 t119 t121 bt123.1 bt125.1 bt127.1 bt129.1 0))))) = some r := H
  have A5 := Aside0.mk A50
  clear A50
  replace H := Option.bind_eq_some_iff.mp H
  obtain ⟨⟨t123, t124⟩, A60, H⟩ := H
  replace H : ((word_Do.f k 171 a0 (Go.bits .and .i64 a1 63)).bind fun bt125 => ((word_Do.f k 187 a0 a1).bind fun bt127 => ((word_Do.f k 187 a0 (wrap64 (a1 + 64))).bind fun bt129 => (engramlaw10_WordBits.l0 k a0 a1 t117 t119 t121 t123 bt125.1 bt127.1 bt129.1 0)))) = some r := H
  have A6 := Aside0.mk A60
  clear A60
  replace H := Option.bind_eq_some_iff.mp H
  obtain ⟨⟨t125, t126⟩, A70, H⟩ := H
  replace H : ((word_Do.f k 187 a0 a1).bind fun bt127 => ((word_Do.f k 187 a0 (wrap64 (a1 + 64))).bind fun bt129 => (engramlaw10_WordBits.l0 k a0 a1 t117 t119 t121 t123 t125 bt127.1 bt129.1 0))) = some r := H
  have A7 := Aside0.mk A70
  clear A70
  replace H := Option.bind_eq_some_iff.mp H
  obtain ⟨⟨t127, t128⟩, A80, H⟩ := H
  replace H : ((word_Do.f k 187 a0 (wrap64 (a1 + 64))).bind fun bt129 => (engramlaw10_WordBits.l0 k a0 a1 t117 t119 t121 t123 t125 t127 bt129.1 0)) = some r := H
  have A8 := Aside0.mk A80
  clear A80
  replace H := Option.bind_eq_some_iff.mp H
  obtain ⟨⟨t129, t130⟩, A90, H⟩ := H
  replace H : (engramlaw10_WordBits.l0 k a0 a1 t117 t119 t121 t123 t125 t127 t129 0) = some r := H
  have A9 := Aside0.mk A90
  clear A90
  have H' := Aside0.mk H
  clear H
  go_enter Try.func14, Try.ntmps14
  go_wp2_with (first | ((with_reducible refine gate_callee (f := 32) rfl ?_); refine goesL_ (some 25) rfl rfl Try.func32 (by kernel_rfl) rfl #[.int .i32 38, .int .i64 a0, .int .i64 a1] rfl (by (try simp only [List.map_toArray, List.map_cons, List.map_nil]); first | done | rfl | (simp only [List.length_drop, List.length_take]; rfl)) ?_; (with_reducible refine (word_Do.calls k 38 a0 a1 t117 t118 _ A3.out).mono ?_); rintro e w' ⟨rfl, ⟨nd, rfl⟩⟩; refine ⟨_, rfl, ?_⟩) | ((with_reducible refine gate_callee (f := 32) rfl ?_); refine goesL_ (some 31) rfl rfl Try.func32 (by kernel_rfl) rfl #[.int .i32 124, .int .i64 a0, .int .i64 a1] rfl (by (try simp only [List.map_toArray, List.map_cons, List.map_nil]); first | done | rfl | (simp only [List.length_drop, List.length_take]; rfl)) ?_; (with_reducible refine (word_Do.calls k 124 a0 a1 t119 t120 _ A4.out).mono ?_); rintro e w' ⟨rfl, ⟨nd, rfl⟩⟩; refine ⟨_, rfl, ?_⟩) | ((with_reducible refine gate_callee (f := 32) rfl ?_); refine goesL_ (some 37) rfl rfl Try.func32 (by kernel_rfl) rfl #[.int .i32 94, .int .i64 a0, .int .i64 a1] rfl (by (try simp only [List.map_toArray, List.map_cons, List.map_nil]); first | done | rfl | (simp only [List.length_drop, List.length_take]; rfl)) ?_; (with_reducible refine (word_Do.calls k 94 a0 a1 t121 t122 _ A5.out).mono ?_); rintro e w' ⟨rfl, ⟨nd, rfl⟩⟩; refine ⟨_, rfl, ?_⟩) | ((with_reducible refine gate_callee (f := 32) rfl ?_); refine goesL_ (some 43) rfl rfl Try.func32 (by kernel_rfl) rfl #[.int .i32 171, .int .i64 a0, .int .i64 a1] rfl (by (try simp only [List.map_toArray, List.map_cons, List.map_nil]); first | done | rfl | (simp only [List.length_drop, List.length_take]; rfl)) ?_; (with_reducible refine (word_Do.calls k 171 a0 a1 t123 t124 _ A6.out).mono ?_); rintro e w' ⟨rfl, ⟨nd, rfl⟩⟩; refine ⟨_, rfl, ?_⟩) | ((with_reducible refine gate_callee (f := 32) rfl ?_); refine goesL_ (some 50) rfl rfl Try.func32 (by kernel_rfl) rfl #[.int .i32 171, .int .i64 a0, .int .i64 (Go.bits .and .i64 a1 63)] rfl (by (try simp only [List.map_toArray, List.map_cons, List.map_nil]); first | done | rfl | (simp only [List.length_drop, List.length_take]; rfl)) ?_; (with_reducible refine (word_Do.calls k 171 a0 (Go.bits .and .i64 a1 63) t125 t126 _ A7.out).mono ?_); rintro e w' ⟨rfl, ⟨nd, rfl⟩⟩; refine ⟨_, rfl, ?_⟩) | ((with_reducible refine gate_callee (f := 32) rfl ?_); refine goesL_ (some 56) rfl rfl Try.func32 (by kernel_rfl) rfl #[.int .i32 187, .int .i64 a0, .int .i64 a1] rfl (by (try simp only [List.map_toArray, List.map_cons, List.map_nil]); first | done | rfl | (simp only [List.length_drop, List.length_take]; rfl)) ?_; (with_reducible refine (word_Do.calls k 187 a0 a1 t127 t128 _ A8.out).mono ?_); rintro e w' ⟨rfl, ⟨nd, rfl⟩⟩; refine ⟨_, rfl, ?_⟩) | ((with_reducible refine gate_callee (f := 32) rfl ?_); refine goesL_ (some 63) rfl rfl Try.func32 (by kernel_rfl) rfl #[.int .i32 187, .int .i64 a0, .int .i64 (wrap64 (a1 + 64))] rfl (by (try simp only [List.map_toArray, List.map_cons, List.map_nil]); first | done | rfl | (simp only [List.length_drop, List.length_take]; rfl)) ?_; (with_reducible refine (word_Do.calls k 187 a0 (wrap64 (a1 + 64)) t129 t130 _ A9.out).mono ?_); rintro e w' ⟨rfl, ⟨nd, rfl⟩⟩; refine ⟨_, rfl, ?_⟩))
  go_loopg [19] k (fun kq v19 w' => ∃ (x19_1 : Int), v19 = .int .u64 x19_1 ∧ Aside0 (engramlaw10_WordBits.l0 kq a0 a1 t117 t119 t121 t123 t125 t127 t129 x19_1 = some r) ∧ Aside0 (kq ≤ k) ∧ Aside0 (Below w.heap.size w w'))
  case atStart => exact ⟨(0), (by first | rfl | (simp; done) | (simp [*]; done)), H', ⟨Nat.le_refl _⟩, ⟨by repeat (first | (with_reducible first | exact HB.out | apply below_alloc | apply pw_below_drewN | apply below_drew1) | exact HB.out)⟩⟩
  case round =>
    clear H'
    try clear c1
    try clear p2
    try clear c3
    try clear p6
    obtain ⟨x19_1, rfl, HA, HK1, HB⟩ := hrel
    cases gk with
    | zero => exact absurd HA.out (by simp [engramlaw10_WordBits.l0])
    | succ k1 =>
      have H := HA.out
      clear HA
      simp only [engramlaw10_WordBits.l0] at H
      by_cases c10 : x19_1 < 64
      · rw [if_pos c10] at H
        have c10b0 : decide (x19_1 < 64) = true := decide_eq_true c10
        clear c10
        by_cases c11 : 0 ≤ x19_1
        · rw [if_pos c11] at H
          have c11b0 := eq_true c11
          have c11b1 : decide (0 ≤ x19_1) = true := decide_eq_true c11
          clear c11
          obtain ⟨ji12, hji12⟩ : ∃ j_ : Int, (shr .u64 (IntKind.u64.wrap (a0)) x19_1) = j_ := ⟨_, rfl⟩
          replace H : (if (Go.bits .and .u64 (shr .u64 (IntKind.u64.wrap (t117)) x19_1) 1) = (IntKind.u64.wrap ((Go.bits .and .u64 (ji12) 1) * (Go.bits .and .u64 (shr .u64 (IntKind.u64.wrap (a1)) x19_1) 1))) then (if (Go.bits .and .u64 (shr .u64 (IntKind.u64.wrap (t119)) x19_1) 1) = (mx (Go.bits .and .u64 (ji12) 1) (Go.bits .and .u64 (shr .u64 (IntKind.u64.wrap (a1)) x19_1) 1)) then (if (Go.bits .and .u64 (shr .u64 (IntKind.u64.wrap (t121)) x19_1) 1) = (Go.bits .xor .u64 (Go.bits .and .u64 (ji12) 1) (Go.bits .and .u64 (shr .u64 (IntKind.u64.wrap (a1)) x19_1) 1)) then (engramlaw10_WordBits.l0 k1 a0 a1 t117 t119 t121 t123 t125 t127 t129 (IntKind.u64.wrap (x19_1 + 1))) else (some false)) else (some false)) else (some false)) = some r := by first | (rw [hji12] at H; exact H) | (simp only [hji12] at H ⊢; exact H)
          have hji12_ : ((IntKind.u64.wrap (a0)) / 2 ^ min x19_1.toNat 64) = ji12 := hji12
          have hji12z : x19_1 ≤ 64 → ((IntKind.u64.wrap (a0)) / 2 ^ x19_1.toNat) = ji12 := shr_small hji12
          have c13b0 := eq_true (of_decide_eq_true (by first | (with_reducible assumption) | assumption) : 0 ≤ x19_1)
          obtain ⟨ji14, hji14⟩ : ∃ j_ : Int, (shr .u64 (IntKind.u64.wrap (a1)) x19_1) = j_ := ⟨_, rfl⟩
          replace H : (if (Go.bits .and .u64 (shr .u64 (IntKind.u64.wrap (t117)) x19_1) 1) = (IntKind.u64.wrap ((Go.bits .and .u64 (ji12) 1) * (Go.bits .and .u64 (ji14) 1))) then (if (Go.bits .and .u64 (shr .u64 (IntKind.u64.wrap (t119)) x19_1) 1) = (mx (Go.bits .and .u64 (ji12) 1) (Go.bits .and .u64 (ji14) 1)) then (if (Go.bits .and .u64 (shr .u64 (IntKind.u64.wrap (t121)) x19_1) 1) = (Go.bits .xor .u64 (Go.bits .and .u64 (ji12) 1) (Go.bits .and .u64 (ji14) 1)) then (engramlaw10_WordBits.l0 k1 a0 a1 t117 t119 t121 t123 t125 t127 t129 (IntKind.u64.wrap (x19_1 + 1))) else (some false)) else (some false)) else (some false)) = some r := by first | (rw [hji14] at H; exact H) | (simp only [hji14] at H ⊢; exact H)
          have hji14_ : ((IntKind.u64.wrap (a1)) / 2 ^ min x19_1.toNat 64) = ji14 := hji14
          have hji14z : x19_1 ≤ 64 → ((IntKind.u64.wrap (a1)) / 2 ^ x19_1.toNat) = ji14 := shr_small hji14
          have c15b0 := eq_true (of_decide_eq_true (by first | (with_reducible assumption) | assumption) : 0 ≤ x19_1)
          obtain ⟨ji16, hji16⟩ : ∃ j_ : Int, (shr .u64 (IntKind.u64.wrap (t117)) x19_1) = j_ := ⟨_, rfl⟩
          replace H : (if (Go.bits .and .u64 (ji16) 1) = (IntKind.u64.wrap ((Go.bits .and .u64 (ji12) 1) * (Go.bits .and .u64 (ji14) 1))) then (if (Go.bits .and .u64 (shr .u64 (IntKind.u64.wrap (t119)) x19_1) 1) = (mx (Go.bits .and .u64 (ji12) 1) (Go.bits .and .u64 (ji14) 1)) then (if (Go.bits .and .u64 (shr .u64 (IntKind.u64.wrap (t121)) x19_1) 1) = (Go.bits .xor .u64 (Go.bits .and .u64 (ji12) 1) (Go.bits .and .u64 (ji14) 1)) then (engramlaw10_WordBits.l0 k1 a0 a1 t117 t119 t121 t123 t125 t127 t129 (IntKind.u64.wrap (x19_1 + 1))) else (some false)) else (some false)) else (some false)) = some r := by first | (rw [hji16] at H; exact H) | (simp only [hji16] at H ⊢; exact H)
          have hji16_ : ((IntKind.u64.wrap (t117)) / 2 ^ min x19_1.toNat 64) = ji16 := hji16
          have hji16z : x19_1 ≤ 64 → ((IntKind.u64.wrap (t117)) / 2 ^ x19_1.toNat) = ji16 := shr_small hji16
          by_cases c17 : (Go.bits .and .u64 (ji16) 1) = (IntKind.u64.wrap ((Go.bits .and .u64 (ji12) 1) * (Go.bits .and .u64 (ji14) 1)))
          · rw [if_pos c17] at H
            have c17b0 : ((Go.bits .and .u64 (ji16) 1) == (IntKind.u64.wrap ((Go.bits .and .u64 (ji12) 1) * (Go.bits .and .u64 (ji14) 1)))) = true := beq_iff_eq.mpr c17
            have c17b1 : ((Go.bits .and .u64 (ji16) 1) != (IntKind.u64.wrap ((Go.bits .and .u64 (ji12) 1) * (Go.bits .and .u64 (ji14) 1)))) = false := bne_eq_false_iff_eq.mpr c17
            clear c17
            have c18b0 := eq_true (of_decide_eq_true (by first | (with_reducible assumption) | assumption) : 0 ≤ x19_1)
            obtain ⟨ji19, hji19⟩ : ∃ j_ : Int, (shr .u64 (IntKind.u64.wrap (t119)) x19_1) = j_ := ⟨_, rfl⟩
            replace H : (if (Go.bits .and .u64 (ji19) 1) = (mx (Go.bits .and .u64 (ji12) 1) (Go.bits .and .u64 (ji14) 1)) then (if (Go.bits .and .u64 (shr .u64 (IntKind.u64.wrap (t121)) x19_1) 1) = (Go.bits .xor .u64 (Go.bits .and .u64 (ji12) 1) (Go.bits .and .u64 (ji14) 1)) then (engramlaw10_WordBits.l0 k1 a0 a1 t117 t119 t121 t123 t125 t127 t129 (IntKind.u64.wrap (x19_1 + 1))) else (some false)) else (some false)) = some r := by first | (rw [hji19] at H; exact H) | (simp only [hji19] at H ⊢; exact H)
            have hji19_ : ((IntKind.u64.wrap (t119)) / 2 ^ min x19_1.toNat 64) = ji19 := hji19
            have hji19z : x19_1 ≤ 64 → ((IntKind.u64.wrap (t119)) / 2 ^ x19_1.toNat) = ji19 := shr_small hji19
            obtain ⟨ji20, hji20⟩ : ∃ j_ : Int, (mx (Go.bits .and .u64 (ji12) 1) (Go.bits .and .u64 (ji14) 1)) = j_ := ⟨_, rfl⟩
            replace H : (if (Go.bits .and .u64 (ji19) 1) = (ji20) then (if (Go.bits .and .u64 (shr .u64 (IntKind.u64.wrap (t121)) x19_1) 1) = (Go.bits .xor .u64 (Go.bits .and .u64 (ji12) 1) (Go.bits .and .u64 (ji14) 1)) then (engramlaw10_WordBits.l0 k1 a0 a1 t117 t119 t121 t123 t125 t127 t129 (IntKind.u64.wrap (x19_1 + 1))) else (some false)) else (some false)) = some r := by first | (rw [hji20] at H; exact H) | (simp only [hji20] at H ⊢; exact H)
            have hji20_ : (if (Go.bits .and .u64 (ji12) 1) < (Go.bits .and .u64 (ji14) 1) then (Go.bits .and .u64 (ji14) 1) else (Go.bits .and .u64 (ji12) 1)) = ji20 := hji20
            by_cases c21 : (Go.bits .and .u64 (ji19) 1) = (ji20)
            · rw [if_pos c21] at H
              have c21b0 : ((Go.bits .and .u64 (ji19) 1) == (ji20)) = true := beq_iff_eq.mpr c21
              have c21b1 : ((Go.bits .and .u64 (ji19) 1) != (ji20)) = false := bne_eq_false_iff_eq.mpr c21
              clear c21
              have c22b0 := eq_true (of_decide_eq_true (by first | (with_reducible assumption) | assumption) : 0 ≤ x19_1)
              obtain ⟨ji23, hji23⟩ : ∃ j_ : Int, (shr .u64 (IntKind.u64.wrap (t121)) x19_1) = j_ := ⟨_, rfl⟩
              replace H : (if (Go.bits .and .u64 (ji23) 1) = (Go.bits .xor .u64 (Go.bits .and .u64 (ji12) 1) (Go.bits .and .u64 (ji14) 1)) then (engramlaw10_WordBits.l0 k1 a0 a1 t117 t119 t121 t123 t125 t127 t129 (IntKind.u64.wrap (x19_1 + 1))) else (some false)) = some r := by first | (rw [hji23] at H; exact H) | (simp only [hji23] at H ⊢; exact H)
              have hji23_ : ((IntKind.u64.wrap (t121)) / 2 ^ min x19_1.toNat 64) = ji23 := hji23
              have hji23z : x19_1 ≤ 64 → ((IntKind.u64.wrap (t121)) / 2 ^ x19_1.toNat) = ji23 := shr_small hji23
              by_cases c24 : (Go.bits .and .u64 (ji23) 1) = (Go.bits .xor .u64 (Go.bits .and .u64 (ji12) 1) (Go.bits .and .u64 (ji14) 1))
              · rw [if_pos c24] at H
                have c24b0 : ((Go.bits .and .u64 (ji23) 1) == (Go.bits .xor .u64 (Go.bits .and .u64 (ji12) 1) (Go.bits .and .u64 (ji14) 1))) = true := beq_iff_eq.mpr c24
                have c24b1 : ((Go.bits .and .u64 (ji23) 1) != (Go.bits .xor .u64 (Go.bits .and .u64 (ji12) 1) (Go.bits .and .u64 (ji14) 1))) = false := bne_eq_false_iff_eq.mpr c24
                clear c24
                have H' := Aside0.mk H
                clear H
                go_wp2
                go_roundg k1
                case measure => have := HK1.out; omega
                case rel => exact ⟨(IntKind.u64.wrap (x19_1 + 1)), (by first | rfl | (simp; done) | (simp [*]; done)), H', ⟨by have := HK1.out; omega⟩, ⟨by repeat (first | (with_reducible first | exact HB.out | apply below_alloc | apply pw_below_drewN | apply below_drew1) | exact HB.out)⟩⟩
              · rw [if_neg c24] at H
                have c24b0 : ((Go.bits .and .u64 (ji23) 1) == (Go.bits .xor .u64 (Go.bits .and .u64 (ji12) 1) (Go.bits .and .u64 (ji14) 1))) = false := beq_eq_false_iff_ne.mpr c24
                have c24b1 : ((Go.bits .and .u64 (ji23) 1) != (Go.bits .xor .u64 (Go.bits .and .u64 (ji12) 1) (Go.bits .and .u64 (ji14) 1))) = true := bne_iff_ne.mpr c24
                obtain rfl := Option.some.inj H
                go_wp2
                go_ret
                exact ⟨by first | rfl | (simp [errW_none, errW_some] <;> rfl) | (simp only [← hji12, ← hji14, ← hji16, ← hji19, ← hji20, ← hji23]; first | rfl | (simp [errW_none, errW_some] <;> rfl)) | (simp [*, errW_none, errW_some] <;> rfl), by repeat (first | (with_reducible first | exact HB.out | apply below_alloc | apply pw_below_drewN | apply below_drew1) | exact HB.out)⟩
            · rw [if_neg c21] at H
              have c21b0 : ((Go.bits .and .u64 (ji19) 1) == (ji20)) = false := beq_eq_false_iff_ne.mpr c21
              have c21b1 : ((Go.bits .and .u64 (ji19) 1) != (ji20)) = true := bne_iff_ne.mpr c21
              obtain rfl := Option.some.inj H
              go_wp2
              go_ret
              exact ⟨by first | rfl | (simp [errW_none, errW_some] <;> rfl) | (simp only [← hji12, ← hji14, ← hji16, ← hji19, ← hji20]; first | rfl | (simp [errW_none, errW_some] <;> rfl)) | (simp [*, errW_none, errW_some] <;> rfl), by repeat (first | (with_reducible first | exact HB.out | apply below_alloc | apply pw_below_drewN | apply below_drew1) | exact HB.out)⟩
          · rw [if_neg c17] at H
            have c17b0 : ((Go.bits .and .u64 (ji16) 1) == (IntKind.u64.wrap ((Go.bits .and .u64 (ji12) 1) * (Go.bits .and .u64 (ji14) 1)))) = false := beq_eq_false_iff_ne.mpr c17
            have c17b1 : ((Go.bits .and .u64 (ji16) 1) != (IntKind.u64.wrap ((Go.bits .and .u64 (ji12) 1) * (Go.bits .and .u64 (ji14) 1)))) = true := bne_iff_ne.mpr c17
            obtain rfl := Option.some.inj H
            go_wp2
            go_ret
            exact ⟨by first | rfl | (simp [errW_none, errW_some] <;> rfl) | (simp only [← hji12, ← hji14, ← hji16]; first | rfl | (simp [errW_none, errW_some] <;> rfl)) | (simp [*, errW_none, errW_some] <;> rfl), by repeat (first | (with_reducible first | exact HB.out | apply below_alloc | apply pw_below_drewN | apply below_drew1) | exact HB.out)⟩
        · rw [if_neg c11] at H
          exact absurd H (by simp)
      · rw [if_neg c10] at H
        have c10b0 : decide (x19_1 < 64) = false := decide_eq_false c10
        clear c10
        by_cases c25 : t123 = t125
        · rw [if_pos c25] at H
          have c25b0 : (t123 == t125) = true := beq_iff_eq.mpr c25
          have c25b1 : (t123 != t125) = false := bne_eq_false_iff_eq.mpr c25
          clear c25
          by_cases c26 : t127 = t129
          · rw [if_pos c26] at H
            have c26b0 : (t127 == t129) = true := beq_iff_eq.mpr c26
            have c26b1 : (t127 != t129) = false := bne_eq_false_iff_eq.mpr c26
            clear c26
            by_cases c27 : (wrap64 (t117 + t119)) = (wrap64 (a0 + a1))
            · rw [if_pos c27] at H
              have c27b0 : ((wrap64 (t117 + t119)) == (wrap64 (a0 + a1))) = true := beq_iff_eq.mpr c27
              have c27b1 : ((wrap64 (t117 + t119)) != (wrap64 (a0 + a1))) = false := bne_eq_false_iff_eq.mpr c27
              clear c27
              replace H := Option.bind_eq_some_iff.mp H
              obtain ⟨t131, A280, H⟩ := H
              replace H : (if t131 = (Go.bits .and .i64 a0 255) then ((engramlaw10_known.f k1).bind fun t132 => (some t132)) else (some false)) = some r := H
              have A28 := Aside0.mk A280
              clear A280
              by_cases c29 : t131 = (Go.bits .and .i64 a0 255)
              · rw [if_pos c29] at H
                have c29b0 : (t131 == (Go.bits .and .i64 a0 255)) = true := beq_iff_eq.mpr c29
                have c29b1 : (t131 != (Go.bits .and .i64 a0 255)) = false := bne_eq_false_iff_eq.mpr c29
                clear c29
                replace H := Option.bind_eq_some_iff.mp H
                obtain ⟨t132, A300, H⟩ := H
                replace H : (some t132) = some r := H
                have A30 := Aside0.mk A300
                clear A300
                obtain rfl := Option.some.inj H
                go_wp2_with (first | (go_at_call 33; (with_reducible refine (word_Byte.calls a0 t131 _ A28.out).mono ?_); rintro e w' ⟨rfl, ⟨nd, rfl⟩⟩) | (go_at_call 31; (with_reducible refine (engramlaw10_known.calls k1  t132 _ A30.out).mono ?_); rintro e w' ⟨rfl, ⟨nd, rfl⟩⟩))
                go_ret
                exact ⟨by first | rfl | (simp [errW_none, errW_some] <;> rfl) | (simp [*, errW_none, errW_some] <;> rfl), by repeat (first | (with_reducible first | exact HB.out | apply below_alloc | apply pw_below_drewN | apply below_drew1) | exact HB.out)⟩
              · rw [if_neg c29] at H
                have c29b0 : (t131 == (Go.bits .and .i64 a0 255)) = false := beq_eq_false_iff_ne.mpr c29
                have c29b1 : (t131 != (Go.bits .and .i64 a0 255)) = true := bne_iff_ne.mpr c29
                obtain rfl := Option.some.inj H
                go_wp2_with (first | (go_at_call 33; (with_reducible refine (word_Byte.calls a0 t131 _ A28.out).mono ?_); rintro e w' ⟨rfl, ⟨nd, rfl⟩⟩))
                go_ret
                exact ⟨by first | rfl | (simp [errW_none, errW_some] <;> rfl) | (simp [*, errW_none, errW_some] <;> rfl), by repeat (first | (with_reducible first | exact HB.out | apply below_alloc | apply pw_below_drewN | apply below_drew1) | exact HB.out)⟩
            · rw [if_neg c27] at H
              have c27b0 : ((wrap64 (t117 + t119)) == (wrap64 (a0 + a1))) = false := beq_eq_false_iff_ne.mpr c27
              have c27b1 : ((wrap64 (t117 + t119)) != (wrap64 (a0 + a1))) = true := bne_iff_ne.mpr c27
              obtain rfl := Option.some.inj H
              go_wp2
              go_ret
              exact ⟨by first | rfl | (simp [errW_none, errW_some] <;> rfl) | (simp [*, errW_none, errW_some] <;> rfl), by repeat (first | (with_reducible first | exact HB.out | apply below_alloc | apply pw_below_drewN | apply below_drew1) | exact HB.out)⟩
          · rw [if_neg c26] at H
            have c26b0 : (t127 == t129) = false := beq_eq_false_iff_ne.mpr c26
            have c26b1 : (t127 != t129) = true := bne_iff_ne.mpr c26
            obtain rfl := Option.some.inj H
            go_wp2
            go_ret
            exact ⟨by first | rfl | (simp [errW_none, errW_some] <;> rfl) | (simp [*, errW_none, errW_some] <;> rfl), by repeat (first | (with_reducible first | exact HB.out | apply below_alloc | apply pw_below_drewN | apply below_drew1) | exact HB.out)⟩
        · rw [if_neg c25] at H
          have c25b0 : (t123 == t125) = false := beq_eq_false_iff_ne.mpr c25
          have c25b1 : (t123 != t125) = true := bne_iff_ne.mpr c25
          obtain rfl := Option.some.inj H
          go_wp2
          go_ret
          exact ⟨by first | rfl | (simp [errW_none, errW_some] <;> rfl) | (simp [*, errW_none, errW_some] <;> rfl), by repeat (first | (with_reducible first | exact HB.out | apply below_alloc | apply pw_below_drewN | apply below_drew1) | exact HB.out)⟩

/-- THE ONE PURE STATEMENT of engramlaw10_WordBits: yours. -/
def engramlaw10_WordBits.Pure : Prop := ∀ (a0 : Int) (a1 : Int), (Lit.int .i64 a0).wf = true → (Lit.int .i64 a1).wf = true → ∃ k, engramlaw10_WordBits.f k a0 a1 = some true
theorem engramlaw10_WordBits.walk (P : engramlaw10_WordBits.Pure) (a0 : Int) (a1 : Int) (w : World) (w0 : (Lit.int .i64 a0).wf = true) (w1 : (Lit.int .i64 a1).wf = true) :
    Calls Try.prog 14 #[.int .i64 a0, .int .i64 a1] w fun e w' => e = .returned (.bool true) ∧ Below w.heap.size w w' := by
  obtain ⟨k, h⟩ := P a0 a1 w0 w1
  refine (engramlaw10_WordBits.calls k a0 a1 true w h).mono ?_
  rintro e w' ⟨rfl, hd⟩
  exact ⟨rfl, hd⟩

end Go.Proofs.Ytfigfdggieenbaa.PWordBits
