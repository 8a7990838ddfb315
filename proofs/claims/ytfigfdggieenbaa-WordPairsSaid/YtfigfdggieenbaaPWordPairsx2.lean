-- PRINTED BY print.sh 35421559b90ae4d0a3588c463048766b98c2df88dd9212a6774a882060cdf62d: not written by this session
import Derived.Test.YtfigfdggieenbaaPWordPairsx0
import Derived.Test.YtfigfdggieenbaaPWordPairsx1
namespace Go.Proofs.Ytfigfdggieenbaa.PWordPairs
open Go.RowKit Go.Proofs.YtfigfdggieenbaaW.PrintWords Go.Proofs.YtfigfdggieenbaaW.PrintLast Go.Proofs.YtfigfdggieenbaaW.PrintMore
attribute [local go_sem] max2_int min2_int max_two min_two max_three min_three max_four min_four   -- for this text's walks alone
set_option linter.unusedVariables false
set_option linter.unusedSimpArgs false

/-! ### engramlaw10_WordPairs: function 13 -/
mutual
def engramlaw10_WordPairs.j0 : Nat → Int → Int → Bool → Option (Bool)
  | 0, _, _, _ => none
  | k + 1, x0, x1, x116 => if x116 = true then (some false) else ((word_Do.f k 47 x0 x1).bind fun bt137 => ((word_Do.f k 37 x0 x1).bind fun bt139 => (if bt137.2 = 0 then (engramlaw10_WordPairs.j1 k x0 x1 bt137.1 bt137.2 bt139.1 bt139.2 (bt139.2 != 0)) else (engramlaw10_WordPairs.j1 k x0 x1 bt137.1 bt137.2 bt139.1 bt139.2 true))))
def engramlaw10_WordPairs.j1 : Nat → Int → Int → Int → Int → Int → Int → Bool → Option (Bool)
  | 0, _, _, _, _, _, _, _ => none
  | k + 1, x0, x1, x25, x26, x27, x28, x134 => if x134 = true then (if x1 = 0 then (if x26 = 3 then (if x28 = 3 then ((engramlaw10_known.f k).bind fun t141 => (some t141)) else (if x1 = (-1) then (if x0 = (-9223372036854775808) then (if x26 = 4 then (if x28 = 0 then (if x27 = 0 then ((engramlaw10_known.f k).bind fun t142 => (some t142)) else (some false)) else (some false)) else (some false)) else (some false)) else (some false))) else (if x1 = (-1) then (if x0 = (-9223372036854775808) then (if x26 = 4 then (if x28 = 0 then (if x27 = 0 then ((engramlaw10_known.f k).bind fun t143 => (some t143)) else (some false)) else (some false)) else (some false)) else (some false)) else (some false))) else (if x1 = (-1) then (if x0 = (-9223372036854775808) then (if x26 = 4 then (if x28 = 0 then (if x27 = 0 then ((engramlaw10_known.f k).bind fun t144 => (some t144)) else (some false)) else (some false)) else (some false)) else (some false)) else (some false))) else (if (wrap64 ((wrap64 (x25 * x1)) + x27)) = x0 then ((engramlaw10_known.f k).bind fun t145 => (some t145)) else (some false))
end
def engramlaw10_WordPairs.f (k : Nat) (a0 : Int) (a1 : Int) : Option (Bool) := (word_Do.f k 43 a0 a1).bind fun bt117 => ((word_Do.f k 45 bt117.1 a1).bind fun bt119 => ((word_Do.f k 60 a0 a1).bind fun bt121 => ((word_Do.f k 60 a1 a0).bind fun bt123 => ((word_Do.f k 61 a0 a1).bind fun bt125 => ((word_Do.f k 94 a0 a1).bind fun bt127 => ((word_Do.f k 94 bt127.1 a1).bind fun bt129 => ((word_Do.f k 171 (Int.tmod a0 1000) 40).bind fun bt131 => ((word_Do.f k 187 bt131.1 40).bind fun bt133 => ((word_Do.f k 33 a0 a1).bind fun bt135 => (if bt119.1 = a0 then (if (wrap64 ((wrap64 (bt121.1 + bt123.1)) + bt125.1)) = 1 then (if bt129.1 = a0 then (if bt133.1 = (Int.tmod a0 1000) then (engramlaw10_WordPairs.j0 k a0 a1 ((bt135.1 == 1) != (a0 == 0))) else (engramlaw10_WordPairs.j0 k a0 a1 true)) else (engramlaw10_WordPairs.j0 k a0 a1 true)) else (engramlaw10_WordPairs.j0 k a0 a1 true)) else (engramlaw10_WordPairs.j0 k a0 a1 true)))))))))))
theorem engramlaw10_WordPairs.mono_l : ∀ k, (∀ y0 y1 y2, LeO (engramlaw10_WordPairs.j0 k y0 y1 y2) (engramlaw10_WordPairs.j0 (k + 1) y0 y1 y2)) ∧ (∀ y0 y1 y2 y3 y4 y5 y6, LeO (engramlaw10_WordPairs.j1 k y0 y1 y2 y3 y4 y5 y6) (engramlaw10_WordPairs.j1 (k + 1) y0 y1 y2 y3 y4 y5 y6))
  | 0 => ⟨fun _ _ _ r h => by simp [engramlaw10_WordPairs.j0] at h, fun _ _ _ _ _ _ _ r h => by simp [engramlaw10_WordPairs.j1] at h⟩
  | k + 1 => by
    obtain ⟨ih0, ih1⟩ := engramlaw10_WordPairs.mono_l k
    refine ⟨?_, ?_⟩
    · intro y0 y1 y2
      unfold engramlaw10_WordPairs.j0
      repeat' first
      | (with_reducible exact ih0 _ _ _)
      | (with_reducible exact ih1 _ _ _ _ _ _ _)
      | (with_reducible exact engramlaw10_known.mono _)
      | (with_reducible exact word_Do.mono _ _ _ _)
      | (with_reducible exact LeO.refl _)
      | (with_reducible exact LeO.none _)
      | (with_reducible refine LeO.ite ?_ ?_)
      | (with_reducible refine LeO.bind ?_ (fun _ => ?_))
      | exact ih0 _ _ _
      | exact ih1 _ _ _ _ _ _ _
      | exact engramlaw10_known.mono _
      | exact word_Do.mono _ _ _ _
      | exact LeO.none _
      | refine LeO.ite ?_ ?_
      | refine LeO.bind ?_ (fun _ => ?_)
    · intro y0 y1 y2 y3 y4 y5 y6
      unfold engramlaw10_WordPairs.j1
      repeat' first
      | (with_reducible exact ih0 _ _ _)
      | (with_reducible exact ih1 _ _ _ _ _ _ _)
      | (with_reducible exact engramlaw10_known.mono _)
      | (with_reducible exact word_Do.mono _ _ _ _)
      | (with_reducible exact LeO.refl _)
      | (with_reducible exact LeO.none _)
      | (with_reducible refine LeO.ite ?_ ?_)
      | (with_reducible refine LeO.bind ?_ (fun _ => ?_))
      | exact ih0 _ _ _
      | exact ih1 _ _ _ _ _ _ _
      | exact engramlaw10_known.mono _
      | exact word_Do.mono _ _ _ _
      | exact LeO.none _
      | refine LeO.ite ?_ ?_
      | refine LeO.bind ?_ (fun _ => ?_)
theorem engramlaw10_WordPairs.mono : ∀ a0 a1 k, LeO (engramlaw10_WordPairs.f k a0 a1) (engramlaw10_WordPairs.f (k + 1) a0 a1) := by
  intro a0 a1 k
  obtain ⟨ih0, ih1⟩ := engramlaw10_WordPairs.mono_l k
  unfold engramlaw10_WordPairs.f
  repeat' first
      | (with_reducible exact ih0 _ _ _)
      | (with_reducible exact ih1 _ _ _ _ _ _ _)
      | (with_reducible exact engramlaw10_known.mono _)
      | (with_reducible exact word_Do.mono _ _ _ _)
      | (with_reducible exact LeO.refl _)
      | (with_reducible exact LeO.none _)
      | (with_reducible refine LeO.ite ?_ ?_)
      | (with_reducible refine LeO.bind ?_ (fun _ => ?_))
      | exact ih0 _ _ _
      | exact ih1 _ _ _ _ _ _ _
      | exact engramlaw10_known.mono _
      | exact word_Do.mono _ _ _ _
      | exact LeO.none _
      | refine LeO.ite ?_ ?_
      | refine LeO.bind ?_ (fun _ => ?_)
set_option maxHeartbeats 8000000 in
set_option maxRecDepth 100000 in
theorem engramlaw10_WordPairs.calls (k : Nat) (a0 : Int) (a1 : Int) (r : Bool) (w : World) (h : engramlaw10_WordPairs.f k a0 a1 = some r) :
    Calls Try.prog 13 #[.int .i64 a0, .int .i64 a1] w fun e w' => e = .returned (.bool r) ∧ Drawn0 w w' := by
  have H : ((word_Do.f k 43 a0 a1).bind fun bt117 => ((word_Do.f k 45 bt117.1 a1).bind fun bt119 => ((word_Do.f k 60 a0 a1).bind fun bt121 => ((word_Do.f k 60 a1 a0).bind fun bt123 => ((word_Do.f k 61 a0 a1).bind fun bt125 => ((word_Do.f k 94 a0 a1).bind fun bt127 => ((word_Do.f k 94 bt127.1 a1).bind fun bt129 => ((word_Do.f k 171 (Int.tmod a0 1000) 40).bind fun bt131 => ((word_Do.f k 187 bt131.1 40).bind fun bt133 => ((word_Do.f k 33 a0 a1).bind fun bt135 => (if bt119.1 = a0 then (if (wrap64 ((wrap64 (bt121.1 + bt123.1)) + bt125.1)) = 1 then (if bt129.1 = a0 then (if bt133.1 = (Int.tmod a0 1000) then (engramlaw10_WordPairs.j0 k a0 a1 ((bt135.1 == 1) != (a0 == 0))) else (engramlaw10_WordPairs.j0 k a0 a1 true)) else (engramlaw10_WordPairs.j0 k a0 a1 true)) else (engramlaw10_WordPairs.j0 k a0 a1 true)) else (engramlaw10_WordPairs.j0 k a0 a1 true)))))))))))) = some r := h
  clear h
  replace H := Option.bind_eq_some_iff.mp H
  obtain ⟨⟨t117, t118⟩, A30, H⟩ := H
  replace H : ((word_Do.f k 45 t117 a1).bind fun bt119 => ((word_Do.f k 60 a0 a1).bind fun bt121 => ((word_Do.f k 60 a1 a0).bind fun bt123 => ((word_Do.f k 61 a0 a1).bind fun bt125 => ((word_Do.f k 94 a0 a1).bind fun bt127 => ((word_Do.f k 94 bt127.1 a1).bind fun bt129 => ((word_Do.f k 171 (Int.tmod a0 1000) 40).bind fun bt131 => ((word_Do.f k 187 bt131.1 40).bind fun bt133 => ((word_Do.f k 33 a0 a1).bind fun bt135 => (if bt119.1 = a0 then (if (wrap64 ((wrap64 (bt121.1 + bt123.1)) + bt125.1)) = 1 then (if bt129.1 = a0 then (if bt133.1 = (Int.tmod a0 1000) then (engramlaw10_WordPairs.j0 k a0 a1 ((bt135.1 == 1) != (a0 == 0))) else (engramlaw10_WordPairs.j0 k a0 a1 true)) else (engramlaw10_WordPairs.j0 k a0 a1 true)) else (engramlaw10_WordPairs.j0 k a0 a1 true)) else (engramlaw10_WordPairs.j0 k a0 a1 true))))))))))) = some r := H
  have A3 := Aside0.mk A30
  clear A30
  replace H := Option.bind_eq_some_iff.mp H
  obtain ⟨⟨t119, t120⟩, A40, H⟩ := H
  replace H : ((word_Do.f k 60 a0 a1).bind fun bt121 => ((word_Do.f k 60 a1 a0).bind fun bt123 => ((word_Do.f k 61 a0 a1).bind fun bt125 => ((word_Do.f k 94 a0 a1).bind fun bt127 => ((word_Do.f k 94 bt127.1 a1).bind fun bt129 => ((word_Do.f k 171 (Int.tmod a0 1000) 40).bind fun bt131 => ((word_Do.f k 187 bt131.1 40).bind fun bt133 => ((word_Do.f k 33 a0 a1).bind fun bt135 => (if t119 = a0 then (if (wrap64 ((wrap64 (bt121.1 + bt123.1)) + bt125.1)) = 1 then (if bt129.1 = a0 then (if bt133.1 = (Int.tmod a0 1000) then (engramlaw10_WordPairs.j0 k a0 a1 ((bt135.1 == 1) != (a0 == 0))) else (engramlaw10_WordPairs.j0 k a0 a1 true)) else (engramlaw10_WordPairs.j0 k a0 a1 true)) else (engramlaw10_WordPairs.j0 k a0 a1 true)) else (engramlaw10_WordPairs.j0 k a0 a1 true)))))))))) = some r := H
  have A4 := Aside0.mk A40
  clear A40
  replace H := Option.bind_eq_some_iff.mp H
  obtain ⟨⟨t121, t122⟩, A50, H⟩ := H
  replace H : ((word_Do.f k 60 a1 a0).bind fun bt123 => ((word_Do.f k 61 a0 a1).bind fun bt125 => ((word_Do.f k 94 a0 a1).bind fun bt127 => ((word_Do.f k 94 bt127.1 a1).bind fun bt129 => ((word_Do.f k 171 (Int.tmod a0 1000) 40).bind fun bt131 => ((word_Do.f k 187 bt131.1 40).bind fun bt133 => ((word_Do.f k 33 a0 a1).bind fun bt135 => (if t119 = a0 then (if (wrap64 ((wrap64 (t121 + bt123.1)) + bt125.1)) = 1 then (if bt129.1 = a0 then (if bt133.1 = (Int.tmod a0 1000) then (engramlaw10_WordPairs.j0 k a0 a1 ((bt135.1 == 1) != (a0 == 0))) else (engramlaw10_WordPairs.j0 k a0 a1 true)) else (engramlaw10_WordPairs.j0 k a0 a1 true)) else (engramlaw10_WordPairs.j0 k a0 a1 true)) else (engramlaw10_WordPairs.j0 k a0 a1 true))))))))) = some r := H
  have A5 := Aside0.mk A50
  clear A50
  replace H := Option.bind_eq_some_iff.mp H
  obtain ⟨⟨t123, t124⟩, A60, H⟩ := H
  replace H : ((word_Do.f k 61 a0 a1).bind fun bt125 => ((word_Do.f k 94 a0 a1).bind fun bt127 => ((word_Do.f k 94 bt127.1 a1).bind fun bt129 => ((word_Do.f k 171 (Int.tmod a0 1000) 40).bind fun bt131 => ((word_Do.f k 187 bt131.1 40).bind fun bt133 => ((word_Do.f k 33 a0 a1).bind fun bt135 => (if t119 = a0 then (if (wrap64 ((wrap64 (t121 + t123)) + bt125.1)) = 1 then (if bt129.1 = a0 then (if bt133.1 = (Int.tmod a0 1000) then (engramlaw10_WordPairs.j0 k a0 a1 ((bt135.1 == 1) != (a0 == 0))) else (engramlaw10_WordPairs.j0 k a0 a1 true)) else (engramlaw10_WordPairs.j0 k a0 a1 true)) else (engramlaw10_WordPairs.j0 k a0 a1 true)) else (engramlaw10_WordPairs.j0 k a0 a1 true)))))))) = some r := H
  have A6 := Aside0.mk A60
  clear A60
  replace H := Option.bind_eq_some_iff.mp H
  obtain ⟨⟨t125, t126⟩, A70, H⟩ := H
  replace H : ((word_Do.f k 94 a0 a1).bind fun bt127 => ((word_Do.f k 94 bt127.1 a1).bind fun bt129 => ((word_Do.f k 171 (Int.tmod a0 1000) 40).bind fun bt131 => ((word_Do.f k 187 bt131.1 40).bind fun bt133 => ((word_Do.f k 33 a0 a1).bind fun bt135 => (if t119 = a0 then (if (wrap64 ((wrap64 (t121 + t123)) + t125)) = 1 then (if bt129.1 = a0 then (if bt133.1 = (Int.tmod a0 1000) then (engramlaw10_WordPairs.j0 k a0 a1 ((bt135.1 == 1) != (a0 == 0))) else (engramlaw10_WordPairs.j0 k a0 a1 true)) else (engramlaw10_WordPairs.j0 k a0 a1 true)) else (engramlaw10_WordPairs.j0 k a0 a1 true)) else (engramlaw10_WordPairs.j0 k a0 a1 true))))))) = some r := H
  have A7 := Aside0.mk A70
  clear A70
  replace H := Option.bind_eq_some_iff.mp H
  obtain ⟨⟨t127, t128⟩, A80, H⟩ := H
  replace H : ((word_Do.f k 94 t127 a1).bind fun bt129 => ((word_Do.f k 171 (Int.tmod a0 1000) 40).bind fun bt131 => ((word_Do.f k 187 bt131.1 40).bind fun bt133 => ((word_Do.f k 33 a0 a1).bind fun bt135 => (if t119 = a0 then (if (wrap64 ((wrap64 (t121 + t123)) + t125)) = 1 then (if bt129.1 = a0 then (if bt133.1 = (Int.tmod a0 1000) then (engramlaw10_WordPairs.j0 k a0 a1 ((bt135.1 == 1) != (a0 == 0))) else (engramlaw10_WordPairs.j0 k a0 a1 true)) else (engramlaw10_WordPairs.j0 k a0 a1 true)) else (engramlaw10_WordPairs.j0 k a0 a1 true)) else (engramlaw10_WordPairs.j0 k a0 a1 true)))))) = some r := H
  have A8 := Aside0.mk A80
  clear A80
  replace H := Option.bind_eq_some_iff.mp H
  obtain ⟨⟨t129, t130⟩, A90, H⟩ := H
  replace H : ((word_Do.f k 171 (Int.tmod a0 1000) 40).bind fun bt131 => ((word_Do.f k 187 bt131.1 40).bind fun bt133 => ((word_Do.f k 33 a0 a1).bind fun bt135 => (if t119 = a0 then (if (wrap64 ((wrap64 (t121 + t123)) + t125)) = 1 then (if t129 = a0 then (if bt133.1 = (Int.tmod a0 1000) then (engramlaw10_WordPairs.j0 k a0 a1 ((bt135.1 == 1) != (a0 == 0))) else (engramlaw10_WordPairs.j0 k a0 a1 true)) else (engramlaw10_WordPairs.j0 k a0 a1 true)) else (engramlaw10_WordPairs.j0 k a0 a1 true)) else (engramlaw10_WordPairs.j0 k a0 a1 true))))) = some r := H
  have A9 := Aside0.mk A90
  clear A90
  replace H := Option.bind_eq_some_iff.mp H
  obtain ⟨⟨t131, t132⟩, A100, H⟩ := H
  replace H : ((word_Do.f k 187 t131 40).bind fun bt133 => ((word_Do.f k 33 a0 a1).bind fun bt135 => (if t119 = a0 then (if (wrap64 ((wrap64 (t121 + t123)) + t125)) = 1 then (if t129 = a0 then (if bt133.1 = (Int.tmod a0 1000) then (engramlaw10_WordPairs.j0 k a0 a1 ((bt135.1 == 1) != (a0 == 0))) else (engramlaw10_WordPairs.j0 k a0 a1 true)) else (engramlaw10_WordPairs.j0 k a0 a1 true)) else (engramlaw10_WordPairs.j0 k a0 a1 true)) else (engramlaw10_WordPairs.j0 k a0 a1 true)))) = some r := H
  have A10 := Aside0.mk A100
  clear A100
  replace H := Option.bind_eq_some_iff.mp H
  obtain ⟨⟨t133, t134⟩, A110, H⟩ := H
  replace H : ((word_Do.f k 33 a0 a1).bind fun bt135 => (if t119 = a0 then (if (wrap64 ((wrap64 (t121 + t123)) + t125)) = 1 then (if t129 = a0 then (if t133 = (Int.tmod a0 1000) then (engramlaw10_WordPairs.j0 k a0 a1 ((bt135.1 == 1) != (a0 == 0))) else (engramlaw10_WordPairs.j0 k a0 a1 true)) else (engramlaw10_WordPairs.j0 k a0 a1 true)) else (engramlaw10_WordPairs.j0 k a0 a1 true)) else (engramlaw10_WordPairs.j0 k a0 a1 true))) = some r := H
  have A11 := Aside0.mk A110
  clear A110
  replace H := Option.bind_eq_some_iff.mp H
  obtain ⟨⟨t135, t136⟩, A120, H⟩ := H
  replace H : (if t119 = a0 then (if (wrap64 ((wrap64 (t121 + t123)) + t125)) = 1 then (if t129 = a0 then (if t133 = (Int.tmod a0 1000) then (engramlaw10_WordPairs.j0 k a0 a1 ((t135 == 1) != (a0 == 0))) else (engramlaw10_WordPairs.j0 k a0 a1 true)) else (engramlaw10_WordPairs.j0 k a0 a1 true)) else (engramlaw10_WordPairs.j0 k a0 a1 true)) else (engramlaw10_WordPairs.j0 k a0 a1 true)) = some r := H
  have A12 := Aside0.mk A120
  clear A120
  have HC13 := Aside0.mk H
  clear H
  go_enter Try.func13, Try.ntmps13
  go_upto_region 11 with (first | ((with_reducible refine gate_callee (f := 32) rfl ?_); refine goesL_ (some 32) rfl rfl Try.func32 (by kernel_rfl) rfl #[.int .i32 43, .int .i64 a0, .int .i64 a1] rfl (by (try simp only [List.map_toArray, List.map_cons, List.map_nil]); first | done | rfl | (simp only [List.length_drop, List.length_take]; rfl)) ?_; (with_reducible refine (word_Do.calls k 43 a0 a1 t117 t118 _ A3.out).mono ?_); rintro e w' ⟨rfl, ⟨nd, rfl⟩⟩; refine ⟨_, rfl, ?_⟩) | ((with_reducible refine gate_callee (f := 32) rfl ?_); refine goesL_ (some 38) rfl rfl Try.func32 (by kernel_rfl) rfl #[.int .i32 45, .int .i64 t117, .int .i64 a1] rfl (by (try simp only [List.map_toArray, List.map_cons, List.map_nil]); first | done | rfl | (simp only [List.length_drop, List.length_take]; rfl)) ?_; (with_reducible refine (word_Do.calls k 45 t117 a1 t119 t120 _ A4.out).mono ?_); rintro e w' ⟨rfl, ⟨nd, rfl⟩⟩; refine ⟨_, rfl, ?_⟩) | ((with_reducible refine gate_callee (f := 32) rfl ?_); refine goesL_ (some 44) rfl rfl Try.func32 (by kernel_rfl) rfl #[.int .i32 60, .int .i64 a0, .int .i64 a1] rfl (by (try simp only [List.map_toArray, List.map_cons, List.map_nil]); first | done | rfl | (simp only [List.length_drop, List.length_take]; rfl)) ?_; (with_reducible refine (word_Do.calls k 60 a0 a1 t121 t122 _ A5.out).mono ?_); rintro e w' ⟨rfl, ⟨nd, rfl⟩⟩; refine ⟨_, rfl, ?_⟩) | ((with_reducible refine gate_callee (f := 32) rfl ?_); refine goesL_ (some 50) rfl rfl Try.func32 (by kernel_rfl) rfl #[.int .i32 60, .int .i64 a1, .int .i64 a0] rfl (by (try simp only [List.map_toArray, List.map_cons, List.map_nil]); first | done | rfl | (simp only [List.length_drop, List.length_take]; rfl)) ?_; (with_reducible refine (word_Do.calls k 60 a1 a0 t123 t124 _ A6.out).mono ?_); rintro e w' ⟨rfl, ⟨nd, rfl⟩⟩; refine ⟨_, rfl, ?_⟩) | ((with_reducible refine gate_callee (f := 32) rfl ?_); refine goesL_ (some 56) rfl rfl Try.func32 (by kernel_rfl) rfl #[.int .i32 61, .int .i64 a0, .int .i64 a1] rfl (by (try simp only [List.map_toArray, List.map_cons, List.map_nil]); first | done | rfl | (simp only [List.length_drop, List.length_take]; rfl)) ?_; (with_reducible refine (word_Do.calls k 61 a0 a1 t125 t126 _ A7.out).mono ?_); rintro e w' ⟨rfl, ⟨nd, rfl⟩⟩; refine ⟨_, rfl, ?_⟩) | ((with_reducible refine gate_callee (f := 32) rfl ?_); refine goesL_ (some 62) rfl rfl Try.func32 (by kernel_rfl) rfl #[.int .i32 94, .int .i64 a0, .int .i64 a1] rfl (by (try simp only [List.map_toArray, List.map_cons, List.map_nil]); first | done | rfl | (simp only [List.length_drop, List.length_take]; rfl)) ?_; (with_reducible refine (word_Do.calls k 94 a0 a1 t127 t128 _ A8.out).mono ?_); rintro e w' ⟨rfl, ⟨nd, rfl⟩⟩; refine ⟨_, rfl, ?_⟩) | ((with_reducible refine gate_callee (f := 32) rfl ?_); refine goesL_ (some 68) rfl rfl Try.func32 (by kernel_rfl) rfl #[.int .i32 94, .int .i64 t127, .int .i64 a1] rfl (by (try simp only [List.map_toArray, List.map_cons, List.map_nil]); first | done | rfl | (simp only [List.length_drop, List.length_take]; rfl)) ?_; (with_reducible refine (word_Do.calls k 94 t127 a1 t129 t130 _ A9.out).mono ?_); rintro e w' ⟨rfl, ⟨nd, rfl⟩⟩; refine ⟨_, rfl, ?_⟩) | ((with_reducible refine gate_callee (f := 32) rfl ?_); refine goesL_ (some 74) rfl rfl Try.func32 (by kernel_rfl) rfl #[.int .i32 171, .int .i64 (Int.tmod a0 1000), .int .i64 40] rfl (by (try simp only [List.map_toArray, List.map_cons, List.map_nil]); first | done | rfl | (simp only [List.length_drop, List.length_take]; rfl)) ?_; (with_reducible refine (word_Do.calls k 171 (Int.tmod a0 1000) 40 t131 t132 _ A10.out).mono ?_); rintro e w' ⟨rfl, ⟨nd, rfl⟩⟩; refine ⟨_, rfl, ?_⟩) | ((with_reducible refine gate_callee (f := 32) rfl ?_); refine goesL_ (some 79) rfl rfl Try.func32 (by kernel_rfl) rfl #[.int .i32 187, .int .i64 t131, .int .i64 40] rfl (by (try simp only [List.map_toArray, List.map_cons, List.map_nil]); first | done | rfl | (simp only [List.length_drop, List.length_take]; rfl)) ?_; (with_reducible refine (word_Do.calls k 187 t131 40 t133 t134 _ A11.out).mono ?_); rintro e w' ⟨rfl, ⟨nd, rfl⟩⟩; refine ⟨_, rfl, ?_⟩) | ((with_reducible refine gate_callee (f := 32) rfl ?_); refine goesL_ (some 85) rfl rfl Try.func32 (by kernel_rfl) rfl #[.int .i32 33, .int .i64 a0, .int .i64 a1] rfl (by (try simp only [List.map_toArray, List.map_cons, List.map_nil]); first | done | rfl | (simp only [List.length_drop, List.length_take]; rfl)) ?_; (with_reducible refine (word_Do.calls k 33 a0 a1 t135 t136 _ A12.out).mono ?_); rintro e w' ⟨rfl, ⟨nd, rfl⟩⟩; refine ⟨_, rfl, ?_⟩))
  (try simp only [Act.put, List.setIfInBounds_toArray, List.set_cons_zero, List.set_cons_succ])
  go_cut [116] (fun v116 wc => ∃ (kq : Nat) (x116_12 : Bool), v116 = .bool x116_12 ∧ Aside0 (engramlaw10_WordPairs.j0 kq a0 a1 x116_12 = some r) ∧ Aside0 (kq ≤ k) ∧ Drawn0 w wc)
  case first =>
    have H := HC13.out
    clear HC13
    by_cases c14 : t119 = a0
    · rw [if_pos c14] at H
      have c14b0 : (t119 == a0) = true := beq_iff_eq.mpr c14
      have c14b1 : (t119 != a0) = false := bne_eq_false_iff_eq.mpr c14
      clear c14
      (first | rw [c14b0] | (simp only [i64_w, i32_w]; rw [c14b0]) | skip)
      by_cases c15 : (wrap64 ((wrap64 (t121 + t123)) + t125)) = 1
      · rw [if_pos c15] at H
        have c15b0 : ((wrap64 ((wrap64 (t121 + t123)) + t125)) == 1) = true := beq_iff_eq.mpr c15
        have c15b1 : ((wrap64 ((wrap64 (t121 + t123)) + t125)) != 1) = false := bne_eq_false_iff_eq.mpr c15
        clear c15
        by_cases c16 : t129 = a0
        · rw [if_pos c16] at H
          have c16b0 : (t129 == a0) = true := beq_iff_eq.mpr c16
          have c16b1 : (t129 != a0) = false := bne_eq_false_iff_eq.mpr c16
          clear c16
          by_cases c17 : t133 = (Int.tmod a0 1000)
          · rw [if_pos c17] at H
            have c17b0 : (t133 == (Int.tmod a0 1000)) = true := beq_iff_eq.mpr c17
            have c17b1 : (t133 != (Int.tmod a0 1000)) = false := bne_eq_false_iff_eq.mpr c17
            clear c17
            have H' := Aside0.mk H
            clear H
            go_wp2
            go_meet
            case rel => exact ⟨_, (((t135 == 1) != (a0 == 0))), (by first | rfl | (simp; done) | (simp [*]; done)), H', ⟨by first | omega | exact Nat.le_refl _⟩, by repeat (first | exact Drawn0.refl _ | apply Drawn0.step)⟩
          · rw [if_neg c17] at H
            have c17b0 : (t133 == (Int.tmod a0 1000)) = false := beq_eq_false_iff_ne.mpr c17
            have c17b1 : (t133 != (Int.tmod a0 1000)) = true := bne_iff_ne.mpr c17
            have H' := Aside0.mk H
            clear H
            go_wp2
            go_meet
            case rel => exact ⟨_, (true), (by first | rfl | (simp; done) | (simp [*]; done)), H', ⟨by first | omega | exact Nat.le_refl _⟩, by repeat (first | exact Drawn0.refl _ | apply Drawn0.step)⟩
        · rw [if_neg c16] at H
          have c16b0 : (t129 == a0) = false := beq_eq_false_iff_ne.mpr c16
          have c16b1 : (t129 != a0) = true := bne_iff_ne.mpr c16
          have H' := Aside0.mk H
          clear H
          go_wp2
          go_meet
          case rel => exact ⟨_, (true), (by first | rfl | (simp; done) | (simp [*]; done)), H', ⟨by first | omega | exact Nat.le_refl _⟩, by repeat (first | exact Drawn0.refl _ | apply Drawn0.step)⟩
      · rw [if_neg c15] at H
        have c15b0 : ((wrap64 ((wrap64 (t121 + t123)) + t125)) == 1) = false := beq_eq_false_iff_ne.mpr c15
        have c15b1 : ((wrap64 ((wrap64 (t121 + t123)) + t125)) != 1) = true := bne_iff_ne.mpr c15
        have H' := Aside0.mk H
        clear H
        go_wp2
        go_meet
        case rel => exact ⟨_, (true), (by first | rfl | (simp; done) | (simp [*]; done)), H', ⟨by first | omega | exact Nat.le_refl _⟩, by repeat (first | exact Drawn0.refl _ | apply Drawn0.step)⟩
    · rw [if_neg c14] at H
      have c14b0 : (t119 == a0) = false := beq_eq_false_iff_ne.mpr c14
      have c14b1 : (t119 != a0) = true := bne_iff_ne.mpr c14
      (first | rw [c14b0] | (simp only [i64_w, i32_w]; rw [c14b0]) | skip)
      have H' := Aside0.mk H
      clear H
      go_wp2
      go_meet
      case rel => exact ⟨_, (true), (by first | rfl | (simp; done) | (simp [*]; done)), H', ⟨by first | omega | exact Nat.le_refl _⟩, by repeat (first | exact Drawn0.refl _ | apply Drawn0.step)⟩
  case rest =>
    clear HC13
    try clear c1
    try clear p2
    try clear c3
    try clear p6
    try clear c13
    try clear c14
    try clear c14b0
    try clear c14b1
    try clear c15
    try clear c15b0
    try clear c15b1
    try clear c16
    try clear c16b0
    try clear c16b1
    try clear c17
    try clear c17b0
    try clear c17b1
    obtain ⟨kq, x116_12, rfl, HA, HJ12, ⟨mc12, rfl⟩⟩ := hcut
    cases kq with
    | zero => exact absurd HA.out (by simp [engramlaw10_WordPairs.j0])
    | succ kj12 =>
      have H := HA.out
      clear HA
      simp only [engramlaw10_WordPairs.j0] at H
      by_cases c18 : x116_12 = true
      · subst c18
        have H1 : (some false) = some r := by rw [if_pos rfl] at H; exact H
        clear H
        have H := H1
        clear H1
        obtain rfl := Option.some.inj H
        go_wp2
        go_ret
        exact ⟨by first | rfl | (simp; done) | (simp [*]; done), by repeat (first | exact Drawn0.refl _ | apply Drawn0.step)⟩
      · replace c18 := Bool.eq_false_iff.mpr c18
        subst c18
        have H1 : ((word_Do.f kj12 47 a0 a1).bind fun bt137 => ((word_Do.f kj12 37 a0 a1).bind fun bt139 => (if bt137.2 = 0 then (engramlaw10_WordPairs.j1 kj12 a0 a1 bt137.1 bt137.2 bt139.1 bt139.2 (bt139.2 != 0)) else (engramlaw10_WordPairs.j1 kj12 a0 a1 bt137.1 bt137.2 bt139.1 bt139.2 true)))) = some r := by rw [if_neg (show ¬ (false = true) by decide)] at H; exact H
        clear H
        have H := H1
        clear H1
        replace H := Option.bind_eq_some_iff.mp H
        obtain ⟨⟨t137, t138⟩, A190, H⟩ := H
        replace H : ((word_Do.f kj12 37 a0 a1).bind fun bt139 => (if t138 = 0 then (engramlaw10_WordPairs.j1 kj12 a0 a1 t137 t138 bt139.1 bt139.2 (bt139.2 != 0)) else (engramlaw10_WordPairs.j1 kj12 a0 a1 t137 t138 bt139.1 bt139.2 true))) = some r := H
        have A19 := Aside0.mk A190
        clear A190
        replace H := Option.bind_eq_some_iff.mp H
        obtain ⟨⟨t139, t140⟩, A200, H⟩ := H
        replace H : (if t138 = 0 then (engramlaw10_WordPairs.j1 kj12 a0 a1 t137 t138 t139 t140 (t140 != 0)) else (engramlaw10_WordPairs.j1 kj12 a0 a1 t137 t138 t139 t140 true)) = some r := H
        have A20 := Aside0.mk A200
        clear A200
        have HC21 := Aside0.mk H
        clear H
        go_upto_region 15 with (first | ((with_reducible refine gate_callee (f := 32) rfl ?_); refine goesL_ (some 120) rfl rfl Try.func32 (by kernel_rfl) rfl #[.int .i32 47, .int .i64 a0, .int .i64 a1] rfl (by (try simp only [List.map_toArray, List.map_cons, List.map_nil]); first | done | rfl | (simp only [List.length_drop, List.length_take]; rfl)) ?_; (with_reducible refine (word_Do.calls kj12 47 a0 a1 t137 t138 _ A19.out).mono ?_); rintro e w' ⟨rfl, ⟨nd, rfl⟩⟩; refine ⟨_, rfl, ?_⟩) | ((with_reducible refine gate_callee (f := 32) rfl ?_); refine goesL_ (some 126) rfl rfl Try.func32 (by kernel_rfl) rfl #[.int .i32 37, .int .i64 a0, .int .i64 a1] rfl (by (try simp only [List.map_toArray, List.map_cons, List.map_nil]); first | done | rfl | (simp only [List.length_drop, List.length_take]; rfl)) ?_; (with_reducible refine (word_Do.calls kj12 37 a0 a1 t139 t140 _ A20.out).mono ?_); rintro e w' ⟨rfl, ⟨nd, rfl⟩⟩; refine ⟨_, rfl, ?_⟩))
        (try simp only [Act.put, List.setIfInBounds_toArray, List.set_cons_zero, List.set_cons_succ])
        go_cut [134] (fun v134 wc => ∃ (kq : Nat) (x134_20 : Bool), v134 = .bool x134_20 ∧ Aside0 (engramlaw10_WordPairs.j1 kq a0 a1 t137 t138 t139 t140 x134_20 = some r) ∧ Aside0 (kq ≤ kj12) ∧ Drawn0 w wc)
        case first =>
          have H := HC21.out
          clear HC21
          by_cases c22 : t138 = 0
          · rw [if_pos c22] at H
            have c22b0 : (t138 == 0) = true := beq_iff_eq.mpr c22
            have c22b1 : (t138 != 0) = false := bne_eq_false_iff_eq.mpr c22
            clear c22
            (first | rw [c22b0] | (simp only [i64_w, i32_w]; rw [c22b0]) | skip)
            have H' := Aside0.mk H
            clear H
            go_wp2
            go_meet
            case rel => exact ⟨_, ((t140 != 0)), (by first | rfl | (simp; done) | (simp [*]; done)), H', ⟨by have := HJ12.out; first | omega | exact Nat.le_refl _⟩, by repeat (first | exact Drawn0.refl _ | apply Drawn0.step)⟩
          · rw [if_neg c22] at H
            have c22b0 : (t138 == 0) = false := beq_eq_false_iff_ne.mpr c22
            have c22b1 : (t138 != 0) = true := bne_iff_ne.mpr c22
            (first | rw [c22b0] | (simp only [i64_w, i32_w]; rw [c22b0]) | skip)
            have H' := Aside0.mk H
            clear H
            go_wp2
            go_meet
            case rel => exact ⟨_, (true), (by first | rfl | (simp; done) | (simp [*]; done)), H', ⟨by have := HJ12.out; first | omega | exact Nat.le_refl _⟩, by repeat (first | exact Drawn0.refl _ | apply Drawn0.step)⟩
        case rest =>
          clear HC21
          try clear c1
          try clear c2
          try clear p2
          try clear c3
          try clear p6
          try clear c12
          try clear c13
          try clear c14
          try clear c14b0
          try clear c14b1
          try clear c15
          try clear c15b0
          try clear c15b1
          try clear c16
          try clear c16b0
          try clear c16b1
          try clear c17
          try clear c17b0
          try clear c17b1
          try clear c18
          try clear c22
          try clear c22b0
          try clear c22b1
          try clear p2
          try clear p6
          obtain ⟨kq, x134_20, rfl, HA, HJ20, ⟨mc20, rfl⟩⟩ := hcut
          cases kq with
          | zero => exact absurd HA.out (by simp [engramlaw10_WordPairs.j1])
          | succ kj20 =>
            have H := HA.out
            clear HA
            simp only [engramlaw10_WordPairs.j1] at H
            by_cases c23 : x134_20 = true
            · subst c23
              have H1 : (if a1 = 0 then (if t138 = 3 then (if t140 = 3 then ((engramlaw10_known.f kj20).bind fun t141 => (some t141)) else (if a1 = (-1) then (if a0 = (-9223372036854775808) then (if t138 = 4 then (if t140 = 0 then (if t139 = 0 then ((engramlaw10_known.f kj20).bind fun t142 => (some t142)) else (some false)) else (some false)) else (some false)) else (some false)) else (some false))) else (if a1 = (-1) then (if a0 = (-9223372036854775808) then (if t138 = 4 then (if t140 = 0 then (if t139 = 0 then ((engramlaw10_known.f kj20).bind fun t143 => (some t143)) else (some false)) else (some false)) else (some false)) else (some false)) else (some false))) else (if a1 = (-1) then (if a0 = (-9223372036854775808) then (if t138 = 4 then (if t140 = 0 then (if t139 = 0 then ((engramlaw10_known.f kj20).bind fun t144 => (some t144)) else (some false)) else (some false)) else (some false)) else (some false)) else (some false))) = some r := by rw [if_pos rfl] at H; exact H
              clear H
              have H := H1
              clear H1
              by_cases c24 : a1 = 0
              · rw [if_pos c24] at H
                have c24b0 : (a1 == 0) = true := beq_iff_eq.mpr c24
                have c24b1 : (a1 != 0) = false := bne_eq_false_iff_eq.mpr c24
                clear c24
                by_cases c25 : t138 = 3
                · rw [if_pos c25] at H
                  have c25b0 : (t138 == 3) = true := beq_iff_eq.mpr c25
                  have c25b1 : (t138 != 3) = false := bne_eq_false_iff_eq.mpr c25
                  clear c25
                  by_cases c26 : t140 = 3
                  · rw [if_pos c26] at H
                    have c26b0 : (t140 == 3) = true := beq_iff_eq.mpr c26
                    have c26b1 : (t140 != 3) = false := bne_eq_false_iff_eq.mpr c26
                    clear c26
                    replace H := Option.bind_eq_some_iff.mp H
                    obtain ⟨t141, A270, H⟩ := H
                    replace H : (some t141) = some r := H
                    have A27 := Aside0.mk A270
                    clear A270
                    obtain rfl := Option.some.inj H
                    go_wp2_with (first | (go_at_call 31; (with_reducible refine (engramlaw10_known.calls kj20  t141 _ A27.out).mono ?_); rintro e w' ⟨rfl, ⟨nd, rfl⟩⟩))
                    go_ret
                    exact ⟨by first | rfl | (simp; done) | (simp [*]; done), by repeat (first | exact Drawn0.refl _ | apply Drawn0.step)⟩
                  · rw [if_neg c26] at H
                    have c26b0 : (t140 == 3) = false := beq_eq_false_iff_ne.mpr c26
                    have c26b1 : (t140 != 3) = true := bne_iff_ne.mpr c26
                    by_cases c28 : a1 = (-1)
                    · rw [if_pos c28] at H
                      have c28b0 : (a1 == (-1)) = true := beq_iff_eq.mpr c28
                      have c28b1 : (a1 != (-1)) = false := bne_eq_false_iff_eq.mpr c28
                      clear c28
                      by_cases c29 : a0 = (-9223372036854775808)
                      · rw [if_pos c29] at H
                        have c29b0 : (a0 == (-9223372036854775808)) = true := beq_iff_eq.mpr c29
                        have c29b1 : (a0 != (-9223372036854775808)) = false := bne_eq_false_iff_eq.mpr c29
                        clear c29
                        by_cases c30 : t138 = 4
                        · rw [if_pos c30] at H
                          have c30b0 : (t138 == 4) = true := beq_iff_eq.mpr c30
                          have c30b1 : (t138 != 4) = false := bne_eq_false_iff_eq.mpr c30
                          clear c30
                          by_cases c31 : t140 = 0
                          · rw [if_pos c31] at H
                            have c31b0 : (t140 == 0) = true := beq_iff_eq.mpr c31
                            have c31b1 : (t140 != 0) = false := bne_eq_false_iff_eq.mpr c31
                            clear c31
                            by_cases c32 : t139 = 0
                            · rw [if_pos c32] at H
                              have c32b0 : (t139 == 0) = true := beq_iff_eq.mpr c32
                              have c32b1 : (t139 != 0) = false := bne_eq_false_iff_eq.mpr c32
                              clear c32
                              replace H := Option.bind_eq_some_iff.mp H
                              obtain ⟨t142, A330, H⟩ := H
                              replace H : (some t142) = some r := H
                              have A33 := Aside0.mk A330
                              clear A330
                              obtain rfl := Option.some.inj H
                              go_wp2_with (first | (go_at_call 31; (with_reducible refine (engramlaw10_known.calls kj20  t142 _ A33.out).mono ?_); rintro e w' ⟨rfl, ⟨nd, rfl⟩⟩))
                              go_ret
                              exact ⟨by first | rfl | (simp; done) | (simp [*]; done), by repeat (first | exact Drawn0.refl _ | apply Drawn0.step)⟩
                            · rw [if_neg c32] at H
                              have c32b0 : (t139 == 0) = false := beq_eq_false_iff_ne.mpr c32
                              have c32b1 : (t139 != 0) = true := bne_iff_ne.mpr c32
                              obtain rfl := Option.some.inj H
                              go_wp2
                              go_ret
                              exact ⟨by first | rfl | (simp; done) | (simp [*]; done), by repeat (first | exact Drawn0.refl _ | apply Drawn0.step)⟩
                          · rw [if_neg c31] at H
                            have c31b0 : (t140 == 0) = false := beq_eq_false_iff_ne.mpr c31
                            have c31b1 : (t140 != 0) = true := bne_iff_ne.mpr c31
                            obtain rfl := Option.some.inj H
                            go_wp2
                            go_ret
                            exact ⟨by first | rfl | (simp; done) | (simp [*]; done), by repeat (first | exact Drawn0.refl _ | apply Drawn0.step)⟩
                        · rw [if_neg c30] at H
                          have c30b0 : (t138 == 4) = false := beq_eq_false_iff_ne.mpr c30
                          have c30b1 : (t138 != 4) = true := bne_iff_ne.mpr c30
                          obtain rfl := Option.some.inj H
                          go_wp2
                          go_ret
                          exact ⟨by first | rfl | (simp; done) | (simp [*]; done), by repeat (first | exact Drawn0.refl _ | apply Drawn0.step)⟩
                      · rw [if_neg c29] at H
                        have c29b0 : (a0 == (-9223372036854775808)) = false := beq_eq_false_iff_ne.mpr c29
                        have c29b1 : (a0 != (-9223372036854775808)) = true := bne_iff_ne.mpr c29
                        obtain rfl := Option.some.inj H
                        go_wp2
                        go_ret
                        exact ⟨by first | rfl | (simp; done) | (simp [*]; done), by repeat (first | exact Drawn0.refl _ | apply Drawn0.step)⟩
                    · rw [if_neg c28] at H
                      have c28b0 : (a1 == (-1)) = false := beq_eq_false_iff_ne.mpr c28
                      have c28b1 : (a1 != (-1)) = true := bne_iff_ne.mpr c28
                      obtain rfl := Option.some.inj H
                      go_wp2
                      go_ret
                      exact ⟨by first | rfl | (simp; done) | (simp [*]; done), by repeat (first | exact Drawn0.refl _ | apply Drawn0.step)⟩
                · rw [if_neg c25] at H
                  have c25b0 : (t138 == 3) = false := beq_eq_false_iff_ne.mpr c25
                  have c25b1 : (t138 != 3) = true := bne_iff_ne.mpr c25
                  by_cases c34 : a1 = (-1)
                  · rw [if_pos c34] at H
                    have c34b0 : (a1 == (-1)) = true := beq_iff_eq.mpr c34
                    have c34b1 : (a1 != (-1)) = false := bne_eq_false_iff_eq.mpr c34
                    clear c34
                    by_cases c35 : a0 = (-9223372036854775808)
                    · rw [if_pos c35] at H
                      have c35b0 : (a0 == (-9223372036854775808)) = true := beq_iff_eq.mpr c35
                      have c35b1 : (a0 != (-9223372036854775808)) = false := bne_eq_false_iff_eq.mpr c35
                      clear c35
                      by_cases c36 : t138 = 4
                      · rw [if_pos c36] at H
                        have c36b0 : (t138 == 4) = true := beq_iff_eq.mpr c36
                        have c36b1 : (t138 != 4) = false := bne_eq_false_iff_eq.mpr c36
                        clear c36
                        by_cases c37 : t140 = 0
                        · rw [if_pos c37] at H
                          have c37b0 : (t140 == 0) = true := beq_iff_eq.mpr c37
                          have c37b1 : (t140 != 0) = false := bne_eq_false_iff_eq.mpr c37
                          clear c37
                          by_cases c38 : t139 = 0
                          · rw [if_pos c38] at H
                            have c38b0 : (t139 == 0) = true := beq_iff_eq.mpr c38
                            have c38b1 : (t139 != 0) = false := bne_eq_false_iff_eq.mpr c38
                            clear c38
                            replace H := Option.bind_eq_some_iff.mp H
                            obtain ⟨t143, A390, H⟩ := H
                            replace H : (some t143) = some r := H
                            have A39 := Aside0.mk A390
                            clear A390
                            obtain rfl := Option.some.inj H
                            go_wp2_with (first | (go_at_call 31; (with_reducible refine (engramlaw10_known.calls kj20  t143 _ A39.out).mono ?_); rintro e w' ⟨rfl, ⟨nd, rfl⟩⟩))
                            go_ret
                            exact ⟨by first | rfl | (simp; done) | (simp [*]; done), by repeat (first | exact Drawn0.refl _ | apply Drawn0.step)⟩
                          · rw [if_neg c38] at H
                            have c38b0 : (t139 == 0) = false := beq_eq_false_iff_ne.mpr c38
                            have c38b1 : (t139 != 0) = true := bne_iff_ne.mpr c38
                            obtain rfl := Option.some.inj H
                            go_wp2
                            go_ret
                            exact ⟨by first | rfl | (simp; done) | (simp [*]; done), by repeat (first | exact Drawn0.refl _ | apply Drawn0.step)⟩
                        · rw [if_neg c37] at H
                          have c37b0 : (t140 == 0) = false := beq_eq_false_iff_ne.mpr c37
                          have c37b1 : (t140 != 0) = true := bne_iff_ne.mpr c37
                          obtain rfl := Option.some.inj H
                          go_wp2
                          go_ret
                          exact ⟨by first | rfl | (simp; done) | (simp [*]; done), by repeat (first | exact Drawn0.refl _ | apply Drawn0.step)⟩
                      · rw [if_neg c36] at H
                        have c36b0 : (t138 == 4) = false := beq_eq_false_iff_ne.mpr c36
                        have c36b1 : (t138 != 4) = true := bne_iff_ne.mpr c36
                        obtain rfl := Option.some.inj H
                        go_wp2
                        go_ret
                        exact ⟨by first | rfl | (simp; done) | (simp [*]; done), by repeat (first | exact Drawn0.refl _ | apply Drawn0.step)⟩
                    · rw [if_neg c35] at H
                      have c35b0 : (a0 == (-9223372036854775808)) = false := beq_eq_false_iff_ne.mpr c35
                      have c35b1 : (a0 != (-9223372036854775808)) = true := bne_iff_ne.mpr c35
                      obtain rfl := Option.some.inj H
                      go_wp2
                      go_ret
                      exact ⟨by first | rfl | (simp; done) | (simp [*]; done), by repeat (first | exact Drawn0.refl _ | apply Drawn0.step)⟩
                  · rw [if_neg c34] at H
                    have c34b0 : (a1 == (-1)) = false := beq_eq_false_iff_ne.mpr c34
                    have c34b1 : (a1 != (-1)) = true := bne_iff_ne.mpr c34
                    obtain rfl := Option.some.inj H
                    go_wp2
                    go_ret
                    exact ⟨by first | rfl | (simp; done) | (simp [*]; done), by repeat (first | exact Drawn0.refl _ | apply Drawn0.step)⟩
              · rw [if_neg c24] at H
                have c24b0 : (a1 == 0) = false := beq_eq_false_iff_ne.mpr c24
                have c24b1 : (a1 != 0) = true := bne_iff_ne.mpr c24
                by_cases c40 : a1 = (-1)
                · rw [if_pos c40] at H
                  have c40b0 : (a1 == (-1)) = true := beq_iff_eq.mpr c40
                  have c40b1 : (a1 != (-1)) = false := bne_eq_false_iff_eq.mpr c40
                  clear c40
                  by_cases c41 : a0 = (-9223372036854775808)
                  · rw [if_pos c41] at H
                    have c41b0 : (a0 == (-9223372036854775808)) = true := beq_iff_eq.mpr c41
                    have c41b1 : (a0 != (-9223372036854775808)) = false := bne_eq_false_iff_eq.mpr c41
                    clear c41
                    by_cases c42 : t138 = 4
                    · rw [if_pos c42] at H
                      have c42b0 : (t138 == 4) = true := beq_iff_eq.mpr c42
                      have c42b1 : (t138 != 4) = false := bne_eq_false_iff_eq.mpr c42
                      clear c42
                      by_cases c43 : t140 = 0
                      · rw [if_pos c43] at H
                        have c43b0 : (t140 == 0) = true := beq_iff_eq.mpr c43
                        have c43b1 : (t140 != 0) = false := bne_eq_false_iff_eq.mpr c43
                        clear c43
                        by_cases c44 : t139 = 0
                        · rw [if_pos c44] at H
                          have c44b0 : (t139 == 0) = true := beq_iff_eq.mpr c44
                          have c44b1 : (t139 != 0) = false := bne_eq_false_iff_eq.mpr c44
                          clear c44
                          replace H := Option.bind_eq_some_iff.mp H
                          obtain ⟨t144, A450, H⟩ := H
                          replace H : (some t144) = some r := H
                          have A45 := Aside0.mk A450
                          clear A450
                          obtain rfl := Option.some.inj H
                          go_wp2_with (first | (go_at_call 31; (with_reducible refine (engramlaw10_known.calls kj20  t144 _ A45.out).mono ?_); rintro e w' ⟨rfl, ⟨nd, rfl⟩⟩))
                          go_ret
                          exact ⟨by first | rfl | (simp; done) | (simp [*]; done), by repeat (first | exact Drawn0.refl _ | apply Drawn0.step)⟩
                        · rw [if_neg c44] at H
                          have c44b0 : (t139 == 0) = false := beq_eq_false_iff_ne.mpr c44
                          have c44b1 : (t139 != 0) = true := bne_iff_ne.mpr c44
                          obtain rfl := Option.some.inj H
                          go_wp2
                          go_ret
                          exact ⟨by first | rfl | (simp; done) | (simp [*]; done), by repeat (first | exact Drawn0.refl _ | apply Drawn0.step)⟩
                      · rw [if_neg c43] at H
                        have c43b0 : (t140 == 0) = false := beq_eq_false_iff_ne.mpr c43
                        have c43b1 : (t140 != 0) = true := bne_iff_ne.mpr c43
                        obtain rfl := Option.some.inj H
                        go_wp2
                        go_ret
                        exact ⟨by first | rfl | (simp; done) | (simp [*]; done), by repeat (first | exact Drawn0.refl _ | apply Drawn0.step)⟩
                    · rw [if_neg c42] at H
                      have c42b0 : (t138 == 4) = false := beq_eq_false_iff_ne.mpr c42
                      have c42b1 : (t138 != 4) = true := bne_iff_ne.mpr c42
                      obtain rfl := Option.some.inj H
                      go_wp2
                      go_ret
                      exact ⟨by first | rfl | (simp; done) | (simp [*]; done), by repeat (first | exact Drawn0.refl _ | apply Drawn0.step)⟩
                  · rw [if_neg c41] at H
                    have c41b0 : (a0 == (-9223372036854775808)) = false := beq_eq_false_iff_ne.mpr c41
                    have c41b1 : (a0 != (-9223372036854775808)) = true := bne_iff_ne.mpr c41
                    obtain rfl := Option.some.inj H
                    go_wp2
                    go_ret
                    exact ⟨by first | rfl | (simp; done) | (simp [*]; done), by repeat (first | exact Drawn0.refl _ | apply Drawn0.step)⟩
                · rw [if_neg c40] at H
                  have c40b0 : (a1 == (-1)) = false := beq_eq_false_iff_ne.mpr c40
                  have c40b1 : (a1 != (-1)) = true := bne_iff_ne.mpr c40
                  obtain rfl := Option.some.inj H
                  go_wp2
                  go_ret
                  exact ⟨by first | rfl | (simp; done) | (simp [*]; done), by repeat (first | exact Drawn0.refl _ | apply Drawn0.step)⟩
            · replace c23 := Bool.eq_false_iff.mpr c23
              subst c23
              have H1 : (if (wrap64 ((wrap64 (t137 * a1)) + t139)) = a0 then ((engramlaw10_known.f kj20).bind fun t145 => (some t145)) else (some false)) = some r := by rw [if_neg (show ¬ (false = true) by decide)] at H; exact H
              clear H
              have H := H1
              clear H1
              by_cases c46 : (wrap64 ((wrap64 (t137 * a1)) + t139)) = a0
              · rw [if_pos c46] at H
                have c46b0 : ((wrap64 ((wrap64 (t137 * a1)) + t139)) == a0) = true := beq_iff_eq.mpr c46
                have c46b1 : ((wrap64 ((wrap64 (t137 * a1)) + t139)) != a0) = false := bne_eq_false_iff_eq.mpr c46
                clear c46
                replace H := Option.bind_eq_some_iff.mp H
                obtain ⟨t145, A470, H⟩ := H
                replace H : (some t145) = some r := H
                have A47 := Aside0.mk A470
                clear A470
                obtain rfl := Option.some.inj H
                go_wp2_with (first | (go_at_call 31; (with_reducible refine (engramlaw10_known.calls kj20  t145 _ A47.out).mono ?_); rintro e w' ⟨rfl, ⟨nd, rfl⟩⟩))
                go_ret
                exact ⟨by first | rfl | (simp; done) | (simp [*]; done), by repeat (first | exact Drawn0.refl _ | apply Drawn0.step)⟩
              · rw [if_neg c46] at H
                have c46b0 : ((wrap64 ((wrap64 (t137 * a1)) + t139)) == a0) = false := beq_eq_false_iff_ne.mpr c46
                have c46b1 : ((wrap64 ((wrap64 (t137 * a1)) + t139)) != a0) = true := bne_iff_ne.mpr c46
                obtain rfl := Option.some.inj H
                go_wp2
                go_ret
                exact ⟨by first | rfl | (simp; done) | (simp [*]; done), by repeat (first | exact Drawn0.refl _ | apply Drawn0.step)⟩

/-- THE ONE PURE STATEMENT of engramlaw10_WordPairs: yours. -/
def engramlaw10_WordPairs.Pure : Prop := ∀ (a0 : Int) (a1 : Int), (Lit.int .i64 a0).wf = true → (Lit.int .i64 a1).wf = true → ∃ k, engramlaw10_WordPairs.f k a0 a1 = some true
theorem engramlaw10_WordPairs.walk (P : engramlaw10_WordPairs.Pure) (a0 : Int) (a1 : Int) (w : World) (w0 : (Lit.int .i64 a0).wf = true) (w1 : (Lit.int .i64 a1).wf = true) :
    Calls Try.prog 13 #[.int .i64 a0, .int .i64 a1] w fun e w' => e = .returned (.bool true) ∧ Below w.heap.size w w' := by
  obtain ⟨k, h⟩ := P a0 a1 w0 w1
  refine (engramlaw10_WordPairs.calls k a0 a1 true w h).mono ?_
  rintro e w' ⟨rfl, hd⟩
  exact ⟨rfl, hd.below⟩

end Go.Proofs.Ytfigfdggieenbaa.PWordPairs
