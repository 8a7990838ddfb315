/- NestNumbers: the walk. -/
import Derived.Test.YtkkgfpdjlohojaaLaw8b
import Derived.Test.YtkkgfpdjlohojaaWGuard
namespace Go.Proofs.Ytkkgfpdjlohojaa.Law8
set_option linter.unusedVariables false
set_option linter.unusedSimpArgs false
open Go.RowKit Go.Proofs.YtkkgfpdjlohojaaW.PrintWords Go.Proofs.YtkkgfpdjlohojaaW.PrintLast Go.Proofs.YtkkgfpdjlohojaaW.PrintMore Go.Proofs.Ytkkgfpdjlohojaa.Kit
open Go.Proofs.Ytkkgfpdjlohojaa.NestP Go.Proofs.Ytkkgfpdjlohojaa.TokP Go.Proofs.Ytkkgfpdjlohojaa.Tok
open Nest (infoInt)
theorem rowQ_ {w0 W : World} {F : List HP} {A : Option Addr} {n c : Nat} {zs : List Int} (h : Sep w0 W (Row I64 3 (.slice A n c) zs :: F)) :
    Calls Try.prog 8 #[.slice A n c] W fun e w' => ∃ v, e = .returned v ∧ ∃ l : List Tok, l.length ≤ 50 ∧ Sep w0 w' (RowT v l :: Row I64 3 (.slice A n c) zs :: F) := row_ (fun W' h' => h'.rowC') h
theorem sameQ_ {w0 W : World} {F : List HP} {A : Option Addr} {n c : Nat} {l : List Tok} (h : Sep w0 W (RowT (.slice A n c) l :: F)) (hn : n ≤ 1000000) :
    Calls Try.prog 7 #[.slice A n c] W fun e w' => e = .returned (.bool true) ∧ Sep w0 w' (RowT (.slice A n c) l :: F) := same_ (fun W' h' => rowT_TC h') h hn
set_option maxHeartbeats 6400000 in
set_option maxRecDepth 100000 in
theorem nestNumbers_ (w : World) : Calls Try.prog 3 #[] w fun e w' => e = .returned (.bool true) ∧ Below w.heap.size w w' := by
  have H0 := Aside0.mk (Sep.start w)
  go_enter Try.func3, Try.ntmps3
  go_wp2_with fail
  go_loopg [1] 117649 (fun m q wr => ∃ i : Nat, i + m = 117649 ∧ q = .int .i64 (i : Int) ∧ Sep w wr [])
  case atStart => exact ⟨0, rfl, rfl, H0.out⟩
  case round =>
    obtain ⟨i, him, rfl, hS⟩ := hrel
    obtain ⟨G, rfl⟩ : ∃ G, G = gk := ⟨_, rfl⟩
    have AK := Aside0.mk him
    have B0 := Aside0.mk hS
    clear hS him
    by_cases hi : i < 117649
    · have hij : (i : Int) < 117649 := by omega
      go_wp2_with fail
      go_loopg [2, 3] i (fun m v q wx => ∃ (k : Nat) (xs : List Int), k = m ∧ q = .int .i64 (k : Int) ∧ xs.length + k ≤ i ∧ Sep w wx [Row I64 3 v xs])
      case atStart => exact ⟨i, [], rfl, rfl, by simp, B0.out.nilRow I64 3⟩
      case round =>
        obtain ⟨k, xs, rfl, rfl, hxl, hS⟩ := hrel
        have HX := Aside0.mk hxl
        have B1 := Aside0.mk hS
        by_cases hk : 0 < k
        · have hd : decide (0 < (k : Int)) = true := decide_eq_true (by omega)
          have hq : wrap64 ((k : Int) / 7) = ((k / 7 : Nat) : Int) := by rw [IntWalk.wrap64_in _ (by omega)]; omega
          have L := Aside0.mk (hS.litRow (enc := Value.int .i64) (h1 := fun _ => rfl) (e := 3) [(k : Int) % 7] (by simp)).at2
          clear hS hxl
          go_wp2_with (first | (refine gate_builtin (b := .append) (xs := #[.tmp 18, .tmp 21]) rfl ?_; go_loud (refine L.out.appendRow rfl (.tmp 18) (.tmp 21) 22 (.int .i64 0) 8 rfl Try.underlying22 infoInt rfl (by decide) (some ⟨wr.heap.size, 0, none⟩) 1 1 rfl rfl L.out.at2.rowC.2.2 (by have := HX.out; simp; omega) ?_; intro v7 w7 hS7; have B7 := Aside0.mk hS7.drop2; clear hS7)))
          go_roundg (k / 7)
          case measure => omega
          case rel => exact ⟨k / 7, xs ++ [(k : Int) % 7], rfl, by rw [hq], by rw [List.length_append]; have := HX.out; simp; omega, B7.out⟩
        · have hk0 : k = 0 := by omega
          subst hk0
          obtain ⟨A2, c2, rfl⟩ := hS.rowV
          clear hS hxl hk
          go_wp2_with fail
          refine (rowQ_ B1.out).mono ?_
          rintro e w2 ⟨v, rfl, l, hl, hS2⟩
          obtain ⟨A3, c3, rfl⟩ := hS2.rowN (n := l.length) (by rw [List.length_map])
          have B2 := Aside0.mk hS2
          have HLL := Aside0.mk hl
          clear hS2 hl
          go_wp2_with fail
          refine (sameQ_ B2.out (by have := HLL.out; omega)).mono ?_
          rintro e w3 ⟨rfl, hS3⟩
          have B3 := Aside0.mk hS3.tail.tail
          clear hS3
          go_wp2_with fail
          go_roundg (G - 1)
          case measure => have := AK.out; omega
          case rel => exact ⟨i + 1, by have := AK.out; omega, by go_num, B3.out⟩
    · have hin : ¬ (i : Int) < 117649 := by omega
      have L0 := Aside0.mk (B0.out.litRow (enc := Value.int .i64) (h1 := fun _ => rfl) (e := 3) [15, 16, 17] (by decide))
      go_wp2_with fail
      obtain ⟨w1, hw1⟩ : ∃ x, wr.alloc (.cells #[Value.int .i64 15, .int .i64 16, .int .i64 17] 3) = x := ⟨_, rfl⟩
      obtain ⟨gl, hgl⟩ : ∃ g, wr.heap.size = g := ⟨_, rfl⟩
      have L1 : Aside0 (Sep w w1 [Row I64 3 (.slice (some ⟨gl, 0, none⟩) 3 3) [15, 16, 17]]) := ⟨by rw [← hw1, ← hgl]; exact L0.out⟩
      rw [hw1, hgl]
      clear hw1 hgl L0 hin hi
      go_loopg [29] 3 (fun m q wx => ∃ j : Nat, j + m = 3 ∧ q = .int .i64 (j : Int) ∧ Sep w wx [Row I64 3 (.slice (some ⟨gl, 0, none⟩) 3 3) [15, 16, 17]])
      case atStart => exact ⟨0, rfl, rfl, L1.out⟩
      case round =>
        obtain ⟨j, hjm, rfl, hS⟩ := hrel
        obtain ⟨G2, rfl⟩ : ∃ G, G = gk := ⟨_, rfl⟩
        have AJ := Aside0.mk hjm
        have B1 := Aside0.mk hS
        by_cases hj : j < 3
        · obtain ⟨f1, f2⟩ := hS.rowCell (0 : Int) j hj
          obtain ⟨N, hN, hN17⟩ : ∃ N : Nat, ([15, 16, 17] : List Int).getD j 0 = (N : Int) ∧ N ≤ 17 := by
            match j, hj with
            | 0, _ => exact ⟨15, rfl, by decide⟩
            | 1, _ => exact ⟨16, rfl, by decide⟩
            | 2, _ => exact ⟨17, rfl, by decide⟩
          rw [hN] at f1
          have HN := Aside0.mk hN17
          have hj3 : (j : Int) < 3 := by omega
          clear hS hjm f2 hN hN17
          go_wp2_with fail
          go_loopg [6, 7, 8] N (fun m u v q wy => ∃ (i : Nat) (xs ys : List Int), i + m = N ∧ q = .int .i64 (i : Int) ∧ xs.length ≤ i ∧ ys.length ≤ i ∧ Sep w wy [Row I64 3 u xs, Row I64 3 v ys, Row I64 3 (.slice (some ⟨gl, 0, none⟩) 3 3) [15, 16, 17]])
          case atStart => exact ⟨0, [], [], by omega, rfl, by simp, by simp, (B1.out.nilRow I64 3).nilRow I64 3⟩
          case round =>
            obtain ⟨i, xs, ys, him, rfl, hxl, hyl, hS⟩ := hrel
            obtain ⟨A6, c6, rfl⟩ := hS.rowV
            obtain ⟨A7, c7, rfl⟩ := hS.tail.rowV
            have AI := Aside0.mk him
            have HXY := Aside0.mk (And.intro hxl hyl)
            have B2 := Aside0.mk hS
            by_cases hiN : i < N
            · have hin : (i : Int) < (N : Int) := by omega
              have hN17 := HN.out
              have hm1 : wrap64 ((i : Int) % 2 * 3) = (i : Int) % 2 * 3 := IntWalk.wrap64_in _ (by omega)
              have hm2 : wrap64 ((i : Int) % 2 * 2) = (i : Int) % 2 * 2 := IntWalk.wrap64_in _ (by omega)
              have hm3 : wrap64 (2 + (i : Int) % 2 * 2) = 2 + (i : Int) % 2 * 2 := IntWalk.wrap64_in _ (by omega)
              have L := Aside0.mk (hS.litRow (enc := Value.int .i64) (h1 := fun _ => rfl) (e := 3) [(i : Int) % 2 * 3] (by simp)).at2
              clear hS him hxl hyl
              go_wp2_with (first
                | (refine gate_builtin (b := .append) (xs := #[.tmp 38, .tmp 42]) rfl ?_; go_loud (refine L.out.appendRow rfl (.tmp 38) (.tmp 42) 22 (.int .i64 0) 8 rfl Try.underlying22 infoInt rfl (by decide) (some ⟨wr.heap.size, 0, none⟩) 1 1 rfl rfl L.out.at2.rowC.2.2 (by have := HXY.out; have := HN.out; have := AI.out; simp; omega) ?_; intro v7 w7 hS7; have L7 := Aside0.mk ((hS7.drop2).litRow (enc := Value.int .i64) (h1 := fun _ => rfl) (e := 3) [2 + (i : Int) % 2 * 2] (by simp)); obtain ⟨A8, c8, rfl⟩ := hS7.rowN (n := xs.length + 1) (by simp); clear hS7))
                | (refine gate_builtin (b := .append) (xs := #[.tmp 48, .tmp 49]) rfl ?_; go_loud (refine L7.out.appendRow rfl (.tmp 48) (.tmp 49) 22 (.int .i64 0) 8 rfl Try.underlying22 infoInt rfl (by decide) A7 ys.length c7 rfl rfl L7.out.at3.rowC' (by have := HXY.out; have := HN.out; have := AI.out; simp; omega) ?_; intro v8 w8 hS7; have L8 := Aside0.mk (hS7.at2); clear hS7)))
              go_roundg (gk - 1)
              case measure => have := AI.out; omega
              case rel => exact ⟨i + 1, xs ++ [(i : Int) % 2 * 3], [2 + (i : Int) % 2 * 2] ++ ys, by have := AI.out; omega, by go_num, by rw [List.length_append]; have := HXY.out; simp; omega, by rw [List.length_append]; have := HXY.out; simp; omega, L8.out.at3.tail⟩
            · have hin : ¬ (i : Int) < (N : Int) := by omega
              have hN17 := HN.out
              have L0 := Aside0.mk ((B2.out.litRow (enc := Value.int .i64) (h1 := fun _ => rfl) (e := 3) [] (by simp)))
              clear hS him hxl hyl
              go_wp2_with (first
                | (refine gate_builtin (b := .append) (xs := #[.tmp 51, .tmp 52]) rfl ?_; go_loud (refine L0.out.appendRow rfl (.tmp 51) (.tmp 52) 22 (.int .i64 0) 8 rfl Try.underlying22 infoInt rfl (by decide) A6 xs.length c6 rfl rfl L0.out.at2.rowC' (by have := HXY.out; have := HN.out; have := AI.out; simp; omega) ?_; intro v7 w7 hS7; have L7 := Aside0.mk hS7; clear hS7))
                | (refine gate_builtin (b := .append) (xs := #[.tmp 53, .tmp 54]) rfl ?_; go_loud (refine L7.out.appendRow rfl (.tmp 53) (.tmp 54) 22 (.int .i64 0) 8 rfl Try.underlying22 infoInt rfl (by decide) A7 ys.length c7 rfl rfl L7.out.at3.rowC' (by have := HXY.out; have := HN.out; have := AI.out; simp; omega) ?_; intro v8 w8 hS8; obtain ⟨m8, hm8⟩ : ∃ m8, ([] ++ xs ++ ys).length = m8 := ⟨_, rfl⟩; obtain ⟨A8, c8, rfl⟩ := hS8.rowN hm8; have L8 := Aside0.mk hS8; clear hS8 hm8)))
              refine (rowQ_ L8.out).mono ?_
              rintro e w2 ⟨v, rfl, l, hl, hS2⟩
              obtain ⟨A3, c3, rfl⟩ := hS2.rowN (n := l.length) (by rw [List.length_map])
              have B3 := Aside0.mk hS2
              have HLL := Aside0.mk hl
              clear hS2 hl
              go_wp2_with fail
              refine (sameQ_ B3.out (by have := HLL.out; omega)).mono ?_
              rintro e w3 ⟨rfl, hS3⟩
              have B4 := Aside0.mk hS3.tail.tail
              have L4 := Aside0.mk ((B4.out.litRow (enc := Value.int .i64) (h1 := fun _ => rfl) (e := 3) [] (by simp)))
              clear hS3
              go_wp2_with (first
                | (refine gate_builtin (b := .append) (xs := #[.tmp 60, .tmp 61]) rfl ?_; refine gate_guard (by rfl) ?_; go_loud (refine L4.out.appendRow rfl (.tmp 60) (.tmp 61) 22 (.int .i64 0) 8 rfl Try.underlying22 infoInt rfl (by decide) A6 xs.length c6 rfl rfl L4.out.at2.rowC' (by have := HXY.out; have := HN.out; have := AI.out; simp; omega) ?_; intro v7 w7 hS7; have L7 := Aside0.mk (Sep.at2 (Sep.litRow (enc := Value.int .i64) (h1 := fun _ => rfl) (e := 3) [5] hS7 (by decide))); clear hS7))
                | (refine gate_builtin (b := .append) (xs := #[.tmp 62, .tmp 63]) rfl ?_; refine gate_guard (by rfl) ?_; go_loud (refine L7.out.appendRow rfl (.tmp 62) (.tmp 63) 22 (.int .i64 0) 8 rfl Try.underlying22 infoInt rfl (by decide) (some ⟨w7.heap.size, 0, none⟩) 1 1 rfl rfl L7.out.at2.rowC' (by have := HXY.out; have := HN.out; have := AI.out; simp; omega) ?_; intro v9 w9 hS9; have L9 := Aside0.mk hS9.drop2; clear hS9))
                | (refine gate_builtin (b := .append) (xs := #[.tmp 64, .tmp 65]) rfl ?_; refine gate_guard (by rfl) ?_; go_loud (refine L9.out.appendRow rfl (.tmp 64) (.tmp 65) 22 (.int .i64 0) 8 rfl Try.underlying22 infoInt rfl (by decide) A7 ys.length c7 rfl rfl L9.out.at3.rowC' (by have := HXY.out; have := HN.out; have := AI.out; simp; omega) ?_; intro v10 w10 hS10; obtain ⟨m10, hm10⟩ : ∃ m10, ([] ++ xs ++ [5] ++ ys).length = m10 := ⟨_, rfl⟩; obtain ⟨A10, c10, rfl⟩ := hS10.rowN hm10; have L10 := Aside0.mk hS10; clear hS10 hm10)))
              refine (rowQ_ L10.out).mono ?_
              rintro e w11 ⟨v, rfl, l2, hl, hS2⟩
              obtain ⟨A11, c11, rfl⟩ := hS2.rowN (n := l2.length) (by rw [List.length_map])
              have B11 := Aside0.mk hS2
              have HL2 := Aside0.mk hl
              clear hS2 hl
              go_wp2_with fail
              refine (sameQ_ B11.out (by have := HL2.out; omega)).mono ?_
              rintro e w12 ⟨rfl, hS3⟩
              have B12 := Aside0.mk hS3.tail.tail
              clear hS3
              go_wp2_with fail
              refine (rowQ_ B12.out).mono ?_
              rintro e w13 ⟨v, rfl, l3, hl, hS2⟩
              obtain ⟨A13, c13, rfl⟩ := hS2.rowN (n := l3.length) (by rw [List.length_map])
              have B13 := Aside0.mk hS2
              have HL3 := Aside0.mk hl
              clear hS2 hl
              go_wp2_with fail
              refine (sameQ_ B13.out (by have := HL3.out; omega)).mono ?_
              rintro e w14 ⟨rfl, hS3⟩
              have B14 := Aside0.mk hS3.tail.tail.tail
              clear hS3
              go_wp2_with fail
              go_roundg (G2 - 1)
              case measure => have := AJ.out; omega
              case rel => exact ⟨j + 1, by have := AJ.out; omega, by go_num, B14.out⟩
        · have hj3 : ¬ (j : Int) < 3 := by omega
          clear hS hjm
          go_wp2_with fail
          refine (known_ B1.out).mono ?_
          rintro e w2 ⟨rfl, hS2⟩
          have B2 := Aside0.mk hS2
          clear hS2
          go_wp2_with fail
          go_ret
          exact ⟨by first | rfl | (simp; done), B2.out.toBelow⟩
end Go.Proofs.Ytkkgfpdjlohojaa.Law8
