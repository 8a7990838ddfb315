/- Law8b, WGuard, NestNumbers: what NestTells needs. -/
import Derived.Test.YtkkgfpdjlohojaaTnestTells11
set_option linter.unusedVariables false
set_option linter.unusedSimpArgs false
namespace Go.Proofs.Ytkkgfpdjlohojaa.Law8
open Go.RowKit Go.Proofs.YtkkgfpdjlohojaaW.PrintWords Go.Proofs.YtkkgfpdjlohojaaW.PrintLast Go.Proofs.YtkkgfpdjlohojaaW.PrintMore Go.Proofs.Ytkkgfpdjlohojaa.Kit
open Go.Proofs.Ytkkgfpdjlohojaa.NestP Go.Proofs.Ytkkgfpdjlohojaa.TokP Go.Proofs.Ytkkgfpdjlohojaa.Tok
section
variable {w0 W : World} {F : List HP}
set_option maxHeartbeats 1600000 in
set_option maxRecDepth 100000 in
theorem row_ {A : Option Addr} {n c : Nat} {xs : List Int} (hC : ∀ W', Sep w0 W' F → I64.C W' A n xs) (h : Sep w0 W F) :
    Calls Try.prog 8 #[.slice A n c] W fun e w' => ∃ v, e = .returned v ∧ ∃ l : List Tok, l.length ≤ 50 ∧ Sep w0 w' (RowT v l :: F) := by
  have hnm : n ≤ 9223372036854775807 := (hC W h).2.1
  have H0 : Aside0 (Sep w0 W (RowT (.slice none 0 0) [] :: F)) := ⟨h.nilRow (Kd.raw 3) 42⟩
  have HC := Aside0.mk hC
  clear h hC
  go_enter Try.func8, Try.ntmps8
  go_wp2_with fail
  go_loopg [3, 4] 50 (fun m v q wr => ∃ (i : Nat) (acc : List Tok), i + m = 50 ∧ q = .int .i64 (i : Int) ∧ acc.length = i ∧ Sep w0 wr (RowT v acc :: F))
  case atStart => exact ⟨0, [], rfl, rfl, rfl, H0.out⟩
  case round =>
    obtain ⟨i, acc, him, rfl, hal, hS⟩ := hrel
    obtain ⟨A3, c3, rfl⟩ := hS.rowN (n := acc.length) (by rw [List.length_map])
    rw [hal] at hS ⊢
    have AK := Aside0.mk him
    have HAL := Aside0.mk hal
    have B0 := Aside0.mk hS
    clear hal
    by_cases hi : i < n
    · have hij : (i : Int) < (n : Int) := by omega
      by_cases h50 : i < 50
      · have h50' : (i : Int) < 50 := by omega
        obtain ⟨ad, hA, hc⟩ := Kd.at_int (HC.out _ hS.tail) (i : Int) (by omega) (by omega)
        subst hA
        rw [Int.toNat_natCast] at hc
        obtain ⟨x, hx⟩ : ∃ x, rd xs (i : Int) = x := ⟨_, rfl⟩
        rw [hx] at hc
        have hin := Book.withinF_in (n := x) (lo := 0) (hi := 6) (by decide)
        obtain ⟨w, hw⟩ := Int.eq_ofNat_of_zero_le hin.1
        have hw6 : w < 7 := by omega
        have B1 := Aside0.mk (B0.out.litRow (enc := Value.int .i32) (h1 := fun _ => rfl) (e := 21) [63, 58, 59, 91, 93, 126, 43] (by decide))
        have f1 := (B1.out.rowCell (0 : Int) w hw6).1
        obtain ⟨s, hs⟩ : ∃ s, ([63, 58, 59, 91, 93, 126, 43] : List Int).getD w 0 = s := ⟨_, rfl⟩
        rw [hs] at f1
        obtain ⟨w1, hw1⟩ : ∃ y, wr.alloc (.cells #[Value.int .i32 63, .int .i32 58, .int .i32 59, .int .i32 91, .int .i32 93, .int .i32 126, .int .i32 43] 21) = y := ⟨_, rfl⟩
        have B2 : Aside0 (Sep w0 w1 (RowT (.slice A3 i c3) acc :: F)) := ⟨by rw [← hw1]; exact B1.out.tail⟩
        have f3 : w1.cell? ⟨wr.heap.size, w, none⟩ = some (.int .i32 s) := by rw [← hw1]; exact f1
        have L := Aside0.mk ((oneTok B2.out ⟨s, 0, 0⟩).at2)
        have HW := Aside0.mk hw
        have hwl : (w : Int) < 7 := by omega
        have hcA := cell_later (below_alloc (Below.refl _ _) (.cells #[Value.int .i32 63, .int .i32 58, .int .i32 59, .int .i32 91, .int .i32 93, .int .i32 126, .int .i32 43] 21)) hc
        rw [hw1] at hcA
        have HW1 := Aside0.mk hw1
        clear hS him hx hin hw hs f1 hc
        go_wp2_with (first
          | (go_at_call 17; go_loud (refine (Book.within_ _ _ _ _ (by decide) (by decide) (by decide)).mono ?_; rintro e w2 ⟨rfl, rfl⟩; rw [HW.out]))
          | (refine gate_builtin (b := .append) (xs := #[.tmp 15, .tmp 25]) rfl ?_; go_loud (refine L.out.appendRaw rfl (.tmp 15) (.tmp 25) 24 (.agg #[.int .i32 0, .int .i64 0, .int .i32 0]) 24 rfl Try.underlying24 infoTok rfl (by decide) (by decide) (some ⟨w1.heap.size, 0, none⟩) 1 1 rfl rfl (rowT_TC L.out.at2) (by rw [List.length_map]; have := HAL.out; simp; omega) ?_; intro v7 w7 hS7; have B7 := Aside0.mk hS7.at2.tail; clear hS7)))
        go_roundg (gk - 1)
        case measure => have := AK.out; omega
        case rel => exact ⟨i + 1, acc ++ [⟨s, 0, 0⟩], by have := AK.out; omega, by go_num, by rw [List.length_append]; have := HAL.out; simp; omega, by have h9 := B7.out; rw [← List.map_append] at h9; exact h9⟩
      · have h50' : ¬ (i : Int) < 50 := by omega
        clear hS him
        go_wp2_with fail
        go_ret
        exact ⟨_, by first | rfl | (simp; done), acc, by have := AK.out; have := HAL.out; omega, B0.out⟩
    · have hij : ¬ (i : Int) < (n : Int) := by omega
      clear hS him
      go_wp2_with fail
      go_ret
      exact ⟨_, by first | rfl | (simp; done), acc, by have := AK.out; have := HAL.out; omega, B0.out⟩
theorem tk1 : RefT.tokO ⟨#[91, 126, 93]⟩ = some [⟨91, 0, 0⟩, ⟨126, 0, 0⟩, ⟨93, 0, 0⟩] := by decide +kernel
theorem tk2 : RefT.tokO ⟨#[63, 58, 59]⟩ = some [⟨63, 0, 0⟩, ⟨58, 0, 0⟩, ⟨59, 0, 0⟩] := by decide +kernel
theorem tk3 : RefT.tokO ⟨#[126]⟩ = some [⟨126, 0, 0⟩] := by decide +kernel
theorem mt1 : matchN (sgn [⟨91, 0, 0⟩, ⟨126, 0, 0⟩, ⟨93, 0, 0⟩]) = some ⟨[-1, 3, 0], [], 1⟩ := by kernel_rfl
theorem mt2 : matchN (sgn [⟨63, 0, 0⟩, ⟨58, 0, 0⟩, ⟨59, 0, 0⟩]) = some ⟨[2, 2, -1], [], 1⟩ := by kernel_rfl
theorem mt3 : matchN (sgn [⟨126, 0, 0⟩]) = none := by kernel_rfl
theorem mt0 : matchN (sgn []) = some ⟨[], [], 0⟩ := by kernel_rfl
theorem nilT (W : World) : TC W none 0 [] := ⟨rfl, by decide, fun h => by cases h⟩
set_option maxHeartbeats 3200000 in
set_option maxRecDepth 100000 in
theorem known_ (h : Sep w0 W F) : Calls Try.prog 9 #[] W fun e w' => e = .returned (.bool true) ∧ Sep w0 w' F := by
  have H := Aside0.mk h
  clear h
  go_enter Try.func9, Try.ntmps9
  go_wp2_with fail
  refine (RefT.tokens_ H.out _).mono ?_
  intro e w1 hA
  rw [tk1] at hA
  obtain ⟨v1, rfl, hA⟩ := hA
  obtain ⟨A1, c1, rfl⟩ := hA.rowN (n := 3) rfl
  have H1 := Aside0.mk hA
  clear hA
  go_wp2_with fail
  refine (RefT.tokens_ H1.out _).mono ?_
  intro e w2 hA
  rw [tk2] at hA
  obtain ⟨v2, rfl, hA⟩ := hA
  obtain ⟨A2, c2, rfl⟩ := hA.rowN (n := 3) rfl
  have H2 := Aside0.mk hA
  clear hA
  go_wp2_with fail
  refine (RefT.tokens_ H2.out _).mono ?_
  intro e w3 hA
  rw [tk3] at hA
  obtain ⟨v3, rfl, hA⟩ := hA
  obtain ⟨A3, c3, rfl⟩ := hA.rowN (n := 1) rfl
  have H3 := Aside0.mk hA
  have K1 : Aside0 (∀ W', Sep w0 W' (RowT (.slice A3 1 c3) [⟨126, 0, 0⟩] :: RowT (.slice A2 3 c2) [⟨63, 0, 0⟩, ⟨58, 0, 0⟩, ⟨59, 0, 0⟩] :: RowT (.slice A1 3 c1) [⟨91, 0, 0⟩, ⟨126, 0, 0⟩, ⟨93, 0, 0⟩] :: F) → TC W' A1 3 [⟨91, 0, 0⟩, ⟨126, 0, 0⟩, ⟨93, 0, 0⟩]) := ⟨fun W' h => rowT_TC h.at3⟩
  have K2 : Aside0 (∀ W', Sep w0 W' (RowT (.slice A3 1 c3) [⟨126, 0, 0⟩] :: RowT (.slice A2 3 c2) [⟨63, 0, 0⟩, ⟨58, 0, 0⟩, ⟨59, 0, 0⟩] :: RowT (.slice A1 3 c1) [⟨91, 0, 0⟩, ⟨126, 0, 0⟩, ⟨93, 0, 0⟩] :: F) → TC W' A2 3 [⟨63, 0, 0⟩, ⟨58, 0, 0⟩, ⟨59, 0, 0⟩]) := ⟨fun W' h => rowT_TC h.at2⟩
  have K3 : Aside0 (∀ W', Sep w0 W' (RowT (.slice A3 1 c3) [⟨126, 0, 0⟩] :: RowT (.slice A2 3 c2) [⟨63, 0, 0⟩, ⟨58, 0, 0⟩, ⟨59, 0, 0⟩] :: RowT (.slice A1 3 c1) [⟨91, 0, 0⟩, ⟨126, 0, 0⟩, ⟨93, 0, 0⟩] :: F) → TC W' A3 1 [⟨126, 0, 0⟩]) := ⟨fun W' h => rowT_TC h⟩
  obtain ⟨FF, hFF⟩ : ∃ FF, (RowT (.slice A3 1 c3) [⟨126, 0, 0⟩] :: RowT (.slice A2 3 c2) [⟨63, 0, 0⟩, ⟨58, 0, 0⟩, ⟨59, 0, 0⟩] :: RowT (.slice A1 3 c1) [⟨91, 0, 0⟩, ⟨126, 0, 0⟩, ⟨93, 0, 0⟩] :: F) = FF := ⟨_, rfl⟩
  have KF : Aside0 (∀ W', Sep w0 W' FF → Sep w0 W' F) := ⟨fun W' h => by rw [← hFF] at h; exact h.tail.tail.tail⟩
  rw [hFF] at H3 K1 K2 K3
  clear hA hFF
  go_wp2_with fail
  refine (Nest.of_ K1.out H3.out (by decide)).mono ?_
  intro e w4 hA
  rw [mt1] at hA
  obtain ⟨v4, rfl, hA⟩ := hA
  obtain ⟨A4, c4, rfl⟩ := hA.rowN (n := 3) rfl
  have H4 := Aside0.mk hA
  clear hA
  go_wp2_with fail
  refine (Nest.of_ (fun W' h => K2.out W' h.tail) H4.out (by decide)).mono ?_
  intro e w5 hA
  rw [mt2] at hA
  obtain ⟨v5, rfl, hA⟩ := hA
  obtain ⟨A5, c5, rfl⟩ := hA.rowN (n := 3) rfl
  have H5 := Aside0.mk hA
  clear hA
  go_wp2_with fail
  refine (Nest.of_ (fun W' h => K3.out W' h.tail.tail) H5.out (by decide)).mono ?_
  intro e w6 hA
  rw [mt3] at hA
  obtain ⟨rfl, hA⟩ := hA
  have H6 := Aside0.mk hA
  have L6 := Aside0.mk (hA.litRow (enc := Value.int .i64) (h1 := fun _ => rfl) (e := 3) [-1, 3, 0] (by decide))
  clear hA
  go_wp2_with fail
  refine (Book.sameI_ (xs := [-1, 3, 0]) (ys := [-1, 3, 0]) L6.out.at3.rowC' L6.out.rowC').mono ?_
  rintro e w7 ⟨rfl, hb⟩
  have H7 := Aside0.mk (L6.out.tail.below hb)
  have L7 := Aside0.mk (H7.out.litRow (enc := Value.int .i64) (h1 := fun _ => rfl) (e := 3) [2, 2, -1] (by decide))
  rw [decide_eq_true (rfl : ([-1, 3, 0] : List Int) = [-1, 3, 0])]
  clear hb
  go_wp2_with fail
  refine (Book.sameI_ (xs := [2, 2, -1]) (ys := [2, 2, -1]) L7.out.at2.rowC' L7.out.rowC').mono ?_
  rintro e w8 ⟨rfl, hb⟩
  have H8 := Aside0.mk (L7.out.tail.tail.tail.below hb)
  rw [decide_eq_true (rfl : ([2, 2, -1] : List Int) = [2, 2, -1])]
  clear hb
  go_wp2_with fail
  refine (Nest.deep_ K1.out H8.out (by decide)).mono ?_
  intro e w9 hA
  rw [mt1] at hA
  obtain ⟨rfl, hA⟩ := hA
  have H9 := Aside0.mk hA
  clear hA
  go_wp2_with fail
  refine (Nest.deep_ K3.out H9.out (by decide)).mono ?_
  intro e w10 hA
  rw [mt3] at hA
  obtain ⟨rfl, hA⟩ := hA
  have H10 := Aside0.mk hA
  clear hA
  go_wp2_with fail
  refine (Nest.deep_ (l := []) (fun W' _ => nilT W') H10.out (by decide)).mono ?_
  intro e w11 hA
  rw [mt0] at hA
  obtain ⟨rfl, hA⟩ := hA
  have H11 := Aside0.mk (KF.out _ hA)
  clear hA
  go_wp2_with fail
  go_ret
  exact ⟨by first | rfl | (simp; done), H11.out⟩
end
end Go.Proofs.Ytkkgfpdjlohojaa.Law8
namespace Go.Proofs.YtkkgfpdjlohojaaW.PrintWords
end Go.Proofs.YtkkgfpdjlohojaaW.PrintWords
namespace Go.Proofs.Ytkkgfpdjlohojaa.Law8
open Go.RowKit Go.Proofs.YtkkgfpdjlohojaaW.PrintWords Go.Proofs.YtkkgfpdjlohojaaW.PrintLast Go.Proofs.YtkkgfpdjlohojaaW.PrintMore Go.Proofs.Ytkkgfpdjlohojaa.Kit
open Go.Proofs.Ytkkgfpdjlohojaa.NestP Go.Proofs.Ytkkgfpdjlohojaa.TokP Go.Proofs.Ytkkgfpdjlohojaa.Tok
open Nest (infoInt)
theorem sameQ_ {w0 W : World} {F : List HP} {A : Option Addr} {n c : Nat} {l : List Tok} (h : Sep w0 W (RowT (.slice A n c) l :: F)) (hn : n ≤ 1000000) :
    Calls Try.prog 7 #[.slice A n c] W fun e w' => e = .returned (.bool true) ∧ Sep w0 w' (RowT (.slice A n c) l :: F) := same_ (fun W' h' => rowT_TC h') h hn
end Go.Proofs.Ytkkgfpdjlohojaa.Law8
