/- engramlaw12: known, tells. -/
import Derived.Test.YtfpkhlhojjmgiaaReply7
import Derived.Test.YtfpkhlhojjmgiaaSameL
namespace Go.Proofs.Ytfpkhlhojjmgiaa.Reply
set_option linter.unusedVariables false
set_option linter.unusedSimpArgs false
open Go.RowKit Go.Proofs.YtfpkhlhojjmgiaaW.PrintWords Go.Proofs.YtfpkhlhojjmgiaaW.PrintLast Go.Proofs.YtfpkhlhojjmgiaaW.PrintMore Go.Proofs.Ytfpkhlhojjmgiaa.Kit
theorem r_ab : runesF ⟨#[97, 98]⟩ = 2 := by kernel_rfl
theorem r_x : runesF ⟨#[120]⟩ = 1 := by kernel_rfl
abbrev vInt (n : Int) : OV := ⟨.iface 3 (.int .i64 n), rfl⟩
abbrev vInt64 (n : Int) : OV := ⟨.iface 2 (.int .i64 n), rfl⟩
abbrev vBool (b : Bool) : OV := ⟨.iface 4 (.bool b), rfl⟩
abbrev vStr (s : ByteArray) : OV := ⟨.iface 9 (.string s), rfl⟩
abbrev vNil : OV := ⟨.nilIface, rfl⟩
theorem ask_at1 {W : World} {A : Option Addr} {n : Nat} {l : List (Int × Int)} (h : KAk.C W A n l) {i : Nat} (hi : i < n) :
    ∃ (hx : i < l.length) (a : Addr), A = some a ∧ W.cell? (a.add (i * 2)) = some (.int .i32 (l[i]).1) ∧ W.cell? ⟨(a.add (i * 2)).block, (a.add (i * 2)).off + 1, none⟩ = some (.int .i64 (l[i]).2) := by
  obtain ⟨hx, a, cs, e, ⟨d0, d1, e1, h0, h1⟩, q0, q1⟩ := elem_ h hi
  have h0 : d0 = [.int .i32 (l[i]).1] := h0
  have h1 : d1 = [.int .i64 (l[i]).2] := h1
  subst h0 h1
  exact ⟨hx, a, e, q0 _ (by rw [e1]; rfl), q1 1 _ (by decide) (by rw [e1]; rfl)⟩
set_option maxHeartbeats 3200000 in
set_option maxRecDepth 100000 in
theorem known_ (w : World) : Calls Try.prog 27 #[] w fun e w' => e = .returned (.bool true) ∧ Below w.heap.size w w' := by
  go_enter Try.func27, Try.ntmps27
  go_wp2_with fail
  refine (of_string ⟨#[97, 98]⟩ w).mono ?_
  rintro e w1 ⟨rfl, hb1⟩
  rw [r_ab]
  have A1 := Aside0.mk ((Sep.start w).below hb1)
  clear hb1
  go_wp2_with fail
  refine (of_nil w1).mono ?_
  rintro e w2 ⟨rfl, hb2⟩
  have A2 := A1.out.below hb2
  have L2 := Aside0.mk (A2.litRow (enc := fun x : OV => x.1) (h1 := fun x => x.2) (e := 20) [vInt 1, vBool true, vStr ⟨#[120]⟩] (by simp))
  clear hb2 A2
  go_wp2_with fail
  refine (all_ (cs := [vInt 1, vBool true, vStr ⟨#[120]⟩]) (rs := [some 1, some 1, some (runesF ⟨#[120]⟩)]) L2.out.rowC' (.cons (of_int 1) (.cons (of_bool true) (.cons (of_string _) .nil))) (by decide)).mono ?_
  rintro e w3 ⟨v3, rfl, hS3⟩
  rw [show allF [some 1, some 1, some (runesF ⟨#[120]⟩)] = some [1, 1, 1] by rw [r_x]; rfl] at hS3 ⊢
  obtain ⟨A3, c3, rfl⟩ := hS3.rowN (n := 3) rfl
  have B3 := L2.out.tail.lift1 hS3
  have L3 := Aside0.mk (B3.litRow (enc := fun x : OV => x.1) (h1 := fun x => x.2) (e := 20) [vInt 1, ⟨.iface 83 (.float .f64 4609434218613702656), rfl⟩] (by simp))
  clear hS3 B3
  go_wp2_with fail
  refine (all_ (cs := [vInt 1, ⟨.iface 83 (.float .f64 4609434218613702656), rfl⟩]) (rs := [some 1, none]) L3.out.rowC' (.cons (of_int 1) (.cons (of_type (by decide)) .nil)) (by decide)).mono ?_
  rintro e w4 ⟨v4, rfl, hS4⟩
  rw [show allF [some 1, none] = none from rfl] at hS4 ⊢
  have B4 := (L3.out.tail.lift1 hS4).tail
  have L4 := Aside0.mk (B4.litRow (enc := fun x : OV => x.1) (h1 := fun x => x.2) (e := 20) [vInt 7, vNil] (by simp))
  clear hS4 B4
  go_wp2_with fail
  refine (new_ (cs := [vInt 7, vNil]) (os := [some 7, none]) L4.out.rowC' (Nat.le_refl _) (.cons (of_int 7) (.cons of_nil .nil)) (by decide)).mono ?_
  rintro e w5 ⟨g, rfl, hS5⟩
  have B5 : Aside0 (Sep w w5 [RowR g [(7, true), (0, false)] [], Row L64 2 (.slice A3 3 c3) [1, 1, 1]]) := ⟨L4.out.tail.lift1 hS5⟩
  clear hS5
  go_wp2_with fail
  refine (ask_ B5.out 113 1 (by decide)).mono ?_
  rintro e w6 ⟨rfl, hS6⟩
  have B6 : Aside0 (Sep w w6 [RowR g [(0, false)] [(113, 1)], Row L64 2 (.slice A3 3 c3) [1, 1, 1]]) := ⟨hS6⟩
  rw [show headF [(7, true), (0, false)] = (7, true) from rfl]
  clear hS6
  go_wp2_with fail
  refine (ask_ B6.out 114 2 (by decide)).mono ?_
  rintro e w7 ⟨rfl, hS7⟩
  have B7 : Aside0 (Sep w w7 [RowR g [] [(113, 1), (114, 2)], Row L64 2 (.slice A3 3 c3) [1, 1, 1]]) := ⟨hS7⟩
  rw [show headF [(0, false)] = (0, false) from rfl]
  clear hS7
  go_wp2_with fail
  refine (ask_ B7.out 113 3 (by decide)).mono ?_
  rintro e w8 ⟨rfl, hS8⟩
  have B8 : Aside0 (Sep w w8 [RowR g [] [(113, 1), (114, 2), (113, 3)], Row L64 2 (.slice A3 3 c3) [1, 1, 1]]) := ⟨hS8⟩
  clear hS8
  rw [show headF [] = (0, true) from rfl]
  have L8 := Aside0.mk (B8.out.litRow (enc := Value.int .i64) (h1 := fun _ => rfl) (e := 2) [1, 1, 1] (by decide))
  go_wp2_with fail
  refine (Book.sameL_ (xs := [1, 1, 1]) (ys := [1, 1, 1]) L8.out.at3.rowC' L8.out.rowC').mono ?_
  rintro e w9 ⟨rfl, hb9⟩
  have B9 := Aside0.mk (L8.out.below hb9).tail
  clear hb9
  rw [show decide ([(1 : Int), 1, 1] = [1, 1, 1]) = true from rfl]
  go_wp2_with fail
  refine (must_ (r := none) (of_type (T := 83) (by decide)) _).mono ?_
  rintro e w10 ⟨rfl, hb10⟩
  have B10 := Aside0.mk (B9.out.below hb10)
  clear hb10
  go_wp2_with fail
  refine (asks_ B10.out (by decide)).mono ?_
  rintro e w11 ⟨v11, rfl, hS11⟩
  obtain ⟨A11, c11, rfl⟩ := hS11.rowFN (n := 3) rfl
  have B11 := Aside0.mk hS11.tail
  clear hS11
  go_wp2_with fail
  refine (asks_ B11.out (by decide)).mono ?_
  rintro e w12 ⟨v12, rfl, hS12⟩
  obtain ⟨A12, c12, rfl⟩ := hS12.rowFN (n := 3) rfl
  obtain ⟨hx, ad, rfl, z0, -⟩ := ask_at1 hS12.rowFC.2.2 (i := 1) (by decide)
  replace z0 : w12.cell? ⟨ad.block, ad.off + 2, none⟩ = some (.int .i32 114) := z0
  have B12 := Aside0.mk hS12
  clear hS12
  go_wp2_with fail
  go_ret
  exact ⟨by first | rfl | (simp; done), B12.out.toBelow⟩
end Go.Proofs.Ytfpkhlhojjmgiaa.Reply
