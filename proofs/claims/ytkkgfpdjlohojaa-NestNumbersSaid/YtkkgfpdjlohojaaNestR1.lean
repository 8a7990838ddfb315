/- engramref9: leaves. -/
import Derived.Test.YtkkgfpdjlohojaaNestP
import Derived.Test.YtkkgfpdjlohojaaTok
import Derived.Deep.LoopGhost
namespace Go.Proofs.Ytkkgfpdjlohojaa.NestR
set_option linter.unusedVariables false
set_option linter.unusedSimpArgs false
open Go.RowKit Go.Proofs.YtkkgfpdjlohojaaW.PrintWords Go.Proofs.YtkkgfpdjlohojaaW.PrintLast Go.Proofs.YtkkgfpdjlohojaaW.PrintMore Go.Proofs.Ytkkgfpdjlohojaa.Kit
open Go.Proofs.Ytkkgfpdjlohojaa.NestP Go.Proofs.Ytkkgfpdjlohojaa.TokP Go.Proofs.Ytkkgfpdjlohojaa.Tok
abbrev I64 : Kd Int := Kd.int .i64
theorem sgn_at {l : List Tok} {i : Nat} {t : Tok} (h : l[i]? = some t) : (sgn l).getD i 0 = t.sign := by
  unfold sgn
  rw [List.getD_eq_getElem?_getD, List.getElem?_map, h]
  rfl
set_option maxHeartbeats 1600000 in
set_option maxRecDepth 100000 in
theorem leaves_ {W : World} {A B : Option Addr} {n c c2 : Nat} {l : List Tok} {tt : List Int} (hT : TC W A n l) (hB : I64.C W B n tt) (at_ : Nat) (ha : at_ ≤ n) :
    Calls Try.prog 29 #[.slice A n c, .slice B n c2, .int .i64 (at_ : Int)] W fun e w' => e = .returned (.int .i64 (leavesF (sgn l) tt at_ (n - at_) at_)) ∧ W = w' := by
  have hnm : n ≤ 9223372036854775807 := hT.lt
  have HT := Aside0.mk hT
  have HB := Aside0.mk hB
  clear hT hB
  go_enter Try.func29, Try.ntmps29
  go_wp2_with fail
  go_loopg [7] (n - at_) (fun m q wr => ∃ i : Nat, q = .int .i64 (i : Int) ∧ i + m = n ∧ wr = W ∧ leavesF (sgn l) tt at_ (n - at_) at_ = leavesF (sgn l) tt at_ m i)
  case atStart => exact ⟨at_, rfl, by omega, rfl, rfl⟩
  case round =>
    obtain ⟨i, rfl, him, rfl, hl⟩ := hrel
    have AK := Aside0.mk him
    have HL := Aside0.mk hl
    by_cases hi : i < n
    · obtain ⟨ad, t, rfl, ht, d0, d1, d2⟩ := TC.at_ HT.out hi
      obtain ⟨ad2, hB2, hc⟩ := Kd.at_int HB.out (i : Int) (by omega) (by omega)
      subst hB2
      rw [Int.toNat_natCast] at hc
      obtain ⟨x, hx⟩ : ∃ x, rd tt (i : Int) = x := ⟨_, rfl⟩
      rw [hx] at hc
      have hxg : tt.getD i 0 = x := by rw [← hx]; unfold rd; rw [Int.toNat_natCast]
      obtain ⟨k, rfl⟩ : ∃ k, gk = k + 1 := ⟨gk - 1, by omega⟩
      have hst := sgn_at ht
      have hij : (i : Int) < (n : Int) := by omega
      have hw : wrap64 ((i : Int) + 1) = (i : Int) + 1 := IntWalk.wrap64_in _ (by omega)
      have HX := Aside0.mk hxg
      have HST := Aside0.mk hst
      obtain ⟨s, hs⟩ : ∃ s, t.sign = s := ⟨_, rfl⟩
      rw [hs] at d0 HST
      clear hl him ht hx hxg hst d1 d2 hs
      by_cases h93 : s = 93
      · subst h93
        by_cases hlt : x < (at_ : Int)
        · have hd : decide (x < (at_ : Int)) = true := decide_eq_true hlt
          have hr : leavesF (sgn l) tt at_ (k + 1) i = (i : Int) + 1 := by unfold leavesF; rw [if_pos ⟨HST.out, by rw [HX.out]; exact hlt⟩]
          have HR := Aside0.mk hr
          clear hr
          go_wp2_with fail
          go_ret
          exact ⟨by rw [HL.out, HR.out]; first | rfl | (simp; done), rfl⟩
        · have hd : decide (x < (at_ : Int)) = false := decide_eq_false hlt
          have hr : leavesF (sgn l) tt at_ (k + 1) i = leavesF (sgn l) tt at_ k (i + 1) := by rw [leavesF, if_neg (by rintro ⟨_, h⟩; rw [HX.out] at h; exact hlt h)]
          have HR := Aside0.mk hr
          clear hr
          go_wp2_with fail
          go_roundg k
          case measure => omega
          case rel => exact ⟨i + 1, by go_num, by have := AK.out; omega, rfl, by rw [HL.out, HR.out]⟩
      · have hr : leavesF (sgn l) tt at_ (k + 1) i = leavesF (sgn l) tt at_ k (i + 1) := by rw [leavesF, if_neg (by rintro ⟨h, _⟩; rw [HST.out] at h; exact h93 h)]
        have HR := Aside0.mk hr
        clear hr
        go_wp2_with fail
        go_roundg k
        case measure => omega
        case rel => exact ⟨i + 1, by go_num, by have := AK.out; omega, rfl, by rw [HL.out, HR.out]⟩
    · have hin : i = n := by omega
      obtain rfl : gk = 0 := by omega
      subst hin
      have hr : leavesF (sgn l) tt at_ 0 i = -1 := rfl
      have HR := Aside0.mk hr
      clear hr hl him
      go_wp2_with fail
      go_ret
      exact ⟨by rw [HL.out, HR.out]; first | rfl | (simp; done), rfl⟩
end Go.Proofs.Ytkkgfpdjlohojaa.NestR
