/- DeltaTells: the walk. -/
import Derived.Test.YtkcinjimjehcnaaLaw4c
import Derived.Test.YtkcinjimjehcnaaCutsAny
import Derived.Test.YtkcinjimjehcnaaCuts
import Derived.Deep.Cut
import Derived.Deep.CutRange
namespace Go.Proofs.Ytkcinjimjehcnaa.Delta
set_option linter.unusedVariables false
set_option linter.unusedSimpArgs false
open Go.RowKit Go.Proofs.YtkcinjimjehcnaaW.PrintWords Go.Proofs.YtkcinjimjehcnaaW.PrintLast Go.Proofs.YtkcinjimjehcnaaW.PrintMore Go.Proofs.Ytkcinjimjehcnaa.Kit Go.Proofs.Ytkcinjimjehcnaa.Base Go.Proofs.Ytkcinjimjehcnaa.Plain Go.Proofs.Ytkcinjimjehcnaa.Tape
theorem xor8_in (x t : Int) : 0 ≤ Go.bits .xor .u8 x t ∧ Go.bits .xor .u8 x t ≤ 255 := by
  have e : ∀ z, 0 ≤ IntKind.u8.wrap z ∧ IntKind.u8.wrap z ≤ 255 := fun z => by rw [IntKind.wrap_u8]; omega
  show 0 ≤ IntKind.u8.wrap ((BitVec.ofInt 8 x ^^^ BitVec.ofInt 8 t).toNat : Int) ∧ _
  exact e _
set_option maxHeartbeats 3200000 in
set_option maxRecDepth 100000 in
theorem deltaTells_ {A A1 A3 : Option Addr} {n c n1 c1 n3 c3 : Nat} {L : List Int} {raw : List Chg} {b : List Int} {pages at_ turn : Int} {w : World} (ht : I64.C w A n L) (hr : KC.C w A1 n1 raw) (hq : ∀ c ∈ raw, Bytes c.2) (hb : U8.C w A3 n3 b) (hc3 : n3 ≤ c3) (hbb : Bytes b) (h0 : 0 ≤ turn) (h1 : turn ≤ 255) :
    Calls Try.prog 9 #[.slice A n c, .slice A1 n1 c1, .int .i64 pages, .slice A3 n3 c3, .int .i64 at_, .int .u8 turn] w fun e w' => e = .returned (.bool true) ∧ Below w.heap.size w w' := by
  have AT := Aside0.mk ht
  have AR := Aside0.mk (And.intro hr hq)
  have AB := Aside0.mk (And.intro hb (And.intro hc3 hbb))
  have HT := Aside0.mk (And.intro h0 h1)
  have hin := Book.withinF_in (n := pages) (lo := 1) (hi := 12) (by decide)
  obtain ⟨m, hm⟩ := Int.eq_ofNat_of_zero_le (show 0 ≤ Book.withinF pages 1 12 by omega)
  have hm2 : m ≤ 12 := by omega
  have HM := Aside0.mk hm
  clear ht hin hm hr hq hb hbb h0 h1
  go_enter Try.func9, Try.ntmps9
  go_wp2_with fail
  have A1' := Aside0.mk ((Sep.start w).newBlk 50 #[.slice A n c, .int .i64 0])
  refine (Book.within_ pages 1 12 _ (by decide) (by decide) (by decide)).mono ?_
  rintro e w1 ⟨rfl, rfl⟩
  rw [HM.out]
  go_wp2_with fail
  refine (changes_ AT.out (Int.le_refl 0) A1'.out m (by omega)).mono ?_
  rintro e w2 ⟨v2, l, p2, rfl, hg, -, hS2⟩
  obtain ⟨A2, c2, rfl⟩ := hS2.rowV
  have B2 := Aside0.mk hS2
  have HG := Aside0.mk hg
  have HR := Aside0.mk (good_right hg (by omega))
  have HL := Aside0.mk (right_len (good_right hg (by omega)))
  have HD := Aside0.mk (delta_bytes hg.2.1)
  clear hS2 hg A1'
  go_wp2_with fail
  refine (rdelta_ B2.out.rowC.2.2 (by have := HL.out; omega)).mono ?_
  rintro e w3 ⟨v3, rfl, hS3⟩
  obtain ⟨N, hN⟩ : ∃ N, (deltaF l).length = N := ⟨_, rfl⟩
  obtain ⟨Ax, cx, rfl⟩ := hS3.rowN hN
  have B3 := Aside0.mk (B2.out.lift1 hS3)
  have L3 := Aside0.mk ((B2.out.lift1 hS3).litRow (enc := Value.int .u8) (h1 := fun _ => rfl) (e := 5) [] (by decide))
  have AN := Aside0.mk hN
  have hN2 : 2 ≤ N ∧ N ≤ 10000 := by have := HL.out; omega
  clear hS3 B2 hN
  go_wp2_with (first | (refine gate_builtin (b := .append) (xs := #[.tmp 28, .tmp 29]) rfl ?_; go_loud (refine L3.out.appendRow rfl (.tmp 28) (.tmp 29) 22 (.int .u8 0) 1 rfl Try.underlying22 infoB rfl (by decide) Ax N cx rfl rfl L3.out.at2.rowC' (by have := AN.out; simp; omega) ?_; intro v4 w4 hS4; obtain ⟨g4, c4, rfl⟩ := hS4.rowFormN (n := N) (by have := AN.out; simpa using this) (by omega); have B4 := Aside0.mk hS4; clear hS4)))
  have hin2 := Book.withinF_in (n := at_) (lo := 0) (hi := (N : Int) - 1) (by omega)
  obtain ⟨j, hj⟩ := Int.eq_ofNat_of_zero_le hin2.1
  have hjN : j < N := by omega
  have AJ := Aside0.mk hj
  have hws : wrap64 ((N : Int) - 1) = (N : Int) - 1 := IntWalk.wrap64_in _ (by omega)
  clear hin2 hj
  refine (Book.within_ at_ 0 ((N : Int) - 1) _ (by decide) (by omega) (by omega)).mono ?_
  rintro e w5 ⟨rfl, rfl⟩
  rw [AJ.out]
  obtain ⟨f1, f2⟩ := B4.out.rowCell (0 : Int) j hjN
  rw [List.nil_append] at f1
  obtain ⟨x0, hx0⟩ : ∃ x0, (deltaF l).getD j 0 = x0 := ⟨_, rfl⟩
  rw [hx0] at f1
  have hxb : 0 ≤ x0 ∧ x0 ≤ 255 := by have := HD.out.at (j : Int); unfold rd at this; rw [Int.toNat_natCast, hx0] at this; exact this
  have hjl : (j : Int) < (N : Int) := by omega
  obtain ⟨y0, hy0⟩ : ∃ y0, Go.bits .xor .u8 x0 turn = y0 := ⟨_, rfl⟩
  have HY := Aside0.mk (xor8_in x0 turn)
  rw [hy0] at HY
  clear hx0 hxb
  go_upto_if 44 with fail
  have S5 := B4.out.putRow (enc := Value.int .u8) j y0
  rw [List.nil_append] at S5
  have HYB : Aside0 (Bytes ((deltaF l).set j y0)) := ⟨bytes_set HD.out HY.out.1 HY.out.2 j⟩
  obtain ⟨w5, hw5⟩ : ∃ w5, w4.setCell ⟨g4, j, none⟩ (.int .u8 y0) = w5 := ⟨_, rfl⟩
  rw [hw5] at S5 ⊢
  have B5 := Aside0.mk S5
  clear S5 hw5 f1 f2 hy0 hws hjl
  go_cut [3] from 18 to 105 (fun v wx => wx = w5 ∧ ∃ n' c' b', v = .slice A3 n' c' ∧ n' ≤ c' ∧ n' ≤ 300 ∧ U8.C w A3 n' b' ∧ Bytes b')
  case first =>
    by_cases h3 : 300 < n3
    · have h3' : 300 < (n3 : Int) := by omega
      have hc3' := AB.out.2.1
      obtain ⟨hcut, hT⟩ := take8 (A := A3) (c := c3) (b := 300) (K := 300) rfl AB.out.1.1 (by omega) AB.out.2.1
      have HT3 := Aside0.mk (hT _ AB.out.1)
      clear hT
      go_wp2_with fail
      go_meet
      case rel => exact ⟨rfl, 300, c3, _, rfl, by omega, Nat.le_refl _, HT3.out, AB.out.2.2.take 300⟩
    · have h3' : ¬ 300 < (n3 : Int) := by omega
      go_wp2_with fail
      go_meet
      case rel => exact ⟨rfl, n3, c3, b, rfl, AB.out.2.1, by omega, AB.out.1, AB.out.2.2⟩
  case rest =>
    obtain ⟨rfl, n4, c4', b', rfl, q1, q2, q3, q4⟩ := hcut
    have AB4 := Aside0.mk (And.intro q1 (And.intro q2 (And.intro q3 q4)))
    clear q1 q2 q3 q4
    have hwm : wrap64 ((m : Int) - 1) = (m : Int) - 1 := IntWalk.wrap64_in _ (by omega)
    have B6 := Aside0.mk (B5.out.perm (List.Perm.refl _))
    go_wp2_with fail
    refine (lsame_ B6.out.at3.rowC' (m : Int)).mono ?_
    rintro e w17 ⟨rfl, hb7⟩
    have B7 := Aside0.mk (B6.out.below hb7)
    clear hb7
    go_wp2_with fail
    refine (lsame_ B7.out.at3.rowC' ((m : Int) - 1)).mono ?_
    rintro e w18 ⟨rfl, hb8⟩
    have B8 := Aside0.mk (B7.out.below hb8)
    clear hb8
    go_wp2_with fail
    refine (lsame_ (Kd.C_below AR.out.1 B8.out.toBelow) pages).mono ?_
    rintro e w19 ⟨rfl, hb9⟩
    have B9 := Aside0.mk (B8.out.below hb9)
    clear hb9
    go_wp2_with fail
    refine (lreads_ B9.out.at2.rowC' B9.out.at2.rowC.2.1 HD.out (by omega) (m : Int)).mono ?_
    rintro e w20 ⟨rfl, hb10⟩
    have B10 := Aside0.mk (B9.out.below hb10)
    clear hb10
    go_wp2_with fail
    refine (lreads_ B10.out.at2.rowC' B10.out.at2.rowC.2.1 HD.out (by omega) ((m : Int) - 1)).mono ?_
    rintro e w21 ⟨rfl, hb11⟩
    have B11 := Aside0.mk (B10.out.below hb11)
    clear hb11
    go_wp2_with fail
    refine (lreads_ B11.out.rowC' B11.out.rowC.2.1 HYB.out (by omega) (m : Int)).mono ?_
    rintro e w22 ⟨rfl, hb12⟩
    have B12 := Aside0.mk (B11.out.below hb12)
    clear hb12
    go_wp2_with fail
    refine (lreads_ (Kd.C_below AB4.out.2.2.1 B12.out.toBelow) AB4.out.1 AB4.out.2.2.2 (by have := AB4.out.2.1; omega) (m : Int)).mono ?_
    rintro e w23 ⟨rfl, hb13⟩
    have B13 := Aside0.mk (B12.out.below hb13)
    clear hb13
    go_wp2_with fail
    refine (lreads_ (Kd.C_below AB4.out.2.2.1 B13.out.toBelow) AB4.out.1 AB4.out.2.2.2 (by have := AB4.out.2.1; omega) pages).mono ?_
    rintro e w24 ⟨rfl, hb14⟩
    have B14 := Aside0.mk (B13.out.below hb14)
    clear hb14
    go_wp2_with fail
    refine (need_ pages _).mono ?_
    rintro e wn ⟨rfl, rfl⟩
    go_wp2_with fail
    refine (rneed_ pages _).mono ?_
    rintro e wn ⟨rfl, rfl⟩
    go_wp2_with fail
    refine (same_ B14.out.at3.rowC' (Kd.C_below AR.out.1 B14.out.toBelow)).mono ?_
    rintro e w25 ⟨rfl, hb15⟩
    have B15 := Aside0.mk (B14.out.below hb15)
    clear hb15
    go_wp2_with fail
    refine (rsame_ B15.out.at3.rowC' (Kd.C_below AR.out.1 B15.out.toBelow) HG.out.2.1 AR.out.2).mono ?_
    rintro e w26 ⟨rfl, hb16⟩
    have B16 := Aside0.mk (B15.out.below hb16)
    clear hb16
    go_wp2_with fail
    refine (known_ _).mono ?_
    rintro e wz ⟨rfl, hbz⟩
    go_wp2_with fail
    go_ret
    exact ⟨by first | rfl | (simp; done), (B16.out.below hbz).toBelow⟩
end Go.Proofs.Ytkcinjimjehcnaa.Delta
