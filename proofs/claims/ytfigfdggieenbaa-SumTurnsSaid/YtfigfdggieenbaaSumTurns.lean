/- SumTurns: the law's walk. -/
import Derived.Test.YtfigfdggieenbaaSumBack
import Derived.Test.YtfigfdggieenbaaTurn1
import Derived.Test.YtfigfdggieenbaaWGuard
import Derived.Deep.Cut
import Derived.Deep.CutRange
namespace Go.Proofs.Ytfigfdggieenbaa.Sum
set_option linter.unusedVariables false
set_option linter.unusedSimpArgs false
open Go.RowKit Go.Proofs.YtfigfdggieenbaaW.PrintWords Go.Proofs.YtfigfdggieenbaaW.PrintLast Go.Proofs.YtfigfdggieenbaaW.PrintMore Go.Proofs.Ytfigfdggieenbaa.Kit Go.Proofs.Ytfigfdggieenbaa.Plain
theorem rd_getD (l : List Int) (j : Nat) : rd l (j : Int) = l.getD j 0 := by unfold rd; rw [Int.toNat_natCast]
set_option maxHeartbeats 3200000 in
set_option maxRecDepth 100000 in
theorem sumTurns_ {A0 A3 : Option Addr} {n0 c0 n3 c3 : Nat} {b more : List Int} {at_ t : Int} {w : World} (h0 : B8.C w A0 n0 b) (hc0 : n0 ≤ c0) (hb : Bytes b) (ht : 0 ≤ t ∧ t ≤ 255) (h3 : B8.C w A3 n3 more) (hl : n3 ≤ 140737488351232) :
    Calls Try.prog 10 #[.slice A0 n0 c0, .int .i64 at_, .int .u8 t, .slice A3 n3 c3] w fun e w' => e = .returned (.bool true) ∧ Below w.heap.size w w' := by
  have HR := Aside0.mk h0
  have HB := Aside0.mk hb
  have H3 := Aside0.mk h3
  have HC := Aside0.mk hc0
  have hn0 : n0 ≤ 9223372036854775807 := h0.2.1
  have hn3 : more.length = n3 := h3.1
  subst hn3
  clear h0 hb h3
  go_enter Try.func10, Try.ntmps10
  go_upto_if 16 with fail
  go_cut [0] from 14 to 18 (fun p wx => ∃ k xs, p = .slice A0 k c0 ∧ k ≤ 200 ∧ B8.C w A0 k xs ∧ Bytes xs ∧ wx = w)
  case first =>
    by_cases hq : 200 < n0
    · obtain ⟨hcut, hT⟩ := take8 (A := A0) (n := n0) (c := c0) (b := 200) (K := 200) (l := b) rfl HR.out.1 (by omega) hc0
      go_wp2_with fail
      go_meet
      case rel => exact ⟨200, b.take 200, rfl, by omega, hT _ HR.out, HB.out.take _, rfl⟩
    · go_wp2_with fail
      go_meet
      case rel => exact ⟨n0, b, rfl, by omega, HR.out, HB.out, rfl⟩
  case rest =>
    obtain ⟨k, xs, rfl, hk, hC, hX, rfl⟩ := hcut
    obtain rfl : xs.length = k := hC.1
    have HK := Aside0.mk hC
    have HX := Aside0.mk hX
    clear hC hX HR HB HC hc0 hn0
    by_cases hk0 : xs.length = 0
    · have hk1 : (xs.length : Int) = 0 := by omega
      go_wp2_with fail
      refine (known_ _).mono ?_
      rintro e w1 ⟨rfl, hb1⟩
      have A1 := Aside0.mk hb1
      clear hb1
      go_wp2_with fail
      go_ret
      exact ⟨by first | rfl | (simp; done), A1.out⟩
    · have hk1 : ¬ (xs.length : Int) = 0 := by omega
      have hkp : (0 : Int) < (xs.length : Int) := by omega
      have r1 : at_.tmod (xs.length : Int) < (xs.length : Int) := Int.tmod_lt_of_pos at_ hkp
      have r2 : -(xs.length : Int) < at_.tmod (xs.length : Int) := Int.lt_tmod_of_pos at_ hkp
      obtain ⟨j, hj⟩ : ∃ j : Nat, (at_.tmod (xs.length : Int) + (xs.length : Int)) % (xs.length : Int) = (j : Int) := ⟨((at_.tmod (xs.length : Int) + (xs.length : Int)) % (xs.length : Int)).toNat, by have := Int.emod_nonneg (at_.tmod (xs.length : Int) + (xs.length : Int)) hk1; omega⟩
      have hj2 : (at_.tmod (xs.length : Int) + (xs.length : Int)).tmod (xs.length : Int) = (j : Int) := by rw [Int.tmod_eq_emod_of_nonneg (by omega)]; exact hj
      have hjk : j < xs.length := by have := Int.emod_lt_of_pos (at_.tmod (xs.length : Int) + (xs.length : Int)) hkp; omega
      obtain ⟨x0, hx0⟩ : ∃ x0, xs.getD j 0 = x0 := ⟨_, rfl⟩
      have HX0 := Aside0.mk hx0
      have hx0b : 0 ≤ x0 ∧ x0 ≤ 255 := by have := HX.out.at (j : Int); rw [rd_getD, hx0] at this; exact this
      have hv := turned hx0b.1 hx0b.2 ht.1 ht.2
      obtain ⟨V, hV⟩ : ∃ V, Go.bits .xor .u8 x0 (Go.bits .or .u8 t 1) = V := ⟨_, rfl⟩
      have HV := Aside0.mk hV
      rw [hV] at hv
      have hne0 := sumF_turn xs j V hjk HX.out hv.1 hv.2.1 (by rw [rd_getD, hx0]; exact hv.2.2)
      have hne : (sumF (xs.set j V) != sumF xs) = true := by simpa using hne0
      have HNE := Aside0.mk hne
      have L0 := Aside0.mk ((Sep.start wc).litRow (enc := Value.int .u8) (h1 := fun _ => rfl) (e := 5) [] (by decide))
      clear hne0 hne hv hV hx0b hj
      go_wp2_with (first | (refine gate_builtin (b := .append) (xs := #[.tmp 33, .tmp 34]) rfl ?_; go_loud (refine L0.out.appendRow rfl (.tmp 33) (.tmp 34) 34 (.int .u8 0) 1 rfl Try.underlying34 infoB8 rfl (by decide) A0 xs.length c0 rfl rfl (Kd.C_alloc HK.out _) (by simp; omega) ?_; intro v1 w1 hS1; rw [List.nil_append] at hS1; obtain ⟨g1, cp1, rfl⟩ := hS1.rowForm (by omega); obtain ⟨f1, f2⟩ := hS1.rowCell (0 : Int) j hjk; rw [hx0] at f1; clear hx0; have A1 := Aside0.mk hS1; clear hS1)))
      have AP := Aside0.mk (A1.out.putRow (enc := Value.int .u8) j V)
      rw [HV.out]
      clear f1 f2 r1 r2 hj2
      refine (of_ (l := xs) (Kd.C_below HK.out AP.out.toBelow)).mono ?_
      rintro e w2 ⟨rfl, rfl⟩
      obtain ⟨W, hW⟩ : ∃ W, w1.setCell ⟨g1, j, none⟩ (.int .u8 V) = W := ⟨_, rfl⟩
      rw [hW] at AP ⊢
      clear hW A1
      go_wp2_with fail
      go_loopg [11, 48] more.length (fun k s p wr => ∃ i : Nat, p = .int .i64 (i : Int) ∧ i + k = more.length ∧ s = .int .u32 (sumF (xs ++ more.take i)) ∧ W = wr)
      case atStart => exact ⟨0, rfl, by omega, by rw [List.take_zero, List.append_nil], rfl⟩
      case round =>
        obtain ⟨i, rfl, hik, rfl, rfl⟩ := hrel
        have AK := Aside0.mk hik
        by_cases hi : i < more.length
        · obtain ⟨ad, hA, hc⟩ := Kd.at_int (Kd.C_below H3.out AP.out.toBelow) (i : Int) (by omega) (by omega)
          subst hA
          rw [Int.toNat_natCast] at hc
          have AT := Aside0.mk (take_snoc hi)
          generalize rd more (i : Int) = x at *
          clear hik
          go_wp2_with fail
          refine (step_ _ x _).mono ?_
          rintro e w' ⟨rfl, rfl⟩
          go_wp2_with fail
          go_roundg (gk - 1)
          case measure => have := AK.out; omega
          case rel => exact ⟨i + 1, by go_num, by have := AK.out; omega, by rw [AT.out, ← List.append_assoc, sumF_snoc], rfl⟩
        · have hin : i = more.length := by omega
          subst hin
          rw [List.take_length]
          clear hik AK
          have hne := HNE.out
          have hlx : (xs.set j V).length = xs.length := List.length_set ..
          have HLX := Aside0.mk hlx
          have L1 := Aside0.mk (AP.out.litRow (enc := Value.int .u8) (h1 := fun _ => rfl) (e := 5) [] (by decide))
          have HCX : Aside0 (B8.C W (some ⟨g1, 0, none⟩) xs.length (xs.set j V)) := ⟨by have := AP.out.rowC.2.2; rwa [hlx] at this⟩
          have HLM : Aside0 ((xs ++ more).length = xs.length + more.length) := ⟨List.length_append ..⟩
          clear hlx
          go_wp2_with fail
          refine (of_ (l := xs.set j V) HCX.out).mono ?_
          rintro e w2 ⟨rfl, rfl⟩
          go_wp2_with fail
          refine (of_ (l := xs) (Kd.C_below HK.out AP.out.toBelow)).mono ?_
          rintro e w2 ⟨rfl, rfl⟩
          go_wp2_with (first | (refine gate_builtin (b := .append) (xs := #[.tmp 62, .tmp 63]) rfl ?_; refine gate_guard (by rfl) ?_; go_loud (refine L1.out.appendRow rfl (.tmp 62) (.tmp 63) 34 (.int .u8 0) 1 rfl Try.underlying34 infoB8 rfl (by decide) A0 xs.length c0 rfl rfl (Kd.C_below HK.out L1.out.toBelow) (by simp; omega) ?_; intro v2 w2 hS2; rw [List.nil_append] at hS2; have A2 := Aside0.mk hS2; clear hS2)) | (refine gate_builtin (b := .append) (xs := #[.tmp 64, .tmp 65]) rfl ?_; refine gate_guard (by rfl) ?_; go_loud (refine A2.out.appendRow rfl (.tmp 64) (.tmp 65) 34 (.int .u8 0) 1 rfl Try.underlying34 infoB8 rfl (by decide) A3 more.length c3 rfl rfl (Kd.C_below H3.out A2.out.toBelow) (by simp; omega) ?_; intro v3 w3 hS3; obtain ⟨A4, c4, rfl⟩ := hS3.rowN HLM.out; have A5 := Aside0.mk hS3; clear hS3)))
          refine (of_ (n := xs.length + more.length) (l := xs ++ more) (by have := A5.out.rowC.2.2; rwa [HLM.out] at this)).mono ?_
          rintro e w4 ⟨rfl, rfl⟩
          go_wp2_with fail
          refine (known_ _).mono ?_
          rintro e w6 ⟨rfl, hb6⟩
          have B6 := Aside0.mk (A5.out.below hb6).toBelow
          clear hb6
          go_wp2_with fail
          go_ret
          exact ⟨by first | rfl | (simp; done), B6.out⟩
end Go.Proofs.Ytfigfdggieenbaa.Sum
