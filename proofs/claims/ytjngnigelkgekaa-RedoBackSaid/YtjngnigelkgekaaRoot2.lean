/- The document's sums, numbers, and roots. -/
import Derived.Test.YtjngnigelkgekaaRoot1
namespace Go.Proofs.Ytjngnigelkgekaa.Root
set_option linter.unusedVariables false
set_option linter.unusedSimpArgs false
open Go.RowKit Go.Proofs.YtjngnigelkgekaaW.PrintWords Go.Proofs.YtjngnigelkgekaaW.PrintLast Go.Proofs.YtjngnigelkgekaaW.PrintMore Go.Proofs.Ytjngnigelkgekaa.Kit Go.Proofs.Ytjngnigelkgekaa.Base Go.Proofs.Ytjngnigelkgekaa.Plain Go.Proofs.Ytjngnigelkgekaa.Sum
theorem rstep_ (h x : Int) (w : World) : Calls Try.prog 123 #[.int .u32 h, .int .u8 x] w fun e w' => e = .returned (.int .u32 (stepF h x)) ∧ w = w' := by
  go_enter Try.func123, Try.ntmps123
  go_wp2
  go_ret
  exact ⟨by unfold stepF; simp [u32_mod], rfl⟩
set_option maxHeartbeats 400000 in
theorem rsum_ {A : Option Addr} {n c : Nat} {l : List Int} {w : World} (hr : B8.C w A n l) : Calls Try.prog 84 #[.slice A n c] w fun e w' => e = .returned (.int .u32 (sumF l)) ∧ w = w' := by
  obtain rfl : l.length = n := hr.1
  have hm : l.length ≤ 9223372036854775807 := hr.2.1
  have HR := Aside0.mk hr
  clear hr
  go_enter Try.func84, Try.ntmps84
  go_wp2_with fail
  go_loopg [3, 4] l.length (fun k s p wr => ∃ j : Nat, p = .int .i64 (j : Int) ∧ j + k = l.length ∧ s = .int .u32 (sumF (l.take j)) ∧ w = wr)
  case atStart => exact ⟨0, rfl, by omega, rfl, rfl⟩
  case round =>
    obtain ⟨j, rfl, hjk, rfl, rfl⟩ := hrel
    have AK := Aside0.mk hjk
    by_cases hj : j < l.length
    · obtain ⟨ad, hA, hc⟩ := Kd.at_int HR.out (j : Int) (by omega) (by omega)
      subst hA
      rw [Int.toNat_natCast] at hc
      have AT := Aside0.mk (take_snoc hj)
      have hjl : (j : Int) < (l.length : Int) := by omega
      generalize rd l (j : Int) = x at *
      clear hjk
      go_wp2_with fail
      refine (rstep_ _ x _).mono ?_
      rintro e w' ⟨rfl, rfl⟩
      go_wp2_with fail
      go_roundg (gk - 1)
      case measure => have := AK.out; omega
      case rel => exact ⟨j + 1, by go_num, by have := AK.out; omega, by rw [AT.out, sumF_snoc], rfl⟩
    · have hjn : j = l.length := by omega
      subst hjn
      rw [List.take_length]
      clear hjk AK
      go_wp2_with fail
      go_ret
      exact ⟨by first | rfl | (simp; done), rfl⟩
set_option maxHeartbeats 800000 in
theorem rget_out {A : Option Addr} {n c : Nat} {l : List Int} {a : Int} {w : World} (hr : B8.C w A n l) (ha : a < 0 ∨ (l.length : Int) - 4 < a) :
    Calls Try.prog 124 #[.slice A n c, .int .i64 a] w fun e w' => e = .returned (.int .u32 (getF l a)) ∧ Below w.heap.size w w' := by
  obtain rfl : l.length = n := hr.1
  have hm : l.length ≤ 9223372036854775807 := hr.2.1
  have hg : getF l a = 0 := by unfold getF; rw [if_pos ha]
  have HG := Aside0.mk hg
  clear hr hg
  by_cases h0 : a < 0
  · clear ha
    go_enter Try.func124, Try.ntmps124
    go_wp2
    go_ret
    exact ⟨by rw [HG.out]; first | rfl | (simp; done), Below.refl _ _⟩
  · have h1 : (l.length : Int) - 4 < a := by omega
    clear ha
    go_enter Try.func124, Try.ntmps124
    go_wp2
    go_ret
    exact ⟨by rw [HG.out]; first | rfl | (simp; done), Below.refl _ _⟩
set_option maxHeartbeats 800000 in
set_option maxRecDepth 100000 in
theorem rget_in {A : Option Addr} {n c : Nat} {l : List Int} {a : Nat} {w : World} (hr : B8.C w A n l) (hb : Bytes l) (ha : a + 4 ≤ n) :
    Calls Try.prog 124 #[.slice A n c, .int .i64 (a : Int)] w fun e w' => e = .returned (.int .u32 (getF l (a : Int))) ∧ Below w.heap.size w w' := by
  obtain rfl : l.length = n := hr.1
  have hm : l.length ≤ 9223372036854775807 := hr.2.1
  have h0 : ¬ (a : Int) < 0 := by omega
  have h1 : ¬ (l.length : Int) - 4 < (a : Int) := by omega
  have w0 : wrap64 ((l.length : Int) - 4) = (l.length : Int) - 4 := IntWalk.wrap64_in _ (by omega)
  have t1 : ((a : Int) + 1).toNat = a + 1 := by omega
  have g1 : 0 ≤ (a : Int) + 1 := by omega
  have w1 : IntKind.i64.wrap ((a : Int) + 1) = (a : Int) + 1 := by rw [IntKind.wrap_i64]; omega
  have t2 : ((a : Int) + 2).toNat = a + 2 := by omega
  have g2 : 0 ≤ (a : Int) + 2 := by omega
  have w2 : IntKind.i64.wrap ((a : Int) + 2) = (a : Int) + 2 := by rw [IntKind.wrap_i64]; omega
  have t3 : ((a : Int) + 3).toNat = a + 3 := by omega
  have g3 : 0 ≤ (a : Int) + 3 := by omega
  have w3 : IntKind.i64.wrap ((a : Int) + 3) = (a : Int) + 3 := by rw [IntKind.wrap_i64]; omega
  have hg : getF l (a : Int) = ((rd l (a : Int) * 256 + rd l ((a : Int) + 1)) * 256 + rd l ((a : Int) + 2)) * 256 + rd l ((a : Int) + 3) := by unfold getF; rw [if_neg (by omega)]
  have HB0 := hb.at (a : Int)
  have HB1 := hb.at ((a : Int) + 1)
  have HB2 := hb.at ((a : Int) + 2)
  have HB3 := hb.at ((a : Int) + 3)
  obtain ⟨ad, hA, z0⟩ := Kd.at_int hr (a : Int) (by omega) (by omega)
  obtain ⟨ad1, hA1, z1⟩ := Kd.at_int hr ((a : Int) + 1) (by omega) (by omega)
  obtain ⟨ad2, hA2, z2⟩ := Kd.at_int hr ((a : Int) + 2) (by omega) (by omega)
  obtain ⟨ad3, hA3, z3⟩ := Kd.at_int hr ((a : Int) + 3) (by omega) (by omega)
  subst hA
  cases hA1
  cases hA2
  cases hA3
  rw [Int.toNat_natCast] at z0
  rw [show ((a : Int) + 1).toNat = a + 1 by omega] at z1
  rw [show ((a : Int) + 2).toNat = a + 2 by omega] at z2
  rw [show ((a : Int) + 3).toNat = a + 3 by omega] at z3
  have hb0 : (a : Int) < (l.length : Int) := by omega
  have hb1 : (a : Int) + 1 < (l.length : Int) := by omega
  have hb2 : (a : Int) + 2 < (l.length : Int) := by omega
  have hb3 : (a : Int) + 3 < (l.length : Int) := by omega
  generalize rd l (a : Int) = x0 at *
  generalize rd l ((a : Int) + 1) = x1 at *
  generalize rd l ((a : Int) + 2) = x2 at *
  generalize rd l ((a : Int) + 3) = x3 at *
  have hf := four_or HB0.1 HB0.2 HB1.1 HB1.2 HB2.1 HB2.2 HB3.1 HB3.2
  have HF := Aside0.mk (hf.trans hg.symm)
  have u0 : ∀ q, (w.drewN q).cell? (ad.add a) = some (.int .u8 x0) := fun q => cell_later (pw_below_drewN (Below.refl _ _) q) z0
  have u1 : ∀ q, (w.drewN q).cell? ⟨ad.block, ad.off + (a + 1), none⟩ = some (.int .u8 x1) := fun q => cell_later (pw_below_drewN (Below.refl _ _) q) z1
  have u2 : ∀ q, (w.drewN q).cell? ⟨ad.block, ad.off + (a + 2), none⟩ = some (.int .u8 x2) := fun q => cell_later (pw_below_drewN (Below.refl _ _) q) z2
  have u3 : ∀ q, (w.drewN q).cell? ⟨ad.block, ad.off + (a + 3), none⟩ = some (.int .u8 x3) := fun q => cell_later (pw_below_drewN (Below.refl _ _) q) z3
  clear hr hb hg hf HB0 HB1 HB2 HB3 z0 z1 z2 z3
  go_enter Try.func124, Try.ntmps124
  go_wp2_with fail
  go_quiet (fail)
  go_wp2_with fail
  go_ret
  exact ⟨by rw [← HF.out]; first | rfl | (simp [u32_mod]; done), pw_below_drewN (Below.refl _ _) _⟩
theorem rget_ {A : Option Addr} {n c : Nat} {l : List Int} {a : Int} {w : World} (hr : B8.C w A n l) (hb : Bytes l) :
    Calls Try.prog 124 #[.slice A n c, .int .i64 a] w fun e w' => e = .returned (.int .u32 (getF l a)) ∧ Below w.heap.size w w' := by
  have hl := hr.1
  by_cases ha : a < 0 ∨ (l.length : Int) - 4 < a
  · exact rget_out hr ha
  · obtain ⟨k, rfl⟩ : ∃ k : Nat, a = (k : Int) := ⟨a.toNat, by omega⟩
    exact rget_in hr hb (by omega)
set_option maxHeartbeats 800000 in
set_option maxRecDepth 100000 in
theorem rput_ {A : Option Addr} {n c : Nat} {l : List Int} {m : Int} {w : World} (hr : B8.C w A n l) (hm : 0 ≤ m ∧ m ≤ 4294967295) (hl : n ≤ 140737488355320) :
    Calls Try.prog 83 #[.slice A n c, .int .u32 m] w fun e w' => ∃ v, e = .returned v ∧ Sep w w' [Row B8 5 v (l ++ put4 m)] := by
  obtain rfl : l.length = n := hr.1
  have HR := Aside0.mk hr
  have L0 := Aside0.mk ((Sep.start w).litRow (enc := Value.int .u8) (h1 := fun _ => rfl) (e := 5) [] (by decide))
  have hp : Aside0 (put4 m = [m / 16777216 % 256, m / 65536 % 256, m / 256 % 256, m % 256]) := ⟨rfl⟩
  have s24 := shr32 m 24 (by decide)
  have s16 := shr32 m 16 (by decide)
  have s8 := shr32 m 8 (by decide)
  have L3 : ∀ W : World, ∀ F : List HP, Sep w W F → Sep w (W.alloc (.cells #[.int .u8 (m / 16777216 % 256), .int .u8 (m / 65536 % 256), .int .u8 (m / 256 % 256), .int .u8 (m % 256)] 5)) (Row B8 5 (.slice (some ⟨W.heap.size, 0, none⟩) 4 4) (put4 m) :: F) := fun W F h => h.litRow (enc := Value.int .u8) (h1 := fun _ => rfl) (e := 5) (put4 m) (by simp [put4])
  have HL3 := Aside0.mk L3
  clear hr hm L3
  go_enter Try.func83, Try.ntmps83
  go_wp2_with (first | (refine gate_builtin (b := .append) (xs := #[.tmp 5, .tmp 6]) rfl ?_; go_loud (refine L0.out.appendRow rfl (.tmp 5) (.tmp 6) 30 (.int .u8 0) 1 rfl Try.underlying30 infoB8 rfl (by decide) A l.length c rfl rfl (Kd.C_alloc HR.out _) (by simp; omega) ?_; intro v1 w1 hS1; rw [List.nil_append] at hS1; obtain ⟨A1, c1, rfl⟩ := hS1.rowV; have A1' := Aside0.mk (HL3.out _ _ hS1).at2; clear hS1)) | (refine gate_builtin (b := .append) (xs := #[.tmp 7, .tmp 19]) rfl ?_; go_loud (refine A1'.out.appendRow rfl (.tmp 7) (.tmp 19) 30 (.int .u8 0) 1 rfl Try.underlying30 infoB8 rfl (by decide) (some ⟨w1.heap.size, 0, none⟩) 4 4 rfl rfl A1'.out.at2.rowC.2.2 (by rw [put4_length]; omega) ?_; intro v2 w2 hS2; have A2 := Aside0.mk (Sep.weakR (L := [_]) hS2); clear hS2)))
  go_ret
  exact ⟨_, by first | rfl | (simp; done), A2.out⟩
end Go.Proofs.Ytjngnigelkgekaa.Root
