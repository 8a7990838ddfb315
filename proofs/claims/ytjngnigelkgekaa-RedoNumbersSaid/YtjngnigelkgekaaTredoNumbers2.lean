/- Root1, Root2, Round, Chunk, Deep, Elem, Delta1, Delta2, Delta3: what RedoNumbers needs. -/
import Derived.Test.YtjngnigelkgekaaTredoNumbers1
import Derived.Lib.SlBytesConst
import Derived.Deep.LoopGhost
import Derived.RangeFuncNested
import Derived.RangeFuncBound
import Derived.RangeFuncCalls
import Derived.RangeFuncLeaves
import Derived.Shelf.Abstract
import Derived.WalkKit
import Derived.OwnWalkIn
import Derived.TacticsInMore
import Derived.LoopNIn
import Derived.LoopIn
import Derived.Deep.RegionWith
import Derived.Deep.AppendLies
namespace Go.Proofs.Ytjngnigelkgekaa.Root
set_option linter.unusedVariables false
set_option linter.unusedSimpArgs false
open Go.RowKit Go.Proofs.YtjngnigelkgekaaW.PrintWords Go.Proofs.YtjngnigelkgekaaW.PrintLast Go.Proofs.YtjngnigelkgekaaW.PrintMore Go.Proofs.Ytjngnigelkgekaa.Kit Go.Proofs.Ytjngnigelkgekaa.Base Go.Proofs.Ytjngnigelkgekaa.Plain Go.Proofs.Ytjngnigelkgekaa.Sum
set_option maxHeartbeats 800000 in
theorem right_ (a b c n : Int) (W : World) : Calls Try.prog 68 #[.agg #[.int .i64 a, .int .i64 b, .int .u32 c], .int .i64 n] W fun e w' => e = .returned (.bool (rightR a b c n)) ∧ Below W.heap.size W w' := by
  by_cases h0 : 1 ≤ a
  case neg =>
    have HR : Aside0 (rightR a b c n = false) := ⟨by unfold rightR; exact decide_eq_false (by omega)⟩
    go_enter Try.func68, Try.ntmps68
    go_wp2_with fail
    go_ret
    exact ⟨by rw [HR.out]; first | rfl | (simp; done), by repeat (first | exact Below.refl _ _ | refine below_alloc ?_ _)⟩
  by_cases h1 : a ≤ 64
  case neg =>
    have HR : Aside0 (rightR a b c n = false) := ⟨by unfold rightR; exact decide_eq_false (by omega)⟩
    go_enter Try.func68, Try.ntmps68
    go_wp2_with fail
    go_ret
    exact ⟨by rw [HR.out]; first | rfl | (simp; done), by repeat (first | exact Below.refl _ _ | refine below_alloc ?_ _)⟩
  by_cases h2 : 1 ≤ b
  case neg =>
    have HR : Aside0 (rightR a b c n = false) := ⟨by unfold rightR; exact decide_eq_false (by omega)⟩
    go_enter Try.func68, Try.ntmps68
    go_wp2_with fail
    go_ret
    exact ⟨by rw [HR.out]; first | rfl | (simp; done), by repeat (first | exact Below.refl _ _ | refine below_alloc ?_ _)⟩
  by_cases h3 : b ≤ 64
  case neg =>
    have HR : Aside0 (rightR a b c n = false) := ⟨by unfold rightR; exact decide_eq_false (by omega)⟩
    go_enter Try.func68, Try.ntmps68
    go_wp2_with fail
    go_ret
    exact ⟨by rw [HR.out]; first | rfl | (simp; done), by repeat (first | exact Below.refl _ _ | refine below_alloc ?_ _)⟩
  have hw : wrap64 (2 + a) = 2 + a := IntWalk.wrap64_in _ (by omega)
  have hw2 : wrap64 (2 + a + b) = 2 + a + b := IntWalk.wrap64_in _ (by omega)
  by_cases h4 : 2 + a + b ≤ n
  case neg =>
    have HR : Aside0 (rightR a b c n = false) := ⟨by unfold rightR; exact decide_eq_false (by omega)⟩
    go_enter Try.func68, Try.ntmps68
    go_wp2_with fail
    go_ret
    exact ⟨by rw [HR.out]; first | rfl | (simp; done), by repeat (first | exact Below.refl _ _ | refine below_alloc ?_ _)⟩
  by_cases h5 : 1 ≤ c
  case neg =>
    have HR : Aside0 (rightR a b c n = false) := ⟨by unfold rightR; exact decide_eq_false (by omega)⟩
    go_enter Try.func68, Try.ntmps68
    go_wp2_with fail
    go_ret
    exact ⟨by rw [HR.out]; first | rfl | (simp; done), by repeat (first | exact Below.refl _ _ | refine below_alloc ?_ _)⟩
  have HR : Aside0 (rightR a b c n = true) := ⟨by unfold rightR; exact decide_eq_true (by omega)⟩
  go_enter Try.func68, Try.ntmps68
  go_wp2_with fail
  go_ret
  exact ⟨by rw [HR.out]; first | rfl | (simp; done), by repeat (first | exact Below.refl _ _ | refine below_alloc ?_ _)⟩
set_option maxHeartbeats 800000 in
theorem rright_ (a b c n : Int) (W : World) : Calls Try.prog 81 #[.agg #[.int .i64 a, .int .i64 b, .int .u32 c], .int .i64 n] W fun e w' => e = .returned (.bool (rightR a b c n)) ∧ Below W.heap.size W w' := by
  by_cases h0 : 1 ≤ a
  case neg =>
    have HR : Aside0 (rightR a b c n = false) := ⟨by unfold rightR; exact decide_eq_false (by omega)⟩
    go_enter Try.func81, Try.ntmps81
    go_wp2_with fail
    go_ret
    exact ⟨by rw [HR.out]; first | rfl | (simp; done), by repeat (first | exact Below.refl _ _ | refine below_alloc ?_ _)⟩
  by_cases h1 : a ≤ 64
  case neg =>
    have HR : Aside0 (rightR a b c n = false) := ⟨by unfold rightR; exact decide_eq_false (by omega)⟩
    go_enter Try.func81, Try.ntmps81
    go_wp2_with fail
    go_ret
    exact ⟨by rw [HR.out]; first | rfl | (simp; done), by repeat (first | exact Below.refl _ _ | refine below_alloc ?_ _)⟩
  by_cases h2 : 1 ≤ b
  case neg =>
    have HR : Aside0 (rightR a b c n = false) := ⟨by unfold rightR; exact decide_eq_false (by omega)⟩
    go_enter Try.func81, Try.ntmps81
    go_wp2_with fail
    go_ret
    exact ⟨by rw [HR.out]; first | rfl | (simp; done), by repeat (first | exact Below.refl _ _ | refine below_alloc ?_ _)⟩
  by_cases h3 : b ≤ 64
  case neg =>
    have HR : Aside0 (rightR a b c n = false) := ⟨by unfold rightR; exact decide_eq_false (by omega)⟩
    go_enter Try.func81, Try.ntmps81
    go_wp2_with fail
    go_ret
    exact ⟨by rw [HR.out]; first | rfl | (simp; done), by repeat (first | exact Below.refl _ _ | refine below_alloc ?_ _)⟩
  have hw : wrap64 (2 + a) = 2 + a := IntWalk.wrap64_in _ (by omega)
  have hw2 : wrap64 (2 + a + b) = 2 + a + b := IntWalk.wrap64_in _ (by omega)
  by_cases h4 : 2 + a + b ≤ n
  case neg =>
    have HR : Aside0 (rightR a b c n = false) := ⟨by unfold rightR; exact decide_eq_false (by omega)⟩
    go_enter Try.func81, Try.ntmps81
    go_wp2_with fail
    go_ret
    exact ⟨by rw [HR.out]; first | rfl | (simp; done), by repeat (first | exact Below.refl _ _ | refine below_alloc ?_ _)⟩
  by_cases h5 : 1 ≤ c
  case neg =>
    have HR : Aside0 (rightR a b c n = false) := ⟨by unfold rightR; exact decide_eq_false (by omega)⟩
    go_enter Try.func81, Try.ntmps81
    go_wp2_with fail
    go_ret
    exact ⟨by rw [HR.out]; first | rfl | (simp; done), by repeat (first | exact Below.refl _ _ | refine below_alloc ?_ _)⟩
  have HR : Aside0 (rightR a b c n = true) := ⟨by unfold rightR; exact decide_eq_true (by omega)⟩
  go_enter Try.func81, Try.ntmps81
  go_wp2_with fail
  go_ret
  exact ⟨by rw [HR.out]; first | rfl | (simp; done), by repeat (first | exact Below.refl _ _ | refine below_alloc ?_ _)⟩
end Go.Proofs.Ytjngnigelkgekaa.Root
namespace Go.Proofs.Ytjngnigelkgekaa.Root
set_option linter.unusedVariables false
set_option linter.unusedSimpArgs false
open Go.RowKit Go.Proofs.YtjngnigelkgekaaW.PrintWords Go.Proofs.YtjngnigelkgekaaW.PrintLast Go.Proofs.YtjngnigelkgekaaW.PrintMore Go.Proofs.Ytjngnigelkgekaa.Kit Go.Proofs.Ytjngnigelkgekaa.Base Go.Proofs.Ytjngnigelkgekaa.Plain Go.Proofs.Ytjngnigelkgekaa.Sum
theorem rstep_ (h x : Int) (w : World) : Calls Try.prog 123 #[.int .u32 h, .int .u8 x] w fun e w' => e = .returned (.int .u32 (stepF h x)) ∧ w = w' := by
  go_enter Try.func123, Try.ntmps123
  go_wp2
  go_ret
  exact ⟨by unfold stepF; simp [u32_mod], rfl⟩
set_option maxHeartbeats 400000 in
theorem rsum_ {A : Option Addr} {n c : Nat} {l : List Int} {w : World} (hr : B8.C w A n l) : Calls Try.prog 84 #[.slice A n c] w fun e w' => e = .returned (.int .u32 (sumF l)) ∧ w = w' := by
  obtain rfl : l.length = n := hr.1
  have hm : l.length ≤ 9223372036854775807 := hr.2.1
  have HR := Aside0.mk hr
  clear hr
  go_enter Try.func84, Try.ntmps84
  go_wp2_with fail
  go_loopg [3, 4] l.length (fun k s p wr => ∃ j : Nat, p = .int .i64 (j : Int) ∧ j + k = l.length ∧ s = .int .u32 (sumF (l.take j)) ∧ w = wr)
  case atStart => exact ⟨0, rfl, by omega, rfl, rfl⟩
  case round =>
    obtain ⟨j, rfl, hjk, rfl, rfl⟩ := hrel
    have AK := Aside0.mk hjk
    by_cases hj : j < l.length
    · obtain ⟨ad, hA, hc⟩ := Kd.at_int HR.out (j : Int) (by omega) (by omega)
      subst hA
      rw [Int.toNat_natCast] at hc
      have AT := Aside0.mk (take_snoc hj)
      have hjl : (j : Int) < (l.length : Int) := by omega
      generalize rd l (j : Int) = x at *
      clear hjk
      go_wp2_with fail
      refine (rstep_ _ x _).mono ?_
      rintro e w' ⟨rfl, rfl⟩
      go_wp2_with fail
      go_roundg (gk - 1)
      case measure => have := AK.out; omega
      case rel => exact ⟨j + 1, by go_num, by have := AK.out; omega, by rw [AT.out, sumF_snoc], rfl⟩
    · have hjn : j = l.length := by omega
      subst hjn
      rw [List.take_length]
      clear hjk AK
      go_wp2_with fail
      go_ret
      exact ⟨by first | rfl | (simp; done), rfl⟩
set_option maxHeartbeats 800000 in
theorem rget_out {A : Option Addr} {n c : Nat} {l : List Int} {a : Int} {w : World} (hr : B8.C w A n l) (ha : a < 0 ∨ (l.length : Int) - 4 < a) :
    Calls Try.prog 124 #[.slice A n c, .int .i64 a] w fun e w' => e = .returned (.int .u32 (getF l a)) ∧ Below w.heap.size w w' := by
  obtain rfl : l.length = n := hr.1
  have hm : l.length ≤ 9223372036854775807 := hr.2.1
  have hg : getF l a = 0 := by unfold getF; rw [if_pos ha]
  have HG := Aside0.mk hg
  clear hr hg
  by_cases h0 : a < 0
  · clear ha
    go_enter Try.func124, Try.ntmps124
    go_wp2
    go_ret
    exact ⟨by rw [HG.out]; first | rfl | (simp; done), Below.refl _ _⟩
  · have h1 : (l.length : Int) - 4 < a := by omega
    clear ha
    go_enter Try.func124, Try.ntmps124
    go_wp2
    go_ret
    exact ⟨by rw [HG.out]; first | rfl | (simp; done), Below.refl _ _⟩
set_option maxHeartbeats 800000 in
set_option maxRecDepth 100000 in
theorem rget_in {A : Option Addr} {n c : Nat} {l : List Int} {a : Nat} {w : World} (hr : B8.C w A n l) (hb : Bytes l) (ha : a + 4 ≤ n) :
    Calls Try.prog 124 #[.slice A n c, .int .i64 (a : Int)] w fun e w' => e = .returned (.int .u32 (getF l (a : Int))) ∧ Below w.heap.size w w' := by
  obtain rfl : l.length = n := hr.1
  have hm : l.length ≤ 9223372036854775807 := hr.2.1
  have h0 : ¬ (a : Int) < 0 := by omega
  have h1 : ¬ (l.length : Int) - 4 < (a : Int) := by omega
  have w0 : wrap64 ((l.length : Int) - 4) = (l.length : Int) - 4 := IntWalk.wrap64_in _ (by omega)
  have t1 : ((a : Int) + 1).toNat = a + 1 := by omega
  have g1 : 0 ≤ (a : Int) + 1 := by omega
  have w1 : IntKind.i64.wrap ((a : Int) + 1) = (a : Int) + 1 := by rw [IntKind.wrap_i64]; omega
  have t2 : ((a : Int) + 2).toNat = a + 2 := by omega
  have g2 : 0 ≤ (a : Int) + 2 := by omega
  have w2 : IntKind.i64.wrap ((a : Int) + 2) = (a : Int) + 2 := by rw [IntKind.wrap_i64]; omega
  have t3 : ((a : Int) + 3).toNat = a + 3 := by omega
  have g3 : 0 ≤ (a : Int) + 3 := by omega
  have w3 : IntKind.i64.wrap ((a : Int) + 3) = (a : Int) + 3 := by rw [IntKind.wrap_i64]; omega
  have hg : getF l (a : Int) = ((rd l (a : Int) * 256 + rd l ((a : Int) + 1)) * 256 + rd l ((a : Int) + 2)) * 256 + rd l ((a : Int) + 3) := by unfold getF; rw [if_neg (by omega)]
  have HB0 := hb.at (a : Int)
  have HB1 := hb.at ((a : Int) + 1)
  have HB2 := hb.at ((a : Int) + 2)
  have HB3 := hb.at ((a : Int) + 3)
  obtain ⟨ad, hA, z0⟩ := Kd.at_int hr (a : Int) (by omega) (by omega)
  obtain ⟨ad1, hA1, z1⟩ := Kd.at_int hr ((a : Int) + 1) (by omega) (by omega)
  obtain ⟨ad2, hA2, z2⟩ := Kd.at_int hr ((a : Int) + 2) (by omega) (by omega)
  obtain ⟨ad3, hA3, z3⟩ := Kd.at_int hr ((a : Int) + 3) (by omega) (by omega)
  subst hA
  cases hA1
  cases hA2
  cases hA3
  rw [Int.toNat_natCast] at z0
  rw [show ((a : Int) + 1).toNat = a + 1 by omega] at z1
  rw [show ((a : Int) + 2).toNat = a + 2 by omega] at z2
  rw [show ((a : Int) + 3).toNat = a + 3 by omega] at z3
  have hb0 : (a : Int) < (l.length : Int) := by omega
  have hb1 : (a : Int) + 1 < (l.length : Int) := by omega
  have hb2 : (a : Int) + 2 < (l.length : Int) := by omega
  have hb3 : (a : Int) + 3 < (l.length : Int) := by omega
  generalize rd l (a : Int) = x0 at *
  generalize rd l ((a : Int) + 1) = x1 at *
  generalize rd l ((a : Int) + 2) = x2 at *
  generalize rd l ((a : Int) + 3) = x3 at *
  have hf := four_or HB0.1 HB0.2 HB1.1 HB1.2 HB2.1 HB2.2 HB3.1 HB3.2
  have HF := Aside0.mk (hf.trans hg.symm)
  have u0 : ∀ q, (w.drewN q).cell? (ad.add a) = some (.int .u8 x0) := fun q => cell_later (pw_below_drewN (Below.refl _ _) q) z0
  have u1 : ∀ q, (w.drewN q).cell? ⟨ad.block, ad.off + (a + 1), none⟩ = some (.int .u8 x1) := fun q => cell_later (pw_below_drewN (Below.refl _ _) q) z1
  have u2 : ∀ q, (w.drewN q).cell? ⟨ad.block, ad.off + (a + 2), none⟩ = some (.int .u8 x2) := fun q => cell_later (pw_below_drewN (Below.refl _ _) q) z2
  have u3 : ∀ q, (w.drewN q).cell? ⟨ad.block, ad.off + (a + 3), none⟩ = some (.int .u8 x3) := fun q => cell_later (pw_below_drewN (Below.refl _ _) q) z3
  clear hr hb hg hf HB0 HB1 HB2 HB3 z0 z1 z2 z3
  go_enter Try.func124, Try.ntmps124
  go_wp2_with fail
  go_quiet (fail)
  go_wp2_with fail
  go_ret
  exact ⟨by rw [← HF.out]; first | rfl | (simp [u32_mod]; done), pw_below_drewN (Below.refl _ _) _⟩
theorem rget_ {A : Option Addr} {n c : Nat} {l : List Int} {a : Int} {w : World} (hr : B8.C w A n l) (hb : Bytes l) :
    Calls Try.prog 124 #[.slice A n c, .int .i64 a] w fun e w' => e = .returned (.int .u32 (getF l a)) ∧ Below w.heap.size w w' := by
  have hl := hr.1
  by_cases ha : a < 0 ∨ (l.length : Int) - 4 < a
  · exact rget_out hr ha
  · obtain ⟨k, rfl⟩ : ∃ k : Nat, a = (k : Int) := ⟨a.toNat, by omega⟩
    exact rget_in hr hb (by omega)
set_option maxHeartbeats 800000 in
set_option maxRecDepth 100000 in
theorem rput_ {A : Option Addr} {n c : Nat} {l : List Int} {m : Int} {w : World} (hr : B8.C w A n l) (hm : 0 ≤ m ∧ m ≤ 4294967295) (hl : n ≤ 140737488355320) :
    Calls Try.prog 83 #[.slice A n c, .int .u32 m] w fun e w' => ∃ v, e = .returned v ∧ Sep w w' [Row B8 5 v (l ++ put4 m)] := by
  obtain rfl : l.length = n := hr.1
  have HR := Aside0.mk hr
  have L0 := Aside0.mk ((Sep.start w).litRow (enc := Value.int .u8) (h1 := fun _ => rfl) (e := 5) [] (by decide))
  have hp : Aside0 (put4 m = [m / 16777216 % 256, m / 65536 % 256, m / 256 % 256, m % 256]) := ⟨rfl⟩
  have s24 := shr32 m 24 (by decide)
  have s16 := shr32 m 16 (by decide)
  have s8 := shr32 m 8 (by decide)
  have L3 : ∀ W : World, ∀ F : List HP, Sep w W F → Sep w (W.alloc (.cells #[.int .u8 (m / 16777216 % 256), .int .u8 (m / 65536 % 256), .int .u8 (m / 256 % 256), .int .u8 (m % 256)] 5)) (Row B8 5 (.slice (some ⟨W.heap.size, 0, none⟩) 4 4) (put4 m) :: F) := fun W F h => h.litRow (enc := Value.int .u8) (h1 := fun _ => rfl) (e := 5) (put4 m) (by simp [put4])
  have HL3 := Aside0.mk L3
  clear hr hm L3
  go_enter Try.func83, Try.ntmps83
  go_wp2_with (first | (refine gate_builtin (b := .append) (xs := #[.tmp 5, .tmp 6]) rfl ?_; go_loud (refine L0.out.appendRow rfl (.tmp 5) (.tmp 6) 30 (.int .u8 0) 1 rfl Try.underlying30 infoB8 rfl (by decide) A l.length c rfl rfl (Kd.C_alloc HR.out _) (by simp; omega) ?_; intro v1 w1 hS1; rw [List.nil_append] at hS1; obtain ⟨A1, c1, rfl⟩ := hS1.rowV; have A1' := Aside0.mk (HL3.out _ _ hS1).at2; clear hS1)) | (refine gate_builtin (b := .append) (xs := #[.tmp 7, .tmp 19]) rfl ?_; go_loud (refine A1'.out.appendRow rfl (.tmp 7) (.tmp 19) 30 (.int .u8 0) 1 rfl Try.underlying30 infoB8 rfl (by decide) (some ⟨w1.heap.size, 0, none⟩) 4 4 rfl rfl A1'.out.at2.rowC.2.2 (by rw [put4_length]; omega) ?_; intro v2 w2 hS2; have A2 := Aside0.mk (Sep.weakR (L := [_]) hS2); clear hS2)))
  go_ret
  exact ⟨_, by first | rfl | (simp; done), A2.out⟩
end Go.Proofs.Ytjngnigelkgekaa.Root
namespace Go.Proofs.Ytjngnigelkgekaa.Kit
set_option linter.unusedVariables false
set_option linter.unusedSimpArgs false
open Go.RowKit Go.Proofs.YtjngnigelkgekaaW.PrintWords Go.Proofs.YtjngnigelkgekaaW.PrintLast Go.Proofs.YtjngnigelkgekaaW.PrintMore
section
variable {P : Program} {ops : Array Oper} {Q : Exit → Act → World → Prop} {md : Region.Mode} {l n : Nat}
theorem rows_round {row : String} {args : Array Value} {w : World} {R : Value → World → Prop} (h : Rows P row args w R) : RowsIn (Fence.wide.inRound l) n P row args w R :=
  fun c cs _ => let ⟨v, w', r, s⟩ := h c cs; ⟨v, w', r, stepsIn_wide.2 s⟩
theorem upon_round {o : Oper} {a : Act} {next : Act → World → Prop} : ∀ {r : Result Next}, o.upon P a next Q r → o.uponIn (Fence.wide.inRound l) n P a next Q r
  | .ok (.value v) w', h => h
  | .ok .skip w', h => h
  | .ok (.defer d) w', h => h
  | .ok (.enter f args) w', h => ⟨fun hh => by simp [Fence.wide] at hh, CallsIn.inRound l (callsIn_wide.2 h)⟩
  | .ok (.row row args) w', h => ⟨fun hh => by simp [Fence.wide] at hh, rows_round h⟩
  | .halt (.panic v) w', h => h
theorem op_round {i : Nat} {a : Act} {w : World} {K K' : Act → World → Prop} (hQ : ¬ LetsOut Q) (hd : ∀ (i : Nat) (o : Oper), ops[i]? = some o → ∀ c, o.op ≠ .defer c) (hk : ∀ a w, K a w → K' a w) (h : wpOp P ops Q i K a w) : wpOpIn (Fence.wide.inRound l) n P ops Q i K' a w := by
  unfold wpOp at h
  unfold wpOpIn
  cases ho : ops[i]? with
  | none => rw [ho] at h; exact hk _ _ h
  | some o =>
    rw [ho] at h
    simp only at h ⊢
    split at h
    · rename_i hw
      rw [if_pos hw]
      rcases h with h | h
      · have h2 : o.wp P a w K' Q := Oper.wp_mono hk h
        refine ⟨fun f _ => trivial, ?_⟩
        rw [show (Fence.wide.inRound l).round = some l from rfl, Oper.semAt_some l _ _ (hd i o ho)]
        exact upon_round h2
      · exact absurd h.2 hQ
    · rename_i hw
      rw [if_neg hw]
      exact ⟨fun f _ => trivial, hk _ _ h⟩
theorem any_round (hQ : ¬ LetsOut Q) (hd : ∀ (i : Nat) (o : Oper), ops[i]? = some o → ∀ c, o.op ≠ .defer c) : ∀ (fuel : Nat) (listed : Array Bool) (a : Act) (w : World), wpAny P md ops Q fuel listed a w → wpAnyIn (Fence.wide.inRound l) n P md ops Q fuel listed a w
  | 0, _, _, _, h => h
  | fuel + 1, _, _, _, h => ⟨h.1, fun i hi => op_round hQ hd (fun a' w' h' => any_round hQ hd fuel _ a' w' h') (h.2 i hi)⟩
theorem startR_ {S : World → Prop} {ds : List Nat} {id : Nat} {a : Act} {w : World} (hQ : ¬ LetsOut Q) (hd : ∀ (i : Nat) (o : Oper), ops[i]? = some o → ∀ c, o.op ≠ .defer c) (hm : P.follows .mixedOrders = true)
    (h : wpAnyLast P .any ops Q S ds ops.size (Array.replicate ops.size false) a w.drew) : (Code.region id ops true).wpIn (Fence.wide.inRound l) n P Q a w :=
  wpIn_region_any hm (any_round hQ hd _ _ _ _ (wpAny_of_last _ _ _ _ h))
theorem startN_ {S : World → Prop} {ds : List Nat} {m : Nat} {a : Act} {w : World} (lst : Array Bool) (hn : ops.size = m) (hl : Array.replicate m false = lst) (hS : S w.drew)
    (h : S w.drew → wpAnyLast P .any ops Q S ds m lst a w.drew) : wpAnyLast P .any ops Q S ds ops.size (Array.replicate ops.size false) a w.drew := by
  subst hn
  subst hl
  exact h hS
end
def noDeferB (ops : Array Oper) : Bool := ops.all (fun o => match o.op with | .defer _ => false | _ => true)
theorem noDefer_of {ops : Array Oper} (h : noDeferB ops = true) : ∀ (i : Nat) (o : Oper), ops[i]? = some o → ∀ c, o.op ≠ .defer c := fun i o ho c hc => by
  have h1 := Array.all_eq_true_iff_forall_mem.1 h o (Array.mem_of_getElem? ho)
  rw [hc] at h1
  cases h1
/-- All blocks from B on that are no cells, as they lie in W0. -/
def Nc (W0 : World) (B : Nat) : HP where
  P W ok := (∀ k, ok k ↔ (B ≤ k ∧ ∃ o, W0.heap[k]? = some o ∧ o.isCells = false)) ∧ ∀ k, ok k → W.heap[k]? = W0.heap[k]?
  loc := fun h hm => ⟨h.1, fun k hk => (hm k hk).trans (h.2 k hk)⟩
  bnd := fun {W ok} h k hk => by
    obtain ⟨_, o, ho, _⟩ := (h.1 k).1 hk
    exact blk_lt ((h.2 k hk).trans ho)
/-- A resource that may be told of blocks of cells alone. -/
def CellsOnly (p : HP) : Prop := ∀ (W : World) (ok : Nat → Prop), p.P W ok → ∃ ok' : Nat → Prop, p.P W ok' ∧ (∀ k, ok' k → ok k) ∧ ∀ k, ok' k → ∃ cs t fr, W.heap[k]? = some (.cells cs t fr)
theorem cellsOnly_blk (g : Nat) (t : TypeId) (cs : Array Value) : CellsOnly (Blk g t cs) := fun W ok h => ⟨ok, h, fun _ hk => hk, fun k hk => by
  rw [(h.1 k).1 hk]; exact ⟨_, _, _, h.2⟩⟩
theorem cellsOnly_row {α : Type} (d : Kd α) (e : Nat) (v : Value) (xs : List α) : CellsOnly (Row d e v xs) := fun W ok h => by
  refine ⟨_, ⟨Kd.R_bound h.1, fun k hk => hk.2.2.1⟩, fun k hk => hk.1, fun k hk => ?_⟩
  obtain ⟨_, _, _, q, _, cells, hc⟩ := hk
  exact ⟨_, _, _, hc⟩
theorem sepR_cells {W : World} : ∀ {L : List HP} {av : Nat → Prop}, (∀ p ∈ L, CellsOnly p) → SepR W av L → SepR W (fun k => av k ∨ ∃ o, W.heap[k]? = some o ∧ o.isCells = false) L
  | [], _, _, _ => trivial
  | p :: L, av, hL, ⟨ok, hp, hd, h⟩ => by
    obtain ⟨ok', hp', hs, hc⟩ := hL p (List.mem_cons_self ..) W ok hp
    refine ⟨ok', hp', fun k hk ha => ?_, ?_⟩
    · rcases ha with ha | ⟨o, ho, hn⟩
      · exact hd k (hs k hk) ha
      · obtain ⟨cs, t, fr, hcc⟩ := hc k hk
        rw [ho] at hcc
        cases hcc
        simp [Obj.isCells] at hn
    · have h2 := sepR_cells (fun q hq => hL q (List.mem_cons_of_mem _ hq)) h
      refine h2.weaken (fun k hk => ?_)
      rcases hk with (h3 | h3) | h3
      · exact .inl (.inl h3)
      · exact .inr h3
      · exact .inl (.inr (hs k h3))
namespace Sep
variable {w0 W W' : World} {B : Nat} {L L' : List HP}
/-- The turn of a block that is no cells and lies behind what was there. -/
theorem turned (hL : ∀ p ∈ L, CellsOnly p) (h : Sep w0 W L) (hB : w0.heap.size ≤ B) {row : Option Nat} (hg : W.grownBy W' row) (hr : ∀ r, row = some r → B ≤ r ∧ ∃ o : Obj, W.heap[r]? = some o ∧ o.isCells = false) : Sep w0 W' L := by
  have hne : ∀ k, k < w0.heap.size → row ≠ some k := fun k hk he => by have := (hr k he).1; omega
  refine ⟨hg.os.trans h.os, hg.tape.trans h.tape, hg.output.trans h.output, Nat.le_trans h.size hg.size, fun k hk => (hg.block k (Nat.lt_of_lt_of_le hk h.size) (fun he => hne k hk he.symm)).trans (h.old k hk), ?_⟩
  refine ((sepR_cells hL h.sep).move (W' := W') (fun k hk hn => hg.block k hk (fun he => hn (.inr (hr k he.symm).2)))).weaken (fun k hk => .inl hk)
/-- Into a round: all that is no cells is beside. -/
theorem roundIn (hL : ∀ p ∈ L, CellsOnly p) (h : Sep w0 W L) (hB : w0.heap.size ≤ B) : Sep w0 W (Nc W B :: L) := by
  refine ⟨h.os, h.tape, h.output, h.size, h.old, fun k => B ≤ k ∧ ∃ o, W.heap[k]? = some o ∧ o.isCells = false, ⟨fun _ => Iff.rfl, fun _ _ => rfl⟩, fun k hk ha => by have := hk.1; omega, ?_⟩
  exact (sepR_cells hL h.sep).weaken (fun k hk => hk.elim .inl (fun h2 => .inr h2.2))
theorem roundOut {F : List HP} (h : Sep w0 W' (Nc W B :: F)) (hs : W.heap.size ≤ W'.heap.size) : KeepsFrom B W W' := by
  obtain ⟨ok, hp, _⟩ := h.sep
  exact ⟨hs, fun k o hB hk ho => (hp.2 k ((hp.1 k).2 ⟨hB, o, hk, ho⟩)).trans hk⟩
end Sep
end Go.Proofs.Ytjngnigelkgekaa.Kit
namespace Go.Proofs.Ytjngnigelkgekaa.Delta
set_option linter.unusedVariables false
set_option linter.unusedSimpArgs false
open Go.RowKit Go.Shelf Go.Proofs.YtjngnigelkgekaaW.PrintWords Go.Proofs.YtjngnigelkgekaaW.PrintLast Go.Proofs.YtjngnigelkgekaaW.PrintMore Go.Proofs.Ytjngnigelkgekaa.Kit Go.Proofs.Ytjngnigelkgekaa.Base
attribute [local go_sem] Oper.semAt_some
def Boxes (W : World) (b1 b2 : Nat) (A : Option Addr) (L c : Nat) : Prop := W.heap[b1]? = some (.cells #[.slice A L c] 30 (0, 0)) ∧ W.heap[b2]? = some (.cells #[.int .i64 66] 3 (0, 0))
def Kq (b1 b2 : Nat) (W W' : World) : Prop := W'.heap[b1]? = W.heap[b1]? ∧ W'.heap[b2]? = W.heap[b2]?
theorem Boxes.keep {W W' : World} {b1 b2 : Nat} {A : Option Addr} {L c : Nat} (h : Boxes W b1 b2 A L c) (k : Kq b1 b2 W W') : Boxes W' b1 b2 A L c := ⟨k.1.trans h.1, k.2.trans h.2⟩
theorem num0 {k : IntKind} {a b : Int} (h : a = b) : Value.int k a = .int k b := by rw [h]
def encC (m : Nat) (A : Option Addr) (i : Fin m) : Array Value := #[.slice (A.map (·.add (66 * i.1))) 66 66]
set_option maxHeartbeats 1600000 in
set_option maxRecDepth 100000 in
theorem chunk1_in (n : Nat) (hn : 1 ≤ n) {m b1 b2 c L : Nat} {A : Option Addr} {w : World} (hL : 66 * m = L) (hb : Boxes w b1 b2 A L c) (hc : L ≤ c) (hm : m ≤ 1000000) :
    SeqStopsK Fence.wide n Try.prog 155 #[.pointer (some ⟨b1, 0, none⟩), .pointer (some ⟨b2, 0, none⟩)] (encC m A) (Kq b1 b2) (fun xs => xs = List.finRange m) (fun _ => True) m w := by
  subst hL
  intro l J Jx W hW hJ hJx hY h0
  have hb1 : b1 < w.heap.size := blk_lt hb.1
  have hb2 : b2 < w.heap.size := blk_lt hb.2
  have hBW : Boxes W b1 b2 A (66 * m) c := ⟨(hW.block b1 hb1).trans hb.1, (hW.block b2 hb2).trans hb.2⟩
  have ABW := Aside0.mk hBW
  have AY := Aside0.mk hY
  have AJ := Aside0.mk hJ
  clear hb hb1 hb2 hBW hY hW
  refine callsIn_of_wp Try.func155 rfl trivial ?_ rfl
  simp only [Try.ntmps155, List.size_toArray, List.length_cons, List.length_nil, Nat.reduceAdd, Nat.reduceSub, Array.replicate_succ, Array.replicate_zero, List.push_toArray, List.append_toArray, List.nil_append, List.cons_append]
  gi_wp2
  gi_loopw [4] (fun p wr => ∃ k : Nat, p = .int .i64 (66 * (k : Int)) ∧ k ≤ m ∧ Boxes wr b1 b2 A (66 * m) c ∧ J ((List.finRange m).take k) wr) (fun p wr => 66 * m - (intOf p).toNat)
  case atStart => exact ⟨0, rfl, Nat.zero_le _, ABW.out, h0⟩
  case round =>
    obtain ⟨k, rfl, hk, hB, hJk⟩ := hrel
    have AB := Aside0.mk hB
    have AJk := Aside0.mk hJk
    have d1 : wr.cell? ⟨b1, 0, none⟩ = some (.slice A (66 * m) c) := blk_cell hB.1 0
    by_cases hlt : k < m
    · have d2 : wr.drew.cell? ⟨b2, 0, none⟩ = some (.int .i64 66) := blk_cell (w := wr.drew) hB.2 0
      have d1' : wr.drew.cell? ⟨b1, 0, none⟩ = some (.slice A (66 * m) c) := blk_cell (w := wr.drew) hB.1 0
      obtain ⟨A', hcut⟩ := cut1 A (66 * m) c (66 * k) (by omega) hc
      have hcut3 := cut3 A (66 * m) c (66 * k) (66 * k + 66) (66 * k + 66) (by omega) (Nat.le_refl _) (by omega) (by omega)
      rw [show ((66 * k : Nat) : Int) = 66 * (k : Int) by omega] at hcut
      rw [show ((66 * k : Nat) : Int) = 66 * (k : Int) by omega, show ((66 * k + 66 : Nat) : Int) = 66 * (k : Int) + 66 by omega, Nat.add_sub_cancel_left] at hcut3
      obtain ⟨fn, tmps, assign, body, hy, hR⟩ := AY.out ((List.finRange m).take k) ⟨k, hlt⟩ wr.drew (AJ.out _ _ _ none hJk ⟨rfl, rfl, rfl, Nat.le_refl _, fun _ _ _ => rfl⟩ (fun r h => by cases h)) (by rw [List.length_take, List.length_finRange]; omega)
      unfold encC at hy
      dsimp only at hy
      have hmin : min (66 : Int) (((66 * m - 66 * k : Nat) : Int)) = 66 := by omega
      have AR := Aside0.mk hR
      clear hB hJk hR
      gi_wp2
      refine wpIn_wide.2 ?_
      refine start_ (n := 7) (S := fun w' => w'.cell? ⟨b1, 0, none⟩ = some (.slice A (66 * m) c) ∧ w'.cell? ⟨b2, 0, none⟩ = some (.int .i64 66)) (ds := []) #[false, false, false, false, false, false, false] (by kernel_rfl) rfl rfl ⟨d1', d2⟩ (fun hHeld => ?_)
      refine pure_ (i := 2) (N := some 15) (v := ?_) (a' := ?_) #[false, false, true, false, false, false, false] rfl rfl (by kernel_rfl) (fun _ _ _ h => h) (Or.inl ⟨by rfl, ?_⟩) ?_ ?_
      rotate_left
      · intro w'
        go_simp
        with_reducible rfl
      rotate_left
      · simp only [Act.put, List.setIfInBounds_toArray, List.set_cons_zero, List.set_cons_succ, i64_w, i32_w]
        rfl
      refine take_ (i := 0) (N := some 13) (v := ?_) (a' := ?_) #[true, false, true, false, false, false, false] rfl rfl (by kernel_rfl) (fun _ _ _ h => h) (Or.inl ⟨by rfl, ?_⟩) hHeld ?_ ?_
      rotate_left
      · rintro w' ⟨s0, s1⟩
        go_simp
        with_reducible rfl
      rotate_left
      · simp only [Act.put, List.setIfInBounds_toArray, List.set_cons_zero, List.set_cons_succ, i64_w, i32_w]
        rfl
      refine take_ (i := 1) (N := some 14) (v := ?_) (a' := ?_) #[true, true, true, false, false, false, false] rfl rfl (by kernel_rfl) (fun _ _ _ h => h) (Or.inl ⟨by rfl, ?_⟩) hHeld ?_ ?_
      rotate_left
      · rintro w' ⟨s0, s1⟩
        go_simp
        with_reducible rfl
      rotate_left
      · simp only [Act.put, List.setIfInBounds_toArray, List.set_cons_zero, List.set_cons_succ, i64_w, i32_w]
        rfl
      refine pure_ (i := 3) (N := some 16) (v := ?_) (a' := ?_) #[true, true, true, true, false, false, false] rfl rfl (by kernel_rfl) (fun _ _ _ h => h) (Or.inl ⟨by rfl, ?_⟩) ?_ ?_
      rotate_left
      · intro w'
        go_simp
        with_reducible rfl
      rotate_left
      · simp only [Act.put, List.setIfInBounds_toArray, List.set_cons_zero, List.set_cons_succ, i64_w, i32_w]
        rfl
      refine pure_ (i := 4) (N := some 17) (v := ?_) (a' := ?_) #[true, true, true, true, true, false, false] rfl rfl (by kernel_rfl) (fun _ _ _ h => h) (Or.inl ⟨by rfl, ?_⟩) ?_ ?_
      rotate_left
      · intro w'
        go_simp
        with_reducible rfl
      rotate_left
      · simp only [Act.put, List.setIfInBounds_toArray, List.set_cons_zero, List.set_cons_succ, i64_w, i32_w]
        rfl
      refine pure_ (i := 5) (N := some 18) (v := ?_) (a' := ?_) #[true, true, true, true, true, true, false] rfl rfl (by kernel_rfl) (fun _ _ _ h => h) (Or.inl ⟨by rfl, ?_⟩) ?_ ?_
      rotate_left
      · intro w'
        go_simp
        with_reducible rfl
      rotate_left
      · simp only [Act.put, List.setIfInBounds_toArray, List.set_cons_zero, List.set_cons_succ, i64_w, i32_w]
        rfl
      refine pure_ (i := 6) (N := some 5) (v := ?_) (a' := ?_) #[true, true, true, true, true, true, true] rfl rfl (by kernel_rfl) (fun _ _ _ h => h) (Or.inl ⟨by rfl, ?_⟩) ?_ ?_
      rotate_left
      · intro w'
        go_simp
        with_reducible rfl
      rotate_left
      · simp only [Act.put, List.setIfInBounds_toArray, List.set_cons_zero, List.set_cons_succ, i64_w, i32_w]
        rfl
      refine done_ (by kernel_rfl) ?_
      gi_wp2
      refine AR.out.mono ?_
      rintro e W3 (⟨rfl, hJ3, hk3⟩ | ⟨rfl, hJx3⟩)
      · have hB3 : Boxes W3 b1 b2 A (66 * m) c := AB.out.keep hk3
        have q2 : W3.cell? ⟨b2, 0, none⟩ = some (.int .i64 66) := blk_cell hB3.2 0
        have htk : (List.finRange m).take (k + 1) = (List.finRange m).take k ++ [⟨k, hlt⟩] := by
          rw [List.take_add_one, List.getElem?_eq_getElem (by rw [List.length_finRange]; exact hlt), List.getElem_finRange]
          rfl
        have AK := Aside0.mk (And.intro hB3 (And.intro hJ3 htk))
        clear hB3 hJ3 hk3 htk hy hcut hcut3 hmin d1' d2
        gi_wp2
        go_roundw
        case rel => exact ⟨k + 1, num0 (by omega), hlt, AK.out.1, by rw [AK.out.2.2]; exact AK.out.2.1⟩
        case measure => simp [intOf]; omega
      · clear hy hcut hcut3 hmin
        gi_wp2
        refine bodyPost_ret (results_none rfl _ _ _) rfl ?_
        exact ⟨⟨_, rfl⟩, .inr ⟨_, trivial, hJx3⟩⟩
    · have hkm : k = m := by omega
      subst hkm
      rw [List.take_of_length_le (by rw [List.length_finRange]; exact Nat.le_refl _)] at hJk
      have AJm := Aside0.mk hJk
      clear hB hJk AJk hk hlt
      gi_wp2
      go_end0
      exact ⟨⟨_, rfl⟩, .inl ⟨_, rfl, AJm.out⟩⟩
set_option maxHeartbeats 400000 in
theorem chunk_ {A : Option Addr} {n c : Nat} (w : World) : Calls Try.prog 141 #[.slice A n c, .int .i64 66] w fun e w' =>
    e = .returned (.func (.func 155) #[] #[.pointer (some ⟨w.heap.size, 0, none⟩), .pointer (some ⟨w.heap.size + 1, 0, none⟩)]) ∧ w' = (w.alloc (.cells #[.slice A n c] 30)).alloc (.cells #[.int .i64 66] 3) := by
  have hmf : ∀ (fn : Fn) (first cap : Array Value) (w : World), (Instr.makeFunc fn first cap).run Try.prog w = .ok (.func fn first cap) w := fun _ _ _ _ => rfl
  go_enter Try.func141, Try.ntmps141
  go_wp2
  go_ret
  exact ⟨by first | rfl | (simp; done), rfl⟩
end Go.Proofs.Ytjngnigelkgekaa.Delta
namespace Go.Proofs.Ytjngnigelkgekaa.Kit
set_option linter.unusedVariables false
set_option linter.unusedSimpArgs false
open Go.RowKit Go.Proofs.YtjngnigelkgekaaW.PrintWords Go.Proofs.YtjngnigelkgekaaW.PrintLast Go.Proofs.YtjngnigelkgekaaW.PrintMore
/-- One element of one's own, as its cells. -/
def El {α : Type} (d : Kd α) (x : α) (cs : List Value) : HP where
  P W ok := d.M W 0 ok x cs ∧ ∀ k, ok k → k < W.heap.size
  loc := fun {W W' ok} h hm => ⟨d.M_move hm h.1, fun k hk => by
      have := hm k hk
      rw [Array.getElem?_eq_getElem (h.2 k hk)] at this
      exact (Array.getElem?_eq_some_iff.1 this).1⟩
  bnd := fun h => h.2
namespace Sep
variable {w0 W W' : World} {F : List HP}
theorem elSlice {α : Type} {d : Kd α} {e : Nat} {v : Value} {xs : List α} (h : Sep w0 W (Row d e v xs :: F)) : Sep w0 W (El (Kd.slice e d) xs [v] :: F) := h.imp (fun ok hp => ⟨⟨v, rfl, hp.1⟩, hp.2⟩)
theorem elPair {α β : Type} {a : Kd α} {b : Kd β} {x : α} {y : β} {p q : List Value} (h : Sep w0 W (El b y q :: F)) (hp : ∀ W base ok, a.M W base ok x p) : Sep w0 W (El (Kd.pair a b) (x, y) (p ++ q) :: F) :=
  h.imp (fun ok hq => ⟨⟨p, q, rfl, hp _ _ _, hq.1⟩, hq.2⟩)
section
variable {P : Program} {ops : Array Oper} {rest : List Oper} {o : Oper} {a : Act} {Q : Exit → Act → World → Prop} {α : Type} {d : Kd α}
theorem appendDeep {e : Nat} {v : Value} {xs : List α} {x : α} {cs : List Value} (h : Sep w0 W (Row d e v xs :: El d x cs :: F)) (hgd : o.guard = none) (s y : Operand) (t : TypeId) (z : Value) (bytes : Nat)
    (ho : o.op = .call { callee := .builtin .append, args := #[s, y], argTypes := #[t, t] })
    (ht : P.underlying t = some (.slice e)) (hinfo : (P.info? e).map (fun i => (i.zero, i.size, i.bytes)) = some (some z, d.sz, bytes)) (hz : z.cells.size = d.sz) (hs0 : 0 < d.sz) (hb0 : 0 < bytes)
    (hs : a.eval s = v) (hx : a.eval y = .slice (some ⟨W.heap.size, 0, none⟩) 1 1) (hl : (xs.length + 1) * bytes ≤ 140737488355328)
    (k : ∀ v1 w1, W.heap.size ≤ w1.heap.size → Sep w0 w1 (Row d e v1 (xs ++ [x]) :: F) → wpList P ops Q rest (a.put o.dst v1) w1) : wpList P ops Q (o :: rest) a (W.alloc (.cells cs.toArray e)) := by
  obtain ⟨ok1, hp, hd1, ok2, hq, hd2, hF⟩ := h.sep
  refine Kd.R_append d (w0 := W) 0 hgd s y t e z bytes ho ht hinfo hz hs0 hb0 v xs x cs (fun k => (ok1 k ∨ ok2 k) ∨ W.heap.size ≤ k) ok2 hs hx hq.1 (fun k hk => ⟨.inl (.inr hk), fun he => hd2 k hk (.inr (hp.1.1 k he.symm))⟩) (fun k hk => .inr hk)
    (Kd.R_mono hp.1 (fun k hk => .inl (.inl hk))) (Below.refl 0 W) (Nat.zero_le _) hl (fun v1 w1 hr hb hg hat => k v1 w1 hb.size ?_)
  refine h.stepOk (ok := fun k => ok1 k ∨ ok2 k) (ok' := fun k => ((ok1 k ∨ ok2 k) ∨ W.heap.size ≤ k) ∧ k < w1.heap.size) (fun k hk => hk.elim (hd1 k) (fun h2 h3 => hd2 k h2 (.inl h3))) (hF.weaken (fun k hk => ?_)) ⟨hg.os, hg.tape, hg.output, hg.size⟩ (fun k hlt hn => hg.block k hlt (fun he => hn (.inl (hp.1.1 k he.symm))))
    ⟨Kd.R_mono (Kd.R_bound hr) (fun k hk => ⟨hk.1, hk.2.2.1⟩), fun k hk => hk.2⟩ (fun k hk => hk.1)
  rcases hk with h3 | h3 | h3
  · exact .inl (.inl h3)
  · exact .inl (.inr h3)
  · exact .inr h3
theorem appendDeepStep {Kc : Act → World → Prop} {e : Nat} {v : Value} {xs : List α} {x : α} {cs : List Value} (h : Sep w0 W (Row d e v xs :: El d x cs :: F)) (hw : Region.wanted o (yielded ops a.tmps) = true) (s y : Operand) (t : TypeId) (z : Value) (bytes : Nat)
    (ho : o.op = .call { callee := .builtin .append, args := #[s, y], argTypes := #[t, t] })
    (ht : P.underlying t = some (.slice e)) (hinfo : (P.info? e).map (fun i => (i.zero, i.size, i.bytes)) = some (some z, d.sz, bytes)) (hz : z.cells.size = d.sz) (hs0 : 0 < d.sz) (hb0 : 0 < bytes)
    (hs : a.eval s = v) (hx : a.eval y = .slice (some ⟨W.heap.size, 0, none⟩) 1 1) (hl : (xs.length + 1) * bytes ≤ 140737488355328)
    (k : ∀ v1 w1, W.heap.size ≤ w1.heap.size → Sep w0 w1 (Row d e v1 (xs ++ [x]) :: F) → Kc (a.put o.dst v1) w1) : if Region.wanted o (yielded ops a.tmps) = true then Oper.wp P o a (W.alloc (.cells cs.toArray e)) Kc Q else Kc (a.put o.dst undef) (W.alloc (.cells cs.toArray e)) := by
  obtain ⟨ok1, hp, hd1, ok2, hq, hd2, hF⟩ := h.sep
  refine Kd.R_append_step d (w0 := W) 0 hw s y t e z bytes ho ht hinfo hz hs0 hb0 v xs x cs (fun k => (ok1 k ∨ ok2 k) ∨ W.heap.size ≤ k) ok2 hs hx hq.1 (fun k hk => ⟨.inl (.inr hk), fun he => hd2 k hk (.inr (hp.1.1 k he.symm))⟩) (fun k hk => .inr hk)
    (Kd.R_mono hp.1 (fun k hk => .inl (.inl hk))) (Below.refl 0 W) (Nat.zero_le _) hl (fun v1 w1 hr hb hg hat => k v1 w1 hb.size ?_)
  refine h.stepOk (ok := fun k => ok1 k ∨ ok2 k) (ok' := fun k => ((ok1 k ∨ ok2 k) ∨ W.heap.size ≤ k) ∧ k < w1.heap.size) (fun k hk => hk.elim (hd1 k) (fun h2 h3 => hd2 k h2 (.inl h3))) (hF.weaken (fun k hk => ?_)) ⟨hg.os, hg.tape, hg.output, hg.size⟩ (fun k hlt hn => hg.block k hlt (fun he => hn (.inl (hp.1.1 k he.symm))))
    ⟨Kd.R_mono (Kd.R_bound hr) (fun k hk => ⟨hk.1, hk.2.2.1⟩), fun k hk => hk.2⟩ (fun k hk => hk.1)
  rcases hk with h3 | h3 | h3
  · exact .inl (.inl h3)
  · exact .inl (.inr h3)
  · exact .inr h3
end
end Sep
end Go.Proofs.Ytjngnigelkgekaa.Kit
namespace Go.Proofs.Ytjngnigelkgekaa.Kit
set_option linter.unusedVariables false
set_option linter.unusedSimpArgs false
open Go.RowKit Go.Proofs.YtjngnigelkgekaaW.PrintWords Go.Proofs.YtjngnigelkgekaaW.PrintLast Go.Proofs.YtjngnigelkgekaaW.PrintMore
theorem elem_ {α : Type} {d : Kd α} {W : World} {A : Option Addr} {n : Nat} {xs : List α} (h : d.C W A n xs) {i : Nat} (hi : i < n) :
    ∃ (hx : i < xs.length) (a : Addr) (cs : List Value), A = some a ∧ d.K W xs[i] cs ∧ (∀ u, cs[0]? = some u → W.cell? (a.add (i * d.sz)) = some u) ∧
      ∀ j u, 0 < j → cs[j]? = some u → W.cell? ⟨(a.add (i * d.sz)).block, (a.add (i * d.sz)).off + j, none⟩ = some u := by
  have hx : i < xs.length := by rw [h.1]; exact hi
  obtain ⟨a, e, hr⟩ := h.2.2 (by omega)
  obtain ⟨cs, hl, hk, hc⟩ := hr i _ (List.getElem?_eq_getElem hx)
  refine ⟨hx, a, cs, e, hk, fun u hu => ?_, fun j u hj hu => ?_⟩
  · have := hc 0 u hu; rwa [Nat.add_zero] at this
  · have := hc j u hu
    rwa [add_field _ _ j hj] at this
/-- A whole number and a row: two cells. -/
theorem elem2_ {k k2 : IntKind} {e : Nat} {W : World} {A : Option Addr} {n : Nat} {xs : List (Int × List Int)} (h : (Kd.pair (Kd.int k) (Kd.slice e (Kd.int k2))).C W A n xs) {i : Nat} (hi : i < n) :
    ∃ (hx : i < xs.length) (a : Addr) (B : Option Addr) (c : Nat), A = some a ∧ W.cell? (a.add (i * 2)) = some (.int k (xs[i]).1) ∧ W.cell? ⟨(a.add (i * 2)).block, (a.add (i * 2)).off + 1, none⟩ = some (.slice B (xs[i]).2.length c) ∧
      (xs[i]).2.length ≤ c ∧ (Kd.int k2).C W B (xs[i]).2.length (xs[i]).2 := by
  obtain ⟨hx, a, cs, e, ⟨c0, c1, e1, h0, B, c, h1, h2, h3⟩, hc0, hcj⟩ := elem_ h hi
  have h0 : c0 = [.int k (xs[i]).1] := h0
  subst h0 h1 e1
  exact ⟨hx, a, B, c, e, hc0 _ rfl, hcj 1 _ (by decide) rfl, h2, h3⟩
end Go.Proofs.Ytjngnigelkgekaa.Kit
namespace Go.Proofs.Ytjngnigelkgekaa.Delta
set_option linter.unusedVariables false
set_option linter.unusedSimpArgs false
open Go.RowKit Go.Proofs.YtjngnigelkgekaaW.PrintWords Go.Proofs.YtjngnigelkgekaaW.PrintLast Go.Proofs.YtjngnigelkgekaaW.PrintMore Go.Proofs.Ytjngnigelkgekaa.Kit Go.Proofs.Ytjngnigelkgekaa.Base Go.Proofs.Ytjngnigelkgekaa.Plain
abbrev Chg := Int × List Int
abbrev KC : Kd Chg := Kd.pair (Kd.int .i64) (Kd.slice 5 (Kd.int .u8))
def two (n : Int) : List Int := [n / 256 % 256, n % 256]
def oneF (c : Chg) : List Int := two c.1 ++ c.2
def deltaF (l : List Chg) : List Int := two (l.length : Int) ++ l.flatMap oneF
def okF (pages : Int) : Int → List Chg → Bool
  | _, [] => true
  | last, c :: r => decide (¬ c.1 ≤ last ∧ ¬ pages ≤ c.1 ∧ c.2.length = 64) && okF pages c.1 r
def rightF (l : List Chg) (pages : Int) : Bool := decide (pages ≤ 64) && okF pages (-1) l
def needF (n : Int) : Int := if n < 0 ∨ 64 < n then 0 else 18 + n * 66
theorem flat_snoc (l : List Chg) (c : Chg) : (l ++ [c]).flatMap oneF = l.flatMap oneF ++ (two c.1 ++ c.2) := by rw [List.flatMap_append]; simp [oneF]
theorem flat_take_le (l : List Chg) (j : Nat) : ((l.take j).flatMap oneF).length ≤ (l.flatMap oneF).length := by
  conv => rhs; rw [← List.take_append_drop j l, List.flatMap_append, List.length_append]
  omega
theorem take_get {α : Type} {l : List α} {j : Nat} (h : j < l.length) : l.take (j + 1) = l.take j ++ [l[j]] := by
  rw [List.take_add_one, List.getElem?_eq_getElem h]; rfl
section
variable {w0 W : World} {F : List HP}
end
end Go.Proofs.Ytjngnigelkgekaa.Delta
namespace Go.Proofs.Ytjngnigelkgekaa.Delta
set_option linter.unusedVariables false
set_option linter.unusedSimpArgs false
open Go.RowKit Go.Proofs.YtjngnigelkgekaaW.PrintWords Go.Proofs.YtjngnigelkgekaaW.PrintLast Go.Proofs.YtjngnigelkgekaaW.PrintMore Go.Proofs.Ytjngnigelkgekaa.Kit Go.Proofs.Ytjngnigelkgekaa.Base Go.Proofs.Ytjngnigelkgekaa.Plain
theorem okF_drop {pages last : Int} {l : List Chg} {j : Nat} (h : j < l.length) : okF pages last (l.drop j) = (decide (¬ (l[j]).1 ≤ last ∧ ¬ pages ≤ (l[j]).1 ∧ (l[j]).2.length = 64) && okF pages (l[j]).1 (l.drop (j + 1))) := by
  rw [List.drop_eq_getElem_cons h]; rfl
set_option maxHeartbeats 1600000 in
set_option maxRecDepth 100000 in
theorem right_ {A : Option Addr} {n c : Nat} {l : List Chg} {w : World} (hr : KC.C w A n l) (pages : Int) :
    Calls Try.prog 72 #[.slice A n c, .int .i64 pages] w fun e w' => e = .returned (.bool (rightF l pages)) ∧ Below w.heap.size w w' := by
  obtain rfl : l.length = n := hr.1
  have hm : l.length ≤ 9223372036854775807 := hr.2.1
  have HR := Aside0.mk hr
  clear hr
  by_cases hp : 64 < pages
  · have hf : rightF l pages = false := by unfold rightF; rw [decide_eq_false (by omega)]; rfl
    have HF := Aside0.mk hf
    clear hf
    go_enter Try.func72, Try.ntmps72
    go_wp2_with fail
    go_ret
    exact ⟨by rw [HF.out]; first | rfl | (simp; done), Below.refl _ _⟩
  · have hf : rightF l pages = okF pages (-1) l := by unfold rightF; rw [decide_eq_true (by omega)]; rfl
    have HF := Aside0.mk hf
    clear hf
    go_enter Try.func72, Try.ntmps72
    go_wp2_with fail
    go_loopg [5, 12] l.length (fun m s p wr => ∃ (j : Nat) (last : Int), p = .int .i64 (j : Int) ∧ s = .int .i64 last ∧ j + m = l.length ∧ okF pages (-1) l = okF pages last (l.drop j) ∧ Below w.heap.size w wr)
    case atStart => exact ⟨0, -1, rfl, rfl, by omega, rfl, Below.refl _ _⟩
    case round =>
      obtain ⟨j, last, rfl, rfl, hjm, hok, hB⟩ := hrel
      have AK := Aside0.mk hjm
      have AO := Aside0.mk hok
      have AB := Aside0.mk hB
      by_cases hj : j < l.length
      · obtain ⟨hx, a, B, c2, rfl, e0, e1, e2, e3⟩ := elem2_ (Kd.C_below HR.out hB) hj
        have hdr := okF_drop (pages := pages) (last := last) hj
        have BL := Aside0.mk (((Sep.start w).below hB).newBlk 106 #[.int .i64 (l[j]).1, .slice B (l[j]).2.length c2]).toBelow
        have AD := Aside0.mk hdr
        have hlm : (l[j]).2.length ≤ 9223372036854775807 := e3.2.1
        obtain ⟨pg, hpg⟩ : ∃ pg, (l[j]).1 = pg := ⟨_, rfl⟩
        obtain ⟨bn, hbn⟩ : ∃ bn, (l[j]).2.length = bn := ⟨_, rfl⟩
        rw [hpg] at e0 hdr BL
        rw [hbn] at e1 BL hlm
        have AG := Aside0.mk (And.intro hpg hbn)
        clear hjm hok hB hdr e2 e3 hpg hbn
        by_cases h1 : pg ≤ last
        · have hF : rightF l pages = false := by rw [HF.out, AO.out, AD.out, AG.out.1]; simp [h1]
          have AF := Aside0.mk hF
          clear hF
          go_wp2_with fail
          go_ret
          exact ⟨by rw [AF.out]; first | rfl | (simp; done), BL.out⟩
        · by_cases h2 : pages ≤ pg
          · have hF : rightF l pages = false := by rw [HF.out, AO.out, AD.out, AG.out.1]; simp [h2]
            have AF := Aside0.mk hF
            clear hF
            go_wp2_with fail
            go_ret
            exact ⟨by rw [AF.out]; first | rfl | (simp; done), BL.out⟩
          · by_cases h3 : bn = 64
            · have hok2 : okF pages (-1) l = okF pages pg (l.drop (j + 1)) := by
                rw [AO.out, AD.out, AG.out.1, AG.out.2, decide_eq_true ⟨h1, h2, h3⟩]; rfl
              have AO2 := Aside0.mk hok2
              subst h3
              clear hok2
              go_wp2_with fail
              go_roundg (gk - 1)
              case measure => have := AK.out; omega
              case rel => exact ⟨j + 1, pg, by go_num, rfl, by have := AK.out; omega, AO2.out, BL.out⟩
            · have hF : rightF l pages = false := by rw [HF.out, AO.out, AD.out, AG.out.1, AG.out.2]; simp [h3]
              have AF := Aside0.mk hF
              have h4 : ¬ ((bn : Int) = 64) := by omega
              clear hF
              go_wp2_with fail
              go_ret
              exact ⟨by rw [AF.out]; first | rfl | (simp; done), BL.out⟩
      · have hjn : j = l.length := by omega
        have hT : rightF l pages = true := by rw [HF.out, AO.out, hjn, List.drop_length]; rfl
        have AT := Aside0.mk hT
        clear hT hok hB hjm
        subst hjn
        go_wp2_with fail
        go_ret
        exact ⟨by rw [AT.out]; first | rfl | (simp; done), AB.out⟩
end Go.Proofs.Ytjngnigelkgekaa.Delta
namespace Go.Proofs.Ytjngnigelkgekaa.Delta
set_option linter.unusedVariables false
set_option linter.unusedSimpArgs false
open Go.RowKit Go.Proofs.YtjngnigelkgekaaW.PrintWords Go.Proofs.YtjngnigelkgekaaW.PrintLast Go.Proofs.YtjngnigelkgekaaW.PrintMore Go.Proofs.Ytjngnigelkgekaa.Kit Go.Proofs.Ytjngnigelkgekaa.Base Go.Proofs.Ytjngnigelkgekaa.Plain
end Go.Proofs.Ytjngnigelkgekaa.Delta
