/- Sum1, Root1, Root2, Root3, Root4, StRes, Disk7: what StoreNumbers needs. -/
import Derived.Test.YtjngnigelkgekaaGreatTstoreNumbers5
import Derived.Test.YtjngnigelkgekaaGreatProg
import Derived.WalkKit
import Derived.KernelRfl
import Derived.WalkSpells
import Derived.Deep.QuietTactic
import Derived.Lib.SlBytesConst
import Derived.Deep.LoopGhost
import Derived.Laws.ResultCell
set_option linter.unusedVariables false
set_option linter.unusedSimpArgs false
namespace Go.Proofs.YtjngnigelkgekaaGreat.Sum
open Go.RowKit Go.Proofs.YtjngnigelkgekaaGreatW.PrintWords Go.Proofs.YtjngnigelkgekaaGreatW.PrintLast Go.Proofs.YtjngnigelkgekaaGreatW.PrintMore Go.Proofs.YtjngnigelkgekaaGreat.Kit Go.Proofs.YtjngnigelkgekaaGreat.Plain
theorem step_ (h x : Int) (w : World) : Calls Tryz.prog 125 #[.int .u32 h, .int .u8 x] w fun e w' => e = .returned (.int .u32 (stepF h x)) ∧ w = w' := by
  go_enter Tryz.func125, Tryz.ntmps125
  go_wp2
  go_ret
  exact ⟨by unfold stepF; simp [u32_mod], rfl⟩
set_option maxHeartbeats 400000 in
theorem of_ {A : Option Addr} {n c : Nat} {l : List Int} {w : World} (hr : B8.C w A n l) : Calls Tryz.prog 103 #[.slice A n c] w fun e w' => e = .returned (.int .u32 (sumF l)) ∧ w = w' := by
  obtain rfl : l.length = n := hr.1
  have hm : l.length ≤ 9223372036854775807 := hr.2.1
  have HR := Aside0.mk hr
  clear hr
  go_enter Tryz.func103, Tryz.ntmps103
  go_wp2_with fail
  go_loopg [3, 8] l.length (fun k s p wr => ∃ j : Nat, p = .int .i64 (j : Int) ∧ j + k = l.length ∧ s = .int .u32 (sumF (l.take j)) ∧ w = wr)
  case atStart => exact ⟨0, rfl, by omega, rfl, rfl⟩
  case round =>
    obtain ⟨j, rfl, hjk, rfl, rfl⟩ := hrel
    have AK := Aside0.mk hjk
    by_cases hj : j < l.length
    · obtain ⟨ad, hA, hc⟩ := Kd.at_int HR.out (j : Int) (by omega) (by omega)
      subst hA
      rw [Int.toNat_natCast] at hc
      have AT := Aside0.mk (take_snoc hj)
      generalize rd l (j : Int) = x at *
      clear hjk
      go_wp2_with fail
      refine (step_ _ x _).mono ?_
      rintro e w' ⟨rfl, rfl⟩
      go_wp2_with fail
      go_roundg (gk - 1)
      case measure => have := AK.out; omega
      case rel => exact ⟨j + 1, by go_num, by have := AK.out; omega, by rw [AT.out, sumF_snoc], rfl⟩
    · have hjn : j = l.length := by omega
      subst hjn
      rw [List.take_length]
      clear hjk AK
      go_wp2_with fail
      go_ret
      exact ⟨by first | rfl | (simp; done), rfl⟩
end Go.Proofs.YtjngnigelkgekaaGreat.Sum
namespace Go.Proofs.YtjngnigelkgekaaGreat.Root
open Go.RowKit Go.Proofs.YtjngnigelkgekaaGreatW.PrintWords Go.Proofs.YtjngnigelkgekaaGreatW.PrintLast Go.Proofs.YtjngnigelkgekaaGreatW.PrintMore Go.Proofs.YtjngnigelkgekaaGreat.Kit Go.Proofs.YtjngnigelkgekaaGreat.Base Go.Proofs.YtjngnigelkgekaaGreat.Plain Go.Proofs.YtjngnigelkgekaaGreat.Sum
set_option maxHeartbeats 800000 in
theorem right_ (a b c n : Int) (W : World) : Calls Tryz.prog 64 #[.agg #[.int .i64 a, .int .i64 b, .int .u32 c], .int .i64 n] W fun e w' => e = .returned (.bool (rightR a b c n)) ∧ Below W.heap.size W w' := by
  by_cases h0 : 1 ≤ a
  case neg =>
    have HR : Aside0 (rightR a b c n = false) := ⟨by unfold rightR; exact decide_eq_false (by omega)⟩
    go_enter Tryz.func64, Tryz.ntmps64
    go_wp2_with fail
    go_ret
    exact ⟨by rw [HR.out]; first | rfl | (simp; done), by repeat (first | exact Below.refl _ _ | refine below_alloc ?_ _)⟩
  by_cases h1 : a ≤ 64
  case neg =>
    have HR : Aside0 (rightR a b c n = false) := ⟨by unfold rightR; exact decide_eq_false (by omega)⟩
    go_enter Tryz.func64, Tryz.ntmps64
    go_wp2_with fail
    go_ret
    exact ⟨by rw [HR.out]; first | rfl | (simp; done), by repeat (first | exact Below.refl _ _ | refine below_alloc ?_ _)⟩
  by_cases h2 : 1 ≤ b
  case neg =>
    have HR : Aside0 (rightR a b c n = false) := ⟨by unfold rightR; exact decide_eq_false (by omega)⟩
    go_enter Tryz.func64, Tryz.ntmps64
    go_wp2_with fail
    go_ret
    exact ⟨by rw [HR.out]; first | rfl | (simp; done), by repeat (first | exact Below.refl _ _ | refine below_alloc ?_ _)⟩
  by_cases h3 : b ≤ 64
  case neg =>
    have HR : Aside0 (rightR a b c n = false) := ⟨by unfold rightR; exact decide_eq_false (by omega)⟩
    go_enter Tryz.func64, Tryz.ntmps64
    go_wp2_with fail
    go_ret
    exact ⟨by rw [HR.out]; first | rfl | (simp; done), by repeat (first | exact Below.refl _ _ | refine below_alloc ?_ _)⟩
  have hw : wrap64 (2 + a) = 2 + a := IntWalk.wrap64_in _ (by omega)
  have hw2 : wrap64 (2 + a + b) = 2 + a + b := IntWalk.wrap64_in _ (by omega)
  by_cases h4 : 2 + a + b ≤ n
  case neg =>
    have HR : Aside0 (rightR a b c n = false) := ⟨by unfold rightR; exact decide_eq_false (by omega)⟩
    go_enter Tryz.func64, Tryz.ntmps64
    go_wp2_with fail
    go_ret
    exact ⟨by rw [HR.out]; first | rfl | (simp; done), by repeat (first | exact Below.refl _ _ | refine below_alloc ?_ _)⟩
  by_cases h5 : 1 ≤ c
  case neg =>
    have HR : Aside0 (rightR a b c n = false) := ⟨by unfold rightR; exact decide_eq_false (by omega)⟩
    go_enter Tryz.func64, Tryz.ntmps64
    go_wp2_with fail
    go_ret
    exact ⟨by rw [HR.out]; first | rfl | (simp; done), by repeat (first | exact Below.refl _ _ | refine below_alloc ?_ _)⟩
  have HR : Aside0 (rightR a b c n = true) := ⟨by unfold rightR; exact decide_eq_true (by omega)⟩
  go_enter Tryz.func64, Tryz.ntmps64
  go_wp2_with fail
  go_ret
  exact ⟨by rw [HR.out]; first | rfl | (simp; done), by repeat (first | exact Below.refl _ _ | refine below_alloc ?_ _)⟩
set_option maxHeartbeats 800000 in
theorem rright_ (a b c n : Int) (W : World) : Calls Tryz.prog 77 #[.agg #[.int .i64 a, .int .i64 b, .int .u32 c], .int .i64 n] W fun e w' => e = .returned (.bool (rightR a b c n)) ∧ Below W.heap.size W w' := by
  by_cases h0 : 1 ≤ a
  case neg =>
    have HR : Aside0 (rightR a b c n = false) := ⟨by unfold rightR; exact decide_eq_false (by omega)⟩
    go_enter Tryz.func77, Tryz.ntmps77
    go_wp2_with fail
    go_ret
    exact ⟨by rw [HR.out]; first | rfl | (simp; done), by repeat (first | exact Below.refl _ _ | refine below_alloc ?_ _)⟩
  by_cases h1 : a ≤ 64
  case neg =>
    have HR : Aside0 (rightR a b c n = false) := ⟨by unfold rightR; exact decide_eq_false (by omega)⟩
    go_enter Tryz.func77, Tryz.ntmps77
    go_wp2_with fail
    go_ret
    exact ⟨by rw [HR.out]; first | rfl | (simp; done), by repeat (first | exact Below.refl _ _ | refine below_alloc ?_ _)⟩
  by_cases h2 : 1 ≤ b
  case neg =>
    have HR : Aside0 (rightR a b c n = false) := ⟨by unfold rightR; exact decide_eq_false (by omega)⟩
    go_enter Tryz.func77, Tryz.ntmps77
    go_wp2_with fail
    go_ret
    exact ⟨by rw [HR.out]; first | rfl | (simp; done), by repeat (first | exact Below.refl _ _ | refine below_alloc ?_ _)⟩
  by_cases h3 : b ≤ 64
  case neg =>
    have HR : Aside0 (rightR a b c n = false) := ⟨by unfold rightR; exact decide_eq_false (by omega)⟩
    go_enter Tryz.func77, Tryz.ntmps77
    go_wp2_with fail
    go_ret
    exact ⟨by rw [HR.out]; first | rfl | (simp; done), by repeat (first | exact Below.refl _ _ | refine below_alloc ?_ _)⟩
  have hw : wrap64 (2 + a) = 2 + a := IntWalk.wrap64_in _ (by omega)
  have hw2 : wrap64 (2 + a + b) = 2 + a + b := IntWalk.wrap64_in _ (by omega)
  by_cases h4 : 2 + a + b ≤ n
  case neg =>
    have HR : Aside0 (rightR a b c n = false) := ⟨by unfold rightR; exact decide_eq_false (by omega)⟩
    go_enter Tryz.func77, Tryz.ntmps77
    go_wp2_with fail
    go_ret
    exact ⟨by rw [HR.out]; first | rfl | (simp; done), by repeat (first | exact Below.refl _ _ | refine below_alloc ?_ _)⟩
  by_cases h5 : 1 ≤ c
  case neg =>
    have HR : Aside0 (rightR a b c n = false) := ⟨by unfold rightR; exact decide_eq_false (by omega)⟩
    go_enter Tryz.func77, Tryz.ntmps77
    go_wp2_with fail
    go_ret
    exact ⟨by rw [HR.out]; first | rfl | (simp; done), by repeat (first | exact Below.refl _ _ | refine below_alloc ?_ _)⟩
  have HR : Aside0 (rightR a b c n = true) := ⟨by unfold rightR; exact decide_eq_true (by omega)⟩
  go_enter Tryz.func77, Tryz.ntmps77
  go_wp2_with fail
  go_ret
  exact ⟨by rw [HR.out]; first | rfl | (simp; done), by repeat (first | exact Below.refl _ _ | refine below_alloc ?_ _)⟩
set_option maxHeartbeats 800000 in
theorem home_ (a b c page : Int) (W : World) : Calls Tryz.prog 120 #[.agg #[.int .i64 a, .int .i64 b, .int .u32 c], .int .i64 page] W fun e w' => e = .returned (.int .i64 (homeF a b page)) ∧ Below W.heap.size W w' := by
  by_cases h1 : page < 0
  case pos =>
    have HR : Aside0 (homeF a b page = -1) := ⟨by unfold homeF; rw [if_pos (by omega)]⟩
    go_enter Tryz.func120, Tryz.ntmps120
    go_wp2_with fail
    go_ret
    exact ⟨by rw [HR.out]; first | rfl | (simp; done), by repeat (first | exact Below.refl _ _ | refine below_alloc ?_ _)⟩
  by_cases h2 : b ≤ page
  case pos =>
    have HR : Aside0 (homeF a b page = -1) := ⟨by unfold homeF; rw [if_pos (by omega)]⟩
    go_enter Tryz.func120, Tryz.ntmps120
    go_wp2_with fail
    go_ret
    exact ⟨by rw [HR.out]; first | rfl | (simp; done), by repeat (first | exact Below.refl _ _ | refine below_alloc ?_ _)⟩
  have HR : Aside0 (homeF a b page = wrap64 (wrap64 (2 + a) + page)) := ⟨by unfold homeF; rw [if_neg (by omega)]⟩
  go_enter Tryz.func120, Tryz.ntmps120
  go_wp2_with fail
  go_ret
  exact ⟨by rw [HR.out]; first | rfl | (simp; done), by repeat (first | exact Below.refl _ _ | refine below_alloc ?_ _)⟩
set_option maxHeartbeats 800000 in
theorem rhome_ (a b c page : Int) (W : World) : Calls Tryz.prog 95 #[.agg #[.int .i64 a, .int .i64 b, .int .u32 c], .int .i64 page] W fun e w' => e = .returned (.int .i64 (homeF a b page)) ∧ Below W.heap.size W w' := by
  by_cases h1 : page < 0
  case pos =>
    have HR : Aside0 (homeF a b page = -1) := ⟨by unfold homeF; rw [if_pos (by omega)]⟩
    go_enter Tryz.func95, Tryz.ntmps95
    go_wp2_with fail
    go_ret
    exact ⟨by rw [HR.out]; first | rfl | (simp; done), by repeat (first | exact Below.refl _ _ | refine below_alloc ?_ _)⟩
  by_cases h2 : b ≤ page
  case pos =>
    have HR : Aside0 (homeF a b page = -1) := ⟨by unfold homeF; rw [if_pos (by omega)]⟩
    go_enter Tryz.func95, Tryz.ntmps95
    go_wp2_with fail
    go_ret
    exact ⟨by rw [HR.out]; first | rfl | (simp; done), by repeat (first | exact Below.refl _ _ | refine below_alloc ?_ _)⟩
  have HR : Aside0 (homeF a b page = wrap64 (wrap64 (2 + a) + page)) := ⟨by unfold homeF; rw [if_neg (by omega)]⟩
  go_enter Tryz.func95, Tryz.ntmps95
  go_wp2_with fail
  go_ret
  exact ⟨by rw [HR.out]; first | rfl | (simp; done), by repeat (first | exact Below.refl _ _ | refine below_alloc ?_ _)⟩
theorem lit_C (w : World) (k : IntKind) (C : Array Value) (t : TypeId) (fr : Nat × Nat) (xs : List Int) (hC : C = (xs.map (Value.int k)).toArray) (hn : xs.length ≤ 9223372036854775807) :
    Kd.C (Kd.int k) (w.alloc (.cells C t fr)) (some ⟨w.heap.size, 0, none⟩) xs.length xs := by
  subst hC
  refine Kd.C_of_reads (enc := Value.int k) (d := 0) (h1 := fun _ => rfl) ⟨rfl, hn, fun _ => ⟨_, rfl, fun j hj => ?_⟩⟩
  rw [add_plain, World.cell?_alloc_mark]
  simp [List.getD_eq_getElem?_getD, hj]
abbrev KU : Kd Int := Kd.int .u32
def m32 (x : Int) : Int := x % 4294967296
theorem m32_in (x : Int) : 0 ≤ m32 x ∧ m32 x ≤ 4294967295 := by unfold m32; omega
theorem m32_wrap (x : Int) : IntKind.u32.wrap x = m32 x := IntKind.wrap_u32 x
theorem m32_id {x : Int} (h0 : 0 ≤ x) (h1 : x ≤ 4294967295) : m32 x = x := by unfold m32; omega
set_option maxHeartbeats 800000 in
set_option maxRecDepth 100000 in
theorem bytes_ (a b c : Int) (hc : 0 ≤ c ∧ c ≤ 4294967295) (w : World) :
    Calls Tryz.prog 68 #[.agg #[.int .i64 a, .int .i64 b, .int .u32 c]] w fun e w' => ∃ v, e = .returned v ∧ Sep w w' [Row U8 5 v (rootF (m32 a) (m32 b) c)] := by
  have kc := fun (C : Array Value) (n cp : Nat) => Lib.run_convert_bytes_const (P := Tryz.prog) (w.alloc (.cells #[.int .i64 a, .int .i64 b, .int .u32 c] 80)) 24 5 C n cp Tryz.underlying24 Tryz.underlying5
  rw [show ∀ o : Obj, (w.alloc o).heap.size = w.heap.size + 1 from fun o => by simp] at kc
  have HI := Aside0.mk (And.intro (m32_in a) (And.intro (m32_in b) hc))
  have w1 := m32_wrap a
  have w2 := m32_wrap b
  clear hc
  generalize m32 a = x at *
  generalize m32 b = y at *
  go_enter Tryz.func68, Tryz.ntmps68
  go_wp2_with fail
  clear kc w1 w2
  go_loopg [3, 18] 3 (fun k v p wr => ∃ (j : Nat) (A : Option Addr) (n cp : Nat) (l : List Int), p = .int .i64 (j : Int) ∧ j + k = 3 ∧ v = .slice A n cp ∧ n ≤ 16 ∧ l = markL ++ (([x, y, c].take j).flatMap put4) ∧ U8.C wr A n l ∧ Sep w wr [Row KU 78 (.slice (some ⟨w.heap.size + 1 + 1, 0, none⟩) 3 3) [x, y, c]])
  case atStart =>
    have h1 := Kd.C_alloc (lit_C (w.alloc (.cells #[.int .i64 a, .int .i64 b, .int .u32 c] 80)) .u8 #[.int .u8 69, .int .u8 78, .int .u8 71, .int .u8 49] 5 (4, 5) markL rfl (by decide)) (.cells #[.int .u32 x, .int .u32 y, .int .u32 c] 78)
    rw [show ∀ o : Obj, (w.alloc o).heap.size = w.heap.size + 1 from fun o => by simp] at h1
    refine ⟨0, _, _, _, markL, rfl, rfl, rfl, by decide, by simp, h1, ?_⟩
    have h := (((Sep.start w).alloc (.cells #[.int .i64 a, .int .i64 b, .int .u32 c] 80)).alloc (.cells #[.int .u8 69, .int .u8 78, .int .u8 71, .int .u8 49] 5 (4, 5))).litRow (enc := Value.int .u32) (h1 := fun _ => rfl) (e := 78) [x, y, c] (by simp)
    rw [show ∀ o o2 : Obj, ((w.alloc o).alloc o2).heap.size = w.heap.size + 1 + 1 from fun o o2 => by simp] at h
    exact h
  case round =>
    obtain ⟨j, A, n, cp, l, rfl, hjk, rfl, hn, hl, hC, hS⟩ := hrel
    have AS := Aside0.mk hS
    have HC := Aside0.mk hC
    have HL := Aside0.mk hl
    have AK := Aside0.mk hjk
    by_cases hj : j < 3
    · rcases (by omega : j = 0 ∨ j = 1 ∨ j = 2) with rfl | rfl | rfl
      · have z0 := (hS.rowCell (enc := Value.int .u32) 0 0 (by decide)).1
        have hnj : n = 4 := by have := hC.1; rw [hl] at this; simpa [markL, put4] using this.symm
        subst hnj
        clear hS hC hl hjk
        go_wp2_with fail
        refine (put_ (m := x) HC.out HI.out.1 (by decide)).mono ?_
        rintro e w1 ⟨v1, rfl, hS1⟩
        obtain ⟨A1, c1, rfl⟩ := hS1.rowN (n := 8) (by rw [List.length_append, HC.out.1, put4_length])
        have B1 := Aside0.mk (AS.out.lift1 hS1)
        clear hS1
        go_wp2_with fail
        go_roundg (gk - 1)
        case measure => have := AK.out; omega
        case rel => exact ⟨1, A1, 8, c1, l ++ put4 x, by go_num, by have := AK.out; omega, rfl, by decide, by rw [HL.out]; simp, B1.out.rowC', B1.out.tail⟩
      · have z0 := (hS.rowCell (enc := Value.int .u32) 0 1 (by decide)).1
        have hnj : n = 8 := by have := hC.1; rw [hl] at this; simpa [markL, put4] using this.symm
        subst hnj
        clear hS hC hl hjk
        go_wp2_with fail
        refine (put_ (m := y) HC.out HI.out.2.1 (by decide)).mono ?_
        rintro e w1 ⟨v1, rfl, hS1⟩
        obtain ⟨A1, c1, rfl⟩ := hS1.rowN (n := 12) (by rw [List.length_append, HC.out.1, put4_length])
        have B1 := Aside0.mk (AS.out.lift1 hS1)
        clear hS1
        go_wp2_with fail
        go_roundg (gk - 1)
        case measure => have := AK.out; omega
        case rel => exact ⟨2, A1, 12, c1, l ++ put4 y, by go_num, by have := AK.out; omega, rfl, by decide, by rw [HL.out]; simp, B1.out.rowC', B1.out.tail⟩
      · have z0 := (hS.rowCell (enc := Value.int .u32) 0 2 (by decide)).1
        have hnj : n = 12 := by have := hC.1; rw [hl] at this; simpa [markL, put4] using this.symm
        subst hnj
        clear hS hC hl hjk
        go_wp2_with fail
        refine (put_ (m := c) HC.out HI.out.2.2 (by decide)).mono ?_
        rintro e w1 ⟨v1, rfl, hS1⟩
        obtain ⟨A1, c1, rfl⟩ := hS1.rowN (n := 16) (by rw [List.length_append, HC.out.1, put4_length])
        have B1 := Aside0.mk (AS.out.lift1 hS1)
        clear hS1
        go_wp2_with fail
        go_roundg (gk - 1)
        case measure => have := AK.out; omega
        case rel => exact ⟨3, A1, 16, c1, l ++ put4 c, by go_num, by have := AK.out; omega, rfl, by decide, by rw [HL.out]; simp, B1.out.rowC', B1.out.tail⟩
    · obtain rfl : j = 3 := by omega
      have hl2 : l = headR x y c := by rw [hl]; simp [headR]
      subst hl2
      have hn16 : n = 16 := hC.1.symm
      subst hn16
      clear hS hC hl HL hjk hj
      go_wp2_with fail
      refine (Sum.of_ HC.out).mono ?_
      rintro e w1 ⟨rfl, rfl⟩
      go_wp2_with fail
      refine (put_ (m := sumF (headR x y c)) HC.out (sumF_in _) (by decide)).mono ?_
      rintro e w2 ⟨v2, rfl, hS2⟩
      obtain ⟨A2, c2, rfl⟩ := hS2.rowN (n := 20) rfl
      have B2 := Aside0.mk (AS.out.lift1 hS2)
      clear hS2
      go_wp2_with (first | (refine gate_builtin (b := .append) (xs := #[.tmp 30, .tmp 33]) rfl ?_; go_loud (refine B2.out.zerosRow (0 : Int) rfl (.tmp 30) (.tmp 33) 24 3 1 rfl Tryz.underlying24 Tryz.underlying3 infoB rfl (by decide) 44 rfl rfl (by rw [List.length_append, headR_len, put4_length]; decide) ?_; intro v3 w3 hS3; have B3 : Aside0 (Sep w w3 [Row U8 5 v3 (rootF x y c)]) := ⟨Sep.weakR (L := [_]) hS3⟩; clear hS3)))
      go_ret
      exact ⟨_, by first | rfl | (simp; done), B3.out⟩
end Go.Proofs.YtjngnigelkgekaaGreat.Root
namespace Go.Proofs.YtjngnigelkgekaaGreat.Root
open Go.RowKit Go.Proofs.YtjngnigelkgekaaGreatW.PrintWords Go.Proofs.YtjngnigelkgekaaGreatW.PrintLast Go.Proofs.YtjngnigelkgekaaGreatW.PrintMore Go.Proofs.YtjngnigelkgekaaGreat.Kit Go.Proofs.YtjngnigelkgekaaGreat.Base Go.Proofs.YtjngnigelkgekaaGreat.Plain Go.Proofs.YtjngnigelkgekaaGreat.Sum
theorem rstep_ (h x : Int) (w : World) : Calls Tryz.prog 115 #[.int .u32 h, .int .u8 x] w fun e w' => e = .returned (.int .u32 (stepF h x)) ∧ w = w' := by
  go_enter Tryz.func115, Tryz.ntmps115
  go_wp2
  go_ret
  exact ⟨by unfold stepF; simp [u32_mod], rfl⟩
set_option maxHeartbeats 400000 in
theorem rsum_ {A : Option Addr} {n c : Nat} {l : List Int} {w : World} (hr : B8.C w A n l) : Calls Tryz.prog 89 #[.slice A n c] w fun e w' => e = .returned (.int .u32 (sumF l)) ∧ w = w' := by
  obtain rfl : l.length = n := hr.1
  have hm : l.length ≤ 9223372036854775807 := hr.2.1
  have HR := Aside0.mk hr
  clear hr
  go_enter Tryz.func89, Tryz.ntmps89
  go_wp2_with fail
  go_loopg [3, 4] l.length (fun k s p wr => ∃ j : Nat, p = .int .i64 (j : Int) ∧ j + k = l.length ∧ s = .int .u32 (sumF (l.take j)) ∧ w = wr)
  case atStart => exact ⟨0, rfl, by omega, rfl, rfl⟩
  case round =>
    obtain ⟨j, rfl, hjk, rfl, rfl⟩ := hrel
    have AK := Aside0.mk hjk
    by_cases hj : j < l.length
    · obtain ⟨ad, hA, hc⟩ := Kd.at_int HR.out (j : Int) (by omega) (by omega)
      subst hA
      rw [Int.toNat_natCast] at hc
      have AT := Aside0.mk (take_snoc hj)
      have hjl : (j : Int) < (l.length : Int) := by omega
      generalize rd l (j : Int) = x at *
      clear hjk
      go_wp2_with fail
      refine (rstep_ _ x _).mono ?_
      rintro e w' ⟨rfl, rfl⟩
      go_wp2_with fail
      go_roundg (gk - 1)
      case measure => have := AK.out; omega
      case rel => exact ⟨j + 1, by go_num, by have := AK.out; omega, by rw [AT.out, sumF_snoc], rfl⟩
    · have hjn : j = l.length := by omega
      subst hjn
      rw [List.take_length]
      clear hjk AK
      go_wp2_with fail
      go_ret
      exact ⟨by first | rfl | (simp; done), rfl⟩
set_option maxHeartbeats 800000 in
theorem rget_out {A : Option Addr} {n c : Nat} {l : List Int} {a : Int} {w : World} (hr : B8.C w A n l) (ha : a < 0 ∨ (l.length : Int) - 4 < a) :
    Calls Tryz.prog 126 #[.slice A n c, .int .i64 a] w fun e w' => e = .returned (.int .u32 (getF l a)) ∧ Below w.heap.size w w' := by
  obtain rfl : l.length = n := hr.1
  have hm : l.length ≤ 9223372036854775807 := hr.2.1
  have hg : getF l a = 0 := by unfold getF; rw [if_pos ha]
  have HG := Aside0.mk hg
  clear hr hg
  by_cases h0 : a < 0
  · clear ha
    go_enter Tryz.func126, Tryz.ntmps126
    go_wp2
    go_ret
    exact ⟨by rw [HG.out]; first | rfl | (simp; done), Below.refl _ _⟩
  · have h1 : (l.length : Int) - 4 < a := by omega
    clear ha
    go_enter Tryz.func126, Tryz.ntmps126
    go_wp2
    go_ret
    exact ⟨by rw [HG.out]; first | rfl | (simp; done), Below.refl _ _⟩
set_option maxHeartbeats 800000 in
set_option maxRecDepth 100000 in
theorem rget_in {A : Option Addr} {n c : Nat} {l : List Int} {a : Nat} {w : World} (hr : B8.C w A n l) (hb : Bytes l) (ha : a + 4 ≤ n) :
    Calls Tryz.prog 126 #[.slice A n c, .int .i64 (a : Int)] w fun e w' => e = .returned (.int .u32 (getF l (a : Int))) ∧ Below w.heap.size w w' := by
  obtain rfl : l.length = n := hr.1
  have hm : l.length ≤ 9223372036854775807 := hr.2.1
  have h0 : ¬ (a : Int) < 0 := by omega
  have h1 : ¬ (l.length : Int) - 4 < (a : Int) := by omega
  have w0 : wrap64 ((l.length : Int) - 4) = (l.length : Int) - 4 := IntWalk.wrap64_in _ (by omega)
  have t1 : ((a : Int) + 1).toNat = a + 1 := by omega
  have g1 : 0 ≤ (a : Int) + 1 := by omega
  have w1 : IntKind.i64.wrap ((a : Int) + 1) = (a : Int) + 1 := by rw [IntKind.wrap_i64]; omega
  have t2 : ((a : Int) + 2).toNat = a + 2 := by omega
  have g2 : 0 ≤ (a : Int) + 2 := by omega
  have w2 : IntKind.i64.wrap ((a : Int) + 2) = (a : Int) + 2 := by rw [IntKind.wrap_i64]; omega
  have t3 : ((a : Int) + 3).toNat = a + 3 := by omega
  have g3 : 0 ≤ (a : Int) + 3 := by omega
  have w3 : IntKind.i64.wrap ((a : Int) + 3) = (a : Int) + 3 := by rw [IntKind.wrap_i64]; omega
  have hg : getF l (a : Int) = ((rd l (a : Int) * 256 + rd l ((a : Int) + 1)) * 256 + rd l ((a : Int) + 2)) * 256 + rd l ((a : Int) + 3) := by unfold getF; rw [if_neg (by omega)]
  have HB0 := hb.at (a : Int)
  have HB1 := hb.at ((a : Int) + 1)
  have HB2 := hb.at ((a : Int) + 2)
  have HB3 := hb.at ((a : Int) + 3)
  obtain ⟨ad, hA, z0⟩ := Kd.at_int hr (a : Int) (by omega) (by omega)
  obtain ⟨ad1, hA1, z1⟩ := Kd.at_int hr ((a : Int) + 1) (by omega) (by omega)
  obtain ⟨ad2, hA2, z2⟩ := Kd.at_int hr ((a : Int) + 2) (by omega) (by omega)
  obtain ⟨ad3, hA3, z3⟩ := Kd.at_int hr ((a : Int) + 3) (by omega) (by omega)
  subst hA
  cases hA1
  cases hA2
  cases hA3
  rw [Int.toNat_natCast] at z0
  rw [show ((a : Int) + 1).toNat = a + 1 by omega] at z1
  rw [show ((a : Int) + 2).toNat = a + 2 by omega] at z2
  rw [show ((a : Int) + 3).toNat = a + 3 by omega] at z3
  have hb0 : (a : Int) < (l.length : Int) := by omega
  have hb1 : (a : Int) + 1 < (l.length : Int) := by omega
  have hb2 : (a : Int) + 2 < (l.length : Int) := by omega
  have hb3 : (a : Int) + 3 < (l.length : Int) := by omega
  generalize rd l (a : Int) = x0 at *
  generalize rd l ((a : Int) + 1) = x1 at *
  generalize rd l ((a : Int) + 2) = x2 at *
  generalize rd l ((a : Int) + 3) = x3 at *
  have hf := four_or HB0.1 HB0.2 HB1.1 HB1.2 HB2.1 HB2.2 HB3.1 HB3.2
  have HF := Aside0.mk (hf.trans hg.symm)
  have u0 : ∀ q, (w.drewN q).cell? (ad.add a) = some (.int .u8 x0) := fun q => cell_later (pw_below_drewN (Below.refl _ _) q) z0
  have u1 : ∀ q, (w.drewN q).cell? ⟨ad.block, ad.off + (a + 1), none⟩ = some (.int .u8 x1) := fun q => cell_later (pw_below_drewN (Below.refl _ _) q) z1
  have u2 : ∀ q, (w.drewN q).cell? ⟨ad.block, ad.off + (a + 2), none⟩ = some (.int .u8 x2) := fun q => cell_later (pw_below_drewN (Below.refl _ _) q) z2
  have u3 : ∀ q, (w.drewN q).cell? ⟨ad.block, ad.off + (a + 3), none⟩ = some (.int .u8 x3) := fun q => cell_later (pw_below_drewN (Below.refl _ _) q) z3
  clear hr hb hg hf HB0 HB1 HB2 HB3 z0 z1 z2 z3
  go_enter Tryz.func126, Tryz.ntmps126
  go_wp2_with fail
  go_quiet (fail)
  go_wp2_with fail
  go_ret
  exact ⟨by rw [← HF.out]; first | rfl | (simp [u32_mod]; done), pw_below_drewN (Below.refl _ _) _⟩
theorem rget_ {A : Option Addr} {n c : Nat} {l : List Int} {a : Int} {w : World} (hr : B8.C w A n l) (hb : Bytes l) :
    Calls Tryz.prog 126 #[.slice A n c, .int .i64 a] w fun e w' => e = .returned (.int .u32 (getF l a)) ∧ Below w.heap.size w w' := by
  have hl := hr.1
  by_cases ha : a < 0 ∨ (l.length : Int) - 4 < a
  · exact rget_out hr ha
  · obtain ⟨k, rfl⟩ : ∃ k : Nat, a = (k : Int) := ⟨a.toNat, by omega⟩
    exact rget_in hr hb (by omega)
set_option maxHeartbeats 800000 in
set_option maxRecDepth 100000 in
theorem rput_ {A : Option Addr} {n c : Nat} {l : List Int} {m : Int} {w : World} (hr : B8.C w A n l) (hm : 0 ≤ m ∧ m ≤ 4294967295) (hl : n ≤ 140737488355320) :
    Calls Tryz.prog 88 #[.slice A n c, .int .u32 m] w fun e w' => ∃ v, e = .returned v ∧ Sep w w' [Row B8 5 v (l ++ put4 m)] := by
  obtain rfl : l.length = n := hr.1
  have HR := Aside0.mk hr
  have L0 := Aside0.mk ((Sep.start w).litRow (enc := Value.int .u8) (h1 := fun _ => rfl) (e := 5) [] (by decide))
  have hp : Aside0 (put4 m = [m / 16777216 % 256, m / 65536 % 256, m / 256 % 256, m % 256]) := ⟨rfl⟩
  have s24 := shr32 m 24 (by decide)
  have s16 := shr32 m 16 (by decide)
  have s8 := shr32 m 8 (by decide)
  have L3 : ∀ W : World, ∀ F : List HP, Sep w W F → Sep w (W.alloc (.cells #[.int .u8 (m / 16777216 % 256), .int .u8 (m / 65536 % 256), .int .u8 (m / 256 % 256), .int .u8 (m % 256)] 5)) (Row B8 5 (.slice (some ⟨W.heap.size, 0, none⟩) 4 4) (put4 m) :: F) := fun W F h => h.litRow (enc := Value.int .u8) (h1 := fun _ => rfl) (e := 5) (put4 m) (by simp [put4])
  have HL3 := Aside0.mk L3
  clear hr hm L3
  go_enter Tryz.func88, Tryz.ntmps88
  go_wp2_with (first | (refine gate_builtin (b := .append) (xs := #[.tmp 5, .tmp 6]) rfl ?_; go_loud (refine L0.out.appendRow rfl (.tmp 5) (.tmp 6) 24 (.int .u8 0) 1 rfl Tryz.underlying24 infoB8 rfl (by decide) A l.length c rfl rfl (Kd.C_alloc HR.out _) (by simp; omega) ?_; intro v1 w1 hS1; rw [List.nil_append] at hS1; obtain ⟨A1, c1, rfl⟩ := hS1.rowV; have A1' := Aside0.mk (HL3.out _ _ hS1).at2; clear hS1)) | (refine gate_builtin (b := .append) (xs := #[.tmp 7, .tmp 19]) rfl ?_; go_loud (refine A1'.out.appendRow rfl (.tmp 7) (.tmp 19) 24 (.int .u8 0) 1 rfl Tryz.underlying24 infoB8 rfl (by decide) (some ⟨w1.heap.size, 0, none⟩) 4 4 rfl rfl A1'.out.at2.rowC.2.2 (by rw [put4_length]; omega) ?_; intro v2 w2 hS2; have A2 := Aside0.mk (Sep.weakR (L := [_]) hS2); clear hS2)))
  go_ret
  exact ⟨_, by first | rfl | (simp; done), A2.out⟩
end Go.Proofs.YtjngnigelkgekaaGreat.Root
namespace Go.Proofs.YtjngnigelkgekaaGreat.Root
open Go.RowKit Go.Proofs.YtjngnigelkgekaaGreatW.PrintWords Go.Proofs.YtjngnigelkgekaaGreatW.PrintLast Go.Proofs.YtjngnigelkgekaaGreatW.PrintMore Go.Proofs.YtjngnigelkgekaaGreat.Kit Go.Proofs.YtjngnigelkgekaaGreat.Base Go.Proofs.YtjngnigelkgekaaGreat.Plain Go.Proofs.YtjngnigelkgekaaGreat.Sum
set_option maxHeartbeats 800000 in
set_option maxRecDepth 100000 in
theorem rroot_ (a b c : Int) (hc : 0 ≤ c ∧ c ≤ 4294967295) (w : World) :
    Calls Tryz.prog 45 #[.agg #[.int .i64 a, .int .i64 b, .int .u32 c]] w fun e w' => ∃ v, e = .returned v ∧ Sep w w' [Row U8 5 v (rootF (m32 a) (m32 b) c)] := by
  have hsz : (w.alloc (.cells #[.int .i64 a, .int .i64 b, .int .u32 c] 80)).drew.heap.size = w.heap.size + 1 := by simp
  have kc := fun (C : Array Value) (n cp : Nat) => Lib.run_convert_bytes_const (P := Tryz.prog) (w.alloc (.cells #[.int .i64 a, .int .i64 b, .int .u32 c] 80)).drew 24 5 C n cp Tryz.underlying24 Tryz.underlying5
  rw [hsz] at kc
  have HI := Aside0.mk (And.intro (m32_in a) (And.intro (m32_in b) hc))
  have w1 := m32_wrap a
  have w2 := m32_wrap b
  have A0 := Aside0.mk ((Sep.start w).newBlk 80 #[.int .i64 a, .int .i64 b, .int .u32 c]).drew
  have A1 := Aside0.mk (A0.out.alloc (.cells #[.int .u8 69, .int .u8 78, .int .u8 71, .int .u8 49] 5))
  have A2 := Aside0.mk (A0.out.alloc (.cells #[.int .u8 69, .int .u8 78, .int .u8 71, .int .u8 49] 5 (4, 5)))
  have HC := lit_C (w.alloc (.cells #[.int .i64 a, .int .i64 b, .int .u32 c] 80)).drew .u8 #[.int .u8 69, .int .u8 78, .int .u8 71, .int .u8 49] 5 (4, 5) markL rfl (by decide)
  rw [hsz] at HC
  have HLC := Aside0.mk HC
  clear hc HC
  simp only [World.alloc_drew] at kc A1 A2 HLC
  generalize m32 a = x at *
  generalize m32 b = y at *
  go_enter Tryz.func45, Tryz.ntmps45
  go_wp2_with fail
  refine start_ (n := 14) (S := fun w' => w'.cell? ⟨w.heap.size, 0, none⟩ = some (.int .i64 a) ∧ w'.cell? ⟨w.heap.size, 1, none⟩ = some (.int .i64 b) ∧ w'.cell? ⟨w.heap.size, 2, none⟩ = some (.int .u32 c)) (ds := [12]) #[Z,Z,Z,Z,Z,Z,Z,Z,Z,Z,Z,Z,Z,Z] (by kernel_rfl) rfl rfl ⟨(A0.out.cell 0).trans rfl, (A0.out.cell 1).trans rfl, (A0.out.cell 2).trans rfl⟩ (fun hHeld => ?_)
  refine pu_ 2 6 ?_ #[Z,Z,J,Z,Z,Z,Z,Z,Z,Z,Z,Z,Z,Z] rfl rfl ?_ ?_ ?_ ?_
  rotate_left
  · intro w'
    go_simp
    with_reducible rfl
  rotate_left
  · simp only [aP]
    rfl
  refine pu_ 6 10 ?_ #[Z,Z,J,Z,Z,Z,J,Z,Z,Z,Z,Z,Z,Z] rfl rfl ?_ ?_ ?_ ?_
  rotate_left
  · intro w'
    go_simp
    with_reducible rfl
  rotate_left
  · simp only [aP]
    rfl
  refine pu_ 10 14 ?_ #[Z,Z,J,Z,Z,Z,J,Z,Z,Z,J,Z,Z,Z] rfl rfl ?_ ?_ ?_ ?_
  rotate_left
  · intro w'
    go_simp
    with_reducible rfl
  rotate_left
  · simp only [aP]
    rfl
  refine ta_ 3 7 ?_ #[Z,Z,J,J,Z,Z,J,Z,Z,Z,J,Z,Z,Z] rfl rfl ?_ hHeld ?_ ?_ ?_
  rotate_left
  · rintro w' ⟨s0, s1, s2⟩
    go_simp
    with_reducible rfl
  rotate_left
  · simp only [aP]
    rfl
  refine pu_ 4 8 ?_ #[Z,Z,J,J,J,Z,J,Z,Z,Z,J,Z,Z,Z] rfl rfl ?_ ?_ ?_ ?_
  rotate_left
  · intro w'
    go_simp
    with_reducible rfl
  rotate_left
  · simp only [aP]
    rfl
  refine ta_ 7 11 ?_ #[Z,Z,J,J,J,Z,J,J,Z,Z,J,Z,Z,Z] rfl rfl ?_ hHeld ?_ ?_ ?_
  rotate_left
  · rintro w' ⟨s0, s1, s2⟩
    go_simp
    with_reducible rfl
  rotate_left
  · simp only [aP]
    rfl
  refine pu_ 8 12 ?_ #[Z,Z,J,J,J,Z,J,J,J,Z,J,Z,Z,Z] rfl rfl ?_ ?_ ?_ ?_
  rotate_left
  · intro w'
    go_simp
    with_reducible rfl
  rotate_left
  · simp only [aP]
    rfl
  refine ta_ 11 15 ?_ #[Z,Z,J,J,J,Z,J,J,J,Z,J,J,Z,Z] rfl rfl ?_ hHeld ?_ ?_ ?_
  rotate_left
  · rintro w' ⟨s0, s1, s2⟩
    go_simp
    with_reducible rfl
  rotate_left
  · simp only [aP]
    rfl
  refine one_ (i := 0) (N := some 4) #[J,Z,J,J,J,Z,J,J,J,Z,J,J,Z,Z] rfl rfl (by kernel_rfl) (by decide) (fun K hK => ?_)
  refine value_ (w1 := ?_) (v := ?_) (by rfl) rfl ?_ ?_
  rotate_left 2
  · go_simp
    constructor
    · rfl
    · rfl
  refine hK.out _ _ ⟨(A1.out.cell 0).trans rfl, (A1.out.cell 1).trans rfl, (A1.out.cell 2).trans rfl⟩ (fun hHeld => ?_)
  clear hK K
  refine norm_ (a' := ?_) ?_ ?_
  rotate_left
  · show Act.put _ (some 4) _ = _
    simp only [aP]
    rfl
  refine one_ (i := 1) (N := some 5) #[J,J,J,J,J,Z,J,J,J,Z,J,J,Z,Z] rfl rfl (by kernel_rfl) (by decide) (fun K hK => ?_)
  refine value_ (w1 := ?_) (v := ?_) (by rfl) rfl ?_ ?_
  rotate_left 2
  · go_simp
    constructor
    · rfl
    · rfl
  refine hK.out _ _ ⟨(A2.out.cell 0).trans rfl, (A2.out.cell 1).trans rfl, (A2.out.cell 2).trans rfl⟩ (fun hHeld => ?_)
  clear hK K
  refine norm_ (a' := ?_) ?_ ?_
  rotate_left
  · show Act.put _ (some 5) _ = _
    simp only [aP]
    rfl
  refine one_ (i := 5) (N := some 9) #[J,J,J,J,J,J,J,J,J,Z,J,J,Z,Z] rfl rfl (by kernel_rfl) (by decide) (fun K hK => ?_)
  refine goes_ Tryz.func88 (by kernel_rfl) rfl #[.slice (some ⟨w.heap.size + 1, 0, none⟩) 4 4, .int .u32 x] (by rfl) rfl rfl (by simp only [List.map_toArray, List.map_cons, List.map_nil]; rfl) ?_
  with_reducible refine (rput_ (n := 4) (c := 4) (l := markL) HLC.out HI.out.1 (by decide)).mono ?_
  rintro e w3 ⟨v3, rfl, hS3⟩
  refine ⟨_, rfl, ?_⟩
  obtain ⟨A3, c3, rfl⟩ := hS3.rowN (n := 8) rfl
  have B3 := Aside0.mk (A2.out.lift1 hS3)
  clear hS3
  refine hK.out _ _ ⟨(B3.out.at2.cell 0).trans rfl, (B3.out.at2.cell 1).trans rfl, (B3.out.at2.cell 2).trans rfl⟩ (fun hHeld => ?_)
  clear hK K
  refine norm_ (a' := ?_) ?_ ?_
  rotate_left
  · show Act.put _ (some 9) _ = _
    simp only [aP]
    rfl
  refine one_ (i := 9) (N := some 13) #[J,J,J,J,J,J,J,J,J,J,J,J,Z,Z] rfl rfl (by kernel_rfl) (by decide) (fun K hK => ?_)
  refine goes_ Tryz.func88 (by kernel_rfl) rfl #[.slice A3 8 c3, .int .u32 y] (by rfl) rfl rfl (by simp only [List.map_toArray, List.map_cons, List.map_nil]; rfl) ?_
  with_reducible refine (rput_ B3.out.rowC' HI.out.2.1 (by decide)).mono ?_
  rintro e w4 ⟨v4, rfl, hS4⟩
  refine ⟨_, rfl, ?_⟩
  obtain ⟨A4, c4, rfl⟩ := hS4.rowN (n := 12) rfl
  have B4 := Aside0.mk (B3.out.tail.lift1 hS4)
  clear hS4
  refine hK.out _ _ ⟨(B4.out.at2.cell 0).trans rfl, (B4.out.at2.cell 1).trans rfl, (B4.out.at2.cell 2).trans rfl⟩ (fun hHeld => ?_)
  clear hK K
  refine norm_ (a' := ?_) ?_ ?_
  rotate_left
  · show Act.put _ (some 13) _ = _
    simp only [aP]
    rfl
  refine last_ (i := 12) (N := some 16) #[J,J,J,J,J,J,J,J,J,J,J,J,J,Z] rfl rfl (by kernel_rfl) (by decide) (fun K hK => ?_)
  refine goes_ Tryz.func88 (by kernel_rfl) rfl #[.slice A4 12 c4, .int .u32 c] (by rfl) rfl rfl (by simp only [List.map_toArray, List.map_cons, List.map_nil]; rfl) ?_
  with_reducible refine (rput_ B4.out.rowC' HI.out.2.2 (by decide)).mono ?_
  rintro e w5 ⟨v5, rfl, hS5⟩
  refine ⟨_, rfl, ?_⟩
  obtain ⟨A5, c5, rfl⟩ := hS5.rowN (n := 16) rfl
  have B5 : Aside0 (Sep w w5 [Row U8 5 (.slice A5 16 c5) (headR x y c)]) := ⟨Sep.weakR (L := [_]) (B4.out.tail.lift1 hS5)⟩
  clear hS5
  refine hK.out _ _ ?_
  clear hK K
  refine norm_ (a' := ?_) ?_ ?_
  rotate_left
  · show Act.put _ (some 16) _ = _
    simp only [aP]
    rfl
  refine pu_ 13 3 ?_ #[J,J,J,J,J,J,J,J,J,J,J,J,J,J] rfl rfl ?_ ?_ ?_ ?_
  rotate_left
  · intro w'
    go_simp
    with_reducible rfl
  rotate_left
  · simp only [aP]
    rfl
  refine done_ (by kernel_rfl) ?_
  clear kc w1 w2
  go_wp2_with fail
  refine (rsum_ B5.out.rowC').mono ?_
  rintro e w6 ⟨rfl, rfl⟩
  go_wp2_with fail
  refine (rput_ (m := sumF (headR x y c)) B5.out.rowC' (sumF_in _) (by decide)).mono ?_
  rintro e w7 ⟨v7, rfl, hS7⟩
  obtain ⟨A7, c7, rfl⟩ := hS7.rowN (n := 20) rfl
  have B7 := Aside0.mk (B5.out.tail.lift1 hS7)
  clear hS7
  go_wp2_with (first | (refine gate_builtin (b := .append) (xs := #[.tmp 21, .tmp 24]) rfl ?_; go_loud (refine B7.out.zerosRow (0 : Int) rfl (.tmp 21) (.tmp 24) 24 3 1 rfl Tryz.underlying24 Tryz.underlying3 infoB rfl (by decide) 44 rfl rfl (by rw [List.length_append, headR_len, put4_length]; decide) ?_; intro v8 w8 hS8; have B8 : Aside0 (Sep w w8 [Row U8 5 v8 (rootF x y c)]) := ⟨hS8⟩; clear hS8)))
  go_ret
  exact ⟨_, by first | rfl | (simp; done), B8.out⟩
end Go.Proofs.YtjngnigelkgekaaGreat.Root
namespace Go.Proofs.YtjngnigelkgekaaGreat.Root
open Go.RowKit Go.Proofs.YtjngnigelkgekaaGreatW.PrintWords Go.Proofs.YtjngnigelkgekaaGreatW.PrintLast Go.Proofs.YtjngnigelkgekaaGreatW.PrintMore Go.Proofs.YtjngnigelkgekaaGreat.Kit Go.Proofs.YtjngnigelkgekaaGreat.Base Go.Proofs.YtjngnigelkgekaaGreat.Plain Go.Proofs.YtjngnigelkgekaaGreat.Sum
macro "go_retc " v:term : tactic => `(tactic| ((try simp only [Exit.inBlock, Exit.then]); refine bodyPost_ret (v := $v) (by rw [results_cell_tmp rfl]; go_simp) rfl ?_))
def rootV (r : R3) : Value := .agg #[.int .i64 r.1, .int .i64 r.2.1, .int .u32 r.2.2]
def readV (l : List Int) : Value := .tuple #[rootV ((unrootF l).getD (0, 0, 0)), .bool (unrootF l).isSome]
theorem getF_rng {b : List Int} (h : Bytes b) (a : Int) : 0 ≤ getF b a ∧ getF b a ≤ 4294967295 := by
  have r0 := h.at a; have r1 := h.at (a + 1); have r2 := h.at (a + 2); have r3 := h.at (a + 3)
  unfold getF
  split <;> omega
theorem store3 {w0 W : World} {F : List HP} {g : Nat} {T : TypeId} {v0 v1 v2 : Value} (u0 u1 u2 : Value) (h : Sep w0 W (Blk g T #[v0, v1, v2] :: F)) :
    W.cell? ⟨g, 0, none⟩ = some v0 ∧ W.frozen? ⟨g, 0, none⟩ = false ∧
    (W.setCell ⟨g, 0, none⟩ u0).cell? ⟨g, 1, none⟩ = some v1 ∧ (W.setCell ⟨g, 0, none⟩ u0).frozen? ⟨g, 1, none⟩ = false ∧
    ((W.setCell ⟨g, 0, none⟩ u0).setCell ⟨g, 1, none⟩ u1).cell? ⟨g, 2, none⟩ = some v2 ∧ ((W.setCell ⟨g, 0, none⟩ u0).setCell ⟨g, 1, none⟩ u1).frozen? ⟨g, 2, none⟩ = false ∧
    Sep w0 (((W.setCell ⟨g, 0, none⟩ u0).setCell ⟨g, 1, none⟩ u1).setCell ⟨g, 2, none⟩ u2) (Blk g T #[u0, u1, u2] :: F) := by
  have h1 := h.setBlk 0 u0
  have h2 := h1.setBlk 1 u1
  have h3 := h2.setBlk 2 u2
  exact ⟨(h.cell 0).trans rfl, h.frozen 0, (h1.cell 1).trans rfl, h1.frozen 1, (h2.cell 2).trans rfl, h2.frozen 2, h3⟩
set_option maxHeartbeats 800000 in
set_option maxRecDepth 100000 in
theorem read_ {A : Option Addr} {n c : Nat} {l : List Int} {w : World} (hr : U8.C w A n l) (hc : n ≤ c) (hb : Bytes l) :
    Calls Tryz.prog 122 #[.slice A n c] w fun e w' => e = .returned (readV l) ∧ Below w.heap.size w w' := by
  have hl : l.length = n := hr.1
  by_cases h64 : n = 64
  case neg =>
    have hv : Aside0 (unrootF l = none) := ⟨if_neg (fun h => h64 (hl.symm.trans h.1))⟩
    have h1 : ¬ (n : Int) = 64 := by omega
    clear hr hb hl
    go_enter Tryz.func122, Tryz.ntmps122
    go_wp2_with fail
    go_retc (.tuple #[.agg #[.int .i64 0, .int .i64 0, .int .u32 0], .bool false])
    exact ⟨by unfold readV; rw [hv.out]; rfl, below_alloc (Below.refl _ _) _⟩
  case pos =>
    subst h64
    have HR := Aside0.mk hr
    have HC := Aside0.mk hc
    have HB := Aside0.mk hb
    have HL := Aside0.mk hl
    have HI := Aside0.mk (And.intro (getF_rng hb 4) (And.intro (getF_rng hb 8) (getF_rng hb 12)))
    clear hr hb hl hc
    go_enter Tryz.func122, Tryz.ntmps122
    go_wp2_with fail
    refine (get_ (l := l) (a := 4) (Kd.C_alloc HR.out _) HC.out HB.out (by omega)).mono ?_
    rintro e w1 ⟨rfl, rfl⟩
    go_wp2_with fail
    refine (get_ (l := l) (a := 8) (Kd.C_alloc HR.out _) HC.out HB.out (by omega)).mono ?_
    rintro e w1 ⟨rfl, rfl⟩
    have hx1 : IntKind.i64.wrap (getF l 4) = getF l 4 := by have := HI.out.1; rw [IntKind.wrap_i64]; omega
    have hx2 : IntKind.i64.wrap (getF l 8) = getF l 8 := by have := HI.out.2.1; rw [IntKind.wrap_i64]; omega
    go_wp2_with fail
    refine (get_ (l := l) (a := 12) (Kd.C_alloc HR.out _) HC.out HB.out (by omega)).mono ?_
    rintro e w1 ⟨rfl, rfl⟩
    have hU : Aside0 (∀ h : IsRoot l, unrootF l = some (getF l 4, getF l 8, getF l 12)) := ⟨fun h => if_pos h⟩
    have hU0 : Aside0 (¬ IsRoot l → unrootF l = none) := ⟨fun h => if_neg h⟩
    have hIR : Aside0 (IsRoot l ↔ getF l 4 ≤ 2147483647 ∧ getF l 8 ≤ 2147483647 ∧ l = rootF (getF l 4) (getF l 8) (getF l 12)) := ⟨⟨fun h => h.2, fun h => ⟨HL.out, h⟩⟩⟩
    generalize getF l 4 = x at *
    generalize getF l 8 = y at *
    generalize getF l 12 = z at *
    have A0 := Aside0.mk (((Sep.start w).newBlk 80 #[.int .i64 0, .int .i64 0, .int .u32 0]).newBlk 80 #[.int .i64 x, .int .i64 y, .int .u32 z]).at2
    rw [show ∀ o : Obj, (w.alloc o).heap.size = w.heap.size + 1 from fun o => by simp] at A0
    by_cases hx : 2147483647 < x
    case pos =>
      have HN : Aside0 (unrootF l = none) := ⟨hU0.out (fun h => by have := (hIR.out.1 h).1; omega)⟩
      have hd : decide (2147483647 < x) = true := decide_eq_true hx
      go_wp2_with fail
      go_retc (.tuple #[.agg #[.int .i64 0, .int .i64 0, .int .u32 0], .bool false])
      exact ⟨by unfold readV; rw [HN.out]; rfl, A0.out.toBelow⟩
    case neg =>
    have hd : decide (2147483647 < x) = false := decide_eq_false hx
    by_cases hy : 2147483647 < y
    case pos =>
      have HN : Aside0 (unrootF l = none) := ⟨hU0.out (fun h => by have := (hIR.out.1 h).2.1; omega)⟩
      have hd2 : decide (2147483647 < y) = true := decide_eq_true hy
      go_wp2_with fail
      go_retc (.tuple #[.agg #[.int .i64 0, .int .i64 0, .int .u32 0], .bool false])
      exact ⟨by unfold readV; rw [HN.out]; rfl, A0.out.toBelow⟩
    case neg =>
    have hd2 : decide (2147483647 < y) = false := decide_eq_false hy
    go_wp2_with fail
    refine (bytes_ x y z HI.out.2.2 _).mono ?_
    rintro e w2 ⟨v2, rfl, hS2⟩
    rw [m32_id HI.out.1.1 HI.out.1.2, m32_id HI.out.2.1.1 HI.out.2.1.2] at hS2
    obtain ⟨A2, c2, rfl⟩ := hS2.rowN (n := 64) (rootF_len _ _ _)
    have B2 := Aside0.mk (A0.out.lift1 hS2)
    clear hS2
    go_wp2_with fail
    refine (equal_ (Kd.C_below HR.out B2.out.toBelow) B2.out.rowC').mono ?_
    rintro e w3 ⟨rfl, hb3⟩
    have B3 := (B2.out.below hb3).tail
    have z0 : w3.cell? ⟨w.heap.size + 1, 0, none⟩ = some (.int .i64 x) := (B3.at2.cell 0).trans rfl
    have z1 : w3.cell? ⟨w.heap.size + 1, 1, none⟩ = some (.int .i64 y) := (B3.at2.cell 1).trans rfl
    have z2 : w3.cell? ⟨w.heap.size + 1, 2, none⟩ = some (.int .u32 z) := (B3.at2.cell 2).trans rfl
    have B3' := Aside0.mk B3
    clear hb3 B3
    by_cases he : l = rootF x y z
    case pos =>
      have HN : Aside0 (unrootF l = some (x, y, z)) := ⟨hU.out (hIR.out.2 ⟨by omega, by omega, he⟩)⟩
      rw [decide_eq_true he]
      clear he
      obtain ⟨c0, f0, c1, f1, c2, f2, hS4⟩ := store3 (.int .i64 x) (.int .i64 y) (.int .u32 z) B3'.out
      obtain ⟨w4, hw4⟩ : ∃ w4, (((w3.setCell ⟨w.heap.size, 0, none⟩ (.int .i64 x)).setCell ⟨w.heap.size, 1, none⟩ (.int .i64 y)).setCell ⟨w.heap.size, 2, none⟩ (.int .u32 z)) = w4 := ⟨_, rfl⟩
      rw [hw4] at hS4
      have r0 := (hS4.cell 0).trans rfl
      have r1 := (hS4.cell 1).trans rfl
      have r2 := (hS4.cell 2).trans rfl
      have B4 := Aside0.mk hS4
      clear hS4
      go_wp2_with fail
      go_retc (.tuple #[.agg #[.int .i64 x, .int .i64 y, .int .u32 z], .bool true])
      exact ⟨by unfold readV; rw [HN.out]; rfl, B4.out.toBelow⟩
    case neg =>
      have HN : Aside0 (unrootF l = none) := ⟨hU0.out (fun h => he (hIR.out.1 h).2.2)⟩
      rw [decide_eq_false he]
      clear he
      obtain ⟨c0, f0, c1, f1, c2, f2, hS4⟩ := store3 (.int .i64 0) (.int .i64 0) (.int .u32 0) B3'.out
      obtain ⟨w4, hw4⟩ : ∃ w4, (((w3.setCell ⟨w.heap.size, 0, none⟩ (.int .i64 0)).setCell ⟨w.heap.size, 1, none⟩ (.int .i64 0)).setCell ⟨w.heap.size, 2, none⟩ (.int .u32 0)) = w4 := ⟨_, rfl⟩
      rw [hw4] at hS4
      have r0 := (hS4.cell 0).trans rfl
      have r1 := (hS4.cell 1).trans rfl
      have r2 := (hS4.cell 2).trans rfl
      have B4 := Aside0.mk hS4
      clear hS4
      go_wp2_with fail
      go_retc (.tuple #[.agg #[.int .i64 0, .int .i64 0, .int .u32 0], .bool false])
      exact ⟨by unfold readV; rw [HN.out]; rfl, B4.out.toBelow⟩
end Go.Proofs.YtjngnigelkgekaaGreat.Root
namespace Go.Proofs.YtjngnigelkgekaaGreat.Store
open Go.RowKit Go.Proofs.YtjngnigelkgekaaGreatW.PrintWords Go.Proofs.YtjngnigelkgekaaGreatW.PrintLast Go.Proofs.YtjngnigelkgekaaGreatW.PrintMore Go.Proofs.YtjngnigelkgekaaGreat.Kit Go.Proofs.YtjngnigelkgekaaGreat.Plain Go.Proofs.YtjngnigelkgekaaGreat.Disk Go.Proofs.YtjngnigelkgekaaGreat.Root
open Go.Proofs.YtjngnigelkgekaaGreat.Delta (Chg KC)
theorem results_cell1 {fn : Func} {p : Tmp} {ty : TypeId} (h : fn.results = #[.cell p ty]) (tmps : Array Value) (P : Program) (w : World) :
    (results fn tmps).run P w = ((asAddr (tmps.getD p undef)).run P w).andThen fun a w₁ => (loadVar ty a).run P w₁ := by
  simp only [results, h]
  simp [Sem.run_bind, Result.andThen]
theorem results_cell4 {fn : Func} {p u x y : Tmp} {ty : TypeId} (h : fn.results = #[.cell p ty, .tmp u, .tmp x, .tmp y]) (tmps : Array Value) (P : Program) (w : World) :
    (results fn tmps).run P w = ((asAddr (tmps.getD p undef)).run P w).andThen fun a w₁ => ((loadVar ty a).run P w₁).andThen fun v w₂ => .ok (.tuple #[v, tmps.getD u undef, tmps.getD x undef, tmps.getD y undef]) w₂ := by
  simp only [results, h]
  simp [Sem.run_bind, Result.andThen]
macro "go_retc1 " v:term : tactic => `(tactic| ((try simp only [Exit.inBlock, Exit.then]); refine bodyPost_ret (v := $v) (by rw [results_cell1 rfl]; go_simp) rfl ?_))
macro "go_retc4 " v:term : tactic => `(tactic| ((try simp only [Exit.inBlock, Exit.then]); refine bodyPost_ret (v := $v) (by rw [results_cell4 rfl]; go_simp) rfl ?_))
def StB (gs g m : Nat) (a b ep : Int) (pages : List (List Int)) (named : List Int) (used seq : Nat) : HP := Ex fun v : Value => Star [Blk gs 108 #[.pointer (some ⟨g, 0, none⟩), .int .i64 a, .int .i64 b, .int .u32 ep, v, .map (some m), .int .i64 (used : Int), .int .u32 (seq : Int)], RowV KP 24 v pages, SetM m named]
section
variable {w0 W : World} {F : List HP} {gs g m : Nat} {a b ep : Int} {pages : List (List Int)} {named : List Int} {used seq : Nat}
theorem stb_open (h : Sep w0 W (StB gs g m a b ep pages named used seq :: F)) : ∃ A c, Sep w0 W (Blk gs 108 #[.pointer (some ⟨g, 0, none⟩), .int .i64 a, .int .i64 b, .int .u32 ep, .slice A pages.length c, .map (some m), .int .i64 (used : Int), .int .u32 (seq : Int)] :: RowV KP 24 (.slice A pages.length c) pages :: SetM m named :: F) := by
  obtain ⟨v, h1⟩ := h.ex
  have h2 := h1.star
  obtain ⟨A, c, rfl⟩ := Sep.rowVN h2.at2 rfl
  exact ⟨A, c, h2⟩
theorem stb_shut {v : Value} (h : Sep w0 W (Blk gs 108 #[.pointer (some ⟨g, 0, none⟩), .int .i64 a, .int .i64 b, .int .u32 ep, v, .map (some m), .int .i64 (used : Int), .int .u32 (seq : Int)] :: RowV KP 24 v pages :: SetM m named :: F)) : Sep w0 W (StB gs g m a b ep pages named used seq :: F) := Sep.unex v (Sep.unstar (L := [_, _, _]) h)
set_option maxHeartbeats 800000 in
theorem used_ (h : Sep w0 W (StB gs g m a b ep pages named used seq :: F)) : Calls Tryz.prog 33 #[.pointer (some ⟨gs, 0, none⟩)] W fun e w' => e = .returned (.int .i64 (used : Int)) ∧ W = w' := by
  obtain ⟨A, c, hs⟩ := stb_open h
  have z6 := (hs.cell 6).trans rfl
  clear h hs
  go_enter Tryz.func33, Tryz.ntmps33
  go_wp2_with fail
  go_ret
  exact ⟨by first | rfl | (simp; done), rfl⟩
set_option maxHeartbeats 800000 in
theorem seq_ (h : Sep w0 W (StB gs g m a b ep pages named used seq :: F)) : Calls Tryz.prog 50 #[.pointer (some ⟨gs, 0, none⟩)] W fun e w' => e = .returned (.int .u32 (seq : Int)) ∧ W = w' := by
  obtain ⟨A, c, hs⟩ := stb_open h
  have z7 := (hs.cell 7).trans rfl
  clear h hs
  go_enter Tryz.func50, Tryz.ntmps50
  go_wp2_with fail
  go_ret
  exact ⟨by first | rfl | (simp; done), rfl⟩
set_option maxHeartbeats 800000 in
theorem root_ (h : Sep w0 W (StB gs g m a b ep pages named used seq :: F)) : Calls Tryz.prog 51 #[.pointer (some ⟨gs, 0, none⟩)] W fun e w' => e = .returned (.agg #[.int .i64 a, .int .i64 b, .int .u32 ep]) ∧ Below W.heap.size W w' := by
  obtain ⟨A, c, hs⟩ := stb_open h
  have A1 := Aside0.mk (hs.newBlk 80 #[.int .i64 a, .int .i64 b, .int .u32 ep])
  have z1 := (hs.cell 1).trans rfl
  have z2 := (hs.cell 2).trans rfl
  have z3 := (hs.cell 3).trans rfl
  have y1 := cell_later (below_alloc (Below.refl _ _) (.cells #[.int .i64 0, .int .i64 0, .int .u32 0] 80)) z1
  have y2 := cell_later (below_alloc (Below.refl _ _) (.cells #[.int .i64 0, .int .i64 0, .int .u32 0] 80)) z2
  have y3 := cell_later (below_alloc (Below.refl _ _) (.cells #[.int .i64 0, .int .i64 0, .int .u32 0] 80)) z3
  have q0 := (A1.out.cell 0).trans rfl
  have q1 := (A1.out.cell 1).trans rfl
  have q2 := (A1.out.cell 2).trans rfl
  clear h hs
  go_enter Tryz.func51, Tryz.ntmps51
  go_wp2_with fail
  go_retc1 (.agg #[.int .i64 a, .int .i64 b, .int .u32 ep])
  exact ⟨rfl, below_alloc (Below.refl _ _) _⟩
set_option maxHeartbeats 800000 in
theorem all_ (h : Sep w0 W (StB gs g m a b ep pages named used seq :: F)) (hn : pages.length ≤ 100000) (hp : ∀ p ∈ pages, p.length ≤ 1000000) : Calls Tryz.prog 25 #[.pointer (some ⟨gs, 0, none⟩)] W fun e w' => ∃ v, e = .returned v ∧ Sep w0 w' (RowV KP 24 v pages :: StB gs g m a b ep pages named used seq :: F) := by
  obtain ⟨A, c, hs⟩ := stb_open h
  have A0 := Aside0.mk hs
  have H0 := Aside0.mk h
  have HN := Aside0.mk (And.intro hn hp)
  have z4 := (hs.cell 4).trans rfl
  obtain ⟨n, hn_⟩ : ∃ n, pages.length = n := ⟨_, rfl⟩
  rw [hn_] at A0 z4 HN
  clear h hs hn hp hn_
  go_enter Tryz.func25, Tryz.ntmps25
  go_wp2_with fail
  refine (apply_ (ps := pages) (l := []) (Sep.rowVC rfl A0.out.at2).2.2 (Kd.C_nil _ _) HN.out.1 HN.out.2 (fun x hx => (by cases hx))).mono ?_
  rintro e w1 ⟨v1, rfl, hS1⟩
  have B1 := Aside0.mk (H0.out.lift1 hS1)
  clear hS1
  go_wp2_with fail
  go_ret
  exact ⟨_, by first | rfl | (simp; done), B1.out⟩
end
end Go.Proofs.YtjngnigelkgekaaGreat.Store
namespace Go.Proofs.YtjngnigelkgekaaGreat.Disk
open Go.RowKit Go.Proofs.YtjngnigelkgekaaGreatW.PrintWords Go.Proofs.YtjngnigelkgekaaGreatW.PrintLast Go.Proofs.YtjngnigelkgekaaGreatW.PrintMore Go.Proofs.YtjngnigelkgekaaGreat.Kit
def SeenI (w0 : World) (g m r gl c go co clock : Nat) (ents : List Ent) (las : List Int) (F : List HP) (k : Nat) (wr : World) : Prop :=
  ∃ done : List Ent, (∀ e ∈ done, e ∈ ents) ∧ k = leftN ents (done.map (·.born)) ∧
    Sep w0 wr (Ob r (itObj m clock (done.map (·.born))) :: MapB m (ens (ents.map Ent.en)) clock :: Row U8 5 (.slice (some ⟨go, 0, none⟩) las.length co) (laid las done) :: Blk g 100 #[.slice (some ⟨gl, 0, none⟩) las.length c, .map (some m)] :: Row U8 5 (.slice (some ⟨gl, 0, none⟩) las.length c) las :: (ents.map Ent.rd ++ F))
set_option maxHeartbeats 800000 in
set_option maxRecDepth 100000 in
theorem seen_ {w0 W : World} {g : Nat} {las : List Int} {wt : Nat → Option (List Int)} {F : List HP} (h : Sep w0 W (Dsk g las wt :: F)) :
    Calls Tryz.prog 90 #[.pointer (some ⟨g, 0, none⟩)] W fun e w' => ∃ v, e = .returned v ∧ Sep w0 w' (Row U8 5 v (flushed las wt) :: Dsk g las wt :: F) := by
  have H0 := Aside0.mk h
  clear h
  go_enter Tryz.func90, Tryz.ntmps90
  go_wp2_with fail
  refine (image_ H0.out).mono ?_
  rintro e w1 ⟨vo, rfl, hI⟩
  obtain ⟨v, m, ents, clock, hok, hs⟩ := open_ hI.at2
  obtain ⟨p1, p2, p3⟩ := hok.pos
  obtain ⟨n, hn, n1, n2⟩ := hok.len
  obtain ⟨gl, c, rfl⟩ := hs.tail.rowForm (by omega)
  obtain ⟨go, co, rfl⟩ := hI.rowForm (by omega)
  have hco := hI.rowC.2.1
  have c1 : w1.cell? ⟨g, 1, none⟩ = some (.map (some m)) := by rw [hs.cell 1]; rfl
  have hrg := range_run (P := Tryz.prog) (W := w1) Tryz.underlying98 hs.tail.tail.map
  have HI : SeenI w0 g m w1.heap.size gl c go co clock ents las F ents.length (w1.alloc (itObj m clock [])) := by
    refine ⟨[], fun e he => absurd he (by simp), (by simp [leftN, List.filter_eq_self.2]), ?_⟩
    rw [laid_nil hn]
    have h3 := hs.perm (L' := Row U8 5 (.slice (some ⟨go, 0, none⟩) las.length co) las :: Blk g 100 #[.slice (some ⟨gl, 0, none⟩) las.length c, .map (some m)] :: Row U8 5 (.slice (some ⟨gl, 0, none⟩) las.length c) las :: MapB m (ens (ents.map Ent.en)) clock :: (ents.map Ent.rd ++ F)) (by
      exact (List.Perm.cons _ (.cons _ (.cons _ List.perm_middle))).trans (List.perm_middle (l₁ := [_, _, _])))
    exact ((h3.at4).newOb (itObj m clock []))
  have A0 := Aside0.mk HI
  have AO := Aside0.mk hok
  have AN := Aside0.mk hn
  have ACO := Aside0.mk hco
  clear HI hok hs p3 hn hI hco
  go_wp2
  go_loopg [4] ents.length (fun k p wr => SeenI w0 g m w1.heap.size gl c go co clock ents las F k wr)
  case atStart => exact A0.out
  case round =>
    obtain ⟨done, hd, hk, hS⟩ := hrel
    obtain ⟨hb1, hb2⟩ := bornOk AO.out
    rcases next_run (P := Tryz.prog) hS hb1 hb2 0 with ⟨hall, hnx⟩ | ⟨e, he, hne, W1, hnx, hS1, hen⟩
    · have AL := Aside0.mk hall
      have AS := Aside0.mk hS
      have AD := Aside0.mk hd
      clear hS hall hb1 hd hk
      go_wp2
      go_ret
      refine ⟨_, by first | rfl | (simp; done), ?_⟩
      have hl := laid_all AO.out AD.out (fun e he => AL.out e.en (List.mem_map.2 ⟨e, he, rfl⟩))
      have h5 := AS.out
      rw [hl] at h5
      refine (shut_ (v := .slice (some ⟨gl, 0, none⟩) las.length c) (m := m) (ents := ents) (clock := clock) AO.out (F := Row U8 5 (.slice (some ⟨go, 0, none⟩) las.length co) (flushed las wt) :: F) ?_).at2
      have h6 := h5.tail
      refine h6.perm ?_
      exact ((List.Perm.swap _ _ _).trans ((List.Perm.cons _ ((List.Perm.swap _ _ _).trans (.cons _ (.swap _ _ _)))).trans (List.Perm.refl _))).trans
        (((List.perm_middle (l₁ := [_, _, _] ++ ents.map Ent.rd) (l₂ := F)).symm.trans (by simp)) )
    · obtain ⟨x, hx, rfl⟩ := List.mem_map.1 he
      have hC := rd_mem hS1.tail.tail.tail.tail.tail hx
      have hnx2 : (Instr.next (.pointer (some ⟨w1.heap.size, 0, none⟩)) false 0).run Tryz.prog wr = .ok (.tuple #[.bool true, .int .i64 (x.k : Int), .slice x.A 64 x.c]) W1 := hnx
      have hen2 : (Instr.entry (.pointer (some ⟨w1.heap.size, 0, none⟩))).run Tryz.prog W1 = .ok (.tuple #[.int .i64 (x.k : Int), .slice x.A 64 x.c]) W1 := hen
      clear hnx hen
      have hx' := AO.out.each x hx
      have hst := laid_step AO.out hd hx hne
      have hlt := left_lt hne hx
      have AS := Aside0.mk hS1.at3
      have AC1 := Aside0.mk hC
      have AX := Aside0.mk hx'
      have AD := Aside0.mk hd
      have AT := Aside0.mk hst
      have AK := Aside0.mk hk
      have AH := Aside0.mk hx
      have AL := Aside0.mk hlt
      have hi : 64 * (x.k + 1) ≤ las.length := by have := AN.out; omega
      have hco := ACO.out
      have htk : x.b.take (las.length - x.k * 64) = x.b.take 64 := by rw [List.take_of_length_le (by omega), List.take_of_length_le (by omega)]
      have ATK := Aside0.mk htk
      clear hS hS1 hC hx' hb1 hd c1 hst hk hx he hne hlt htk
      go_wp2_with (first | (refine gate_builtin (b := .copy) (xs := #[.tmp 21, .tmp 22]) rfl ?_; refine AS.out.copyRow rfl (.tmp 21) (.tmp 22) rfl Tryz.underlying24 size1 (o := x.k * 64) (n' := las.length - x.k * 64) (c' := co - x.k * 64) (m := 64) (c := x.c) (A := x.A) (ys := x.b) rfl rfl AC1.out (by omega) ?_; intro W2 hS2; rw [ATK.out, Nat.mul_comm, AT.out] at hS2; have AS2 := Aside0.mk hS2; clear hS2))
      go_roundg (leftN ents (done.map (·.born) ++ [x.born]))
      case measure => rw [AK.out]; exact AL.out
      case rel =>
        refine ⟨done ++ [x], fun e he => ?_, by rw [List.map_append]; rfl, ?_⟩
        · rcases List.mem_append.1 he with he | he
          · exact AD.out e he
          · simp at he; rw [he]; exact AH.out
        · rw [List.map_append]
          exact AS2.out.to3
end Go.Proofs.YtjngnigelkgekaaGreat.Disk
