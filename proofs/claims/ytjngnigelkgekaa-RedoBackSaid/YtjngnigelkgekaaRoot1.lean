/- Package root: right, home, a root's bytes; the document's. -/
import Derived.Test.YtjngnigelkgekaaKS
import Derived.Test.YtjngnigelkgekaaKA
import Derived.Lib.SlBytesConst
import Derived.Deep.LoopGhost
namespace Go.Proofs.Ytjngnigelkgekaa.Root
set_option linter.unusedVariables false
set_option linter.unusedSimpArgs false
open Go.RowKit Go.Proofs.YtjngnigelkgekaaW.PrintWords Go.Proofs.YtjngnigelkgekaaW.PrintLast Go.Proofs.YtjngnigelkgekaaW.PrintMore Go.Proofs.Ytjngnigelkgekaa.Kit Go.Proofs.Ytjngnigelkgekaa.Base Go.Proofs.Ytjngnigelkgekaa.Plain Go.Proofs.Ytjngnigelkgekaa.Sum
set_option maxHeartbeats 800000 in
theorem right_ (a b c n : Int) (W : World) : Calls Try.prog 68 #[.agg #[.int .i64 a, .int .i64 b, .int .u32 c], .int .i64 n] W fun e w' => e = .returned (.bool (rightR a b c n)) ∧ Below W.heap.size W w' := by
  by_cases h0 : 1 ≤ a
  case neg =>
    have HR : Aside0 (rightR a b c n = false) := ⟨by unfold rightR; exact decide_eq_false (by omega)⟩
    go_enter Try.func68, Try.ntmps68
    go_wp2_with fail
    go_ret
    exact ⟨by rw [HR.out]; first | rfl | (simp; done), by repeat (first | exact Below.refl _ _ | refine below_alloc ?_ _)⟩
  by_cases h1 : a ≤ 64
  case neg =>
    have HR : Aside0 (rightR a b c n = false) := ⟨by unfold rightR; exact decide_eq_false (by omega)⟩
    go_enter Try.func68, Try.ntmps68
    go_wp2_with fail
    go_ret
    exact ⟨by rw [HR.out]; first | rfl | (simp; done), by repeat (first | exact Below.refl _ _ | refine below_alloc ?_ _)⟩
  by_cases h2 : 1 ≤ b
  case neg =>
    have HR : Aside0 (rightR a b c n = false) := ⟨by unfold rightR; exact decide_eq_false (by omega)⟩
    go_enter Try.func68, Try.ntmps68
    go_wp2_with fail
    go_ret
    exact ⟨by rw [HR.out]; first | rfl | (simp; done), by repeat (first | exact Below.refl _ _ | refine below_alloc ?_ _)⟩
  by_cases h3 : b ≤ 64
  case neg =>
    have HR : Aside0 (rightR a b c n = false) := ⟨by unfold rightR; exact decide_eq_false (by omega)⟩
    go_enter Try.func68, Try.ntmps68
    go_wp2_with fail
    go_ret
    exact ⟨by rw [HR.out]; first | rfl | (simp; done), by repeat (first | exact Below.refl _ _ | refine below_alloc ?_ _)⟩
  have hw : wrap64 (2 + a) = 2 + a := IntWalk.wrap64_in _ (by omega)
  have hw2 : wrap64 (2 + a + b) = 2 + a + b := IntWalk.wrap64_in _ (by omega)
  by_cases h4 : 2 + a + b ≤ n
  case neg =>
    have HR : Aside0 (rightR a b c n = false) := ⟨by unfold rightR; exact decide_eq_false (by omega)⟩
    go_enter Try.func68, Try.ntmps68
    go_wp2_with fail
    go_ret
    exact ⟨by rw [HR.out]; first | rfl | (simp; done), by repeat (first | exact Below.refl _ _ | refine below_alloc ?_ _)⟩
  by_cases h5 : 1 ≤ c
  case neg =>
    have HR : Aside0 (rightR a b c n = false) := ⟨by unfold rightR; exact decide_eq_false (by omega)⟩
    go_enter Try.func68, Try.ntmps68
    go_wp2_with fail
    go_ret
    exact ⟨by rw [HR.out]; first | rfl | (simp; done), by repeat (first | exact Below.refl _ _ | refine below_alloc ?_ _)⟩
  have HR : Aside0 (rightR a b c n = true) := ⟨by unfold rightR; exact decide_eq_true (by omega)⟩
  go_enter Try.func68, Try.ntmps68
  go_wp2_with fail
  go_ret
  exact ⟨by rw [HR.out]; first | rfl | (simp; done), by repeat (first | exact Below.refl _ _ | refine below_alloc ?_ _)⟩
set_option maxHeartbeats 800000 in
theorem rright_ (a b c n : Int) (W : World) : Calls Try.prog 81 #[.agg #[.int .i64 a, .int .i64 b, .int .u32 c], .int .i64 n] W fun e w' => e = .returned (.bool (rightR a b c n)) ∧ Below W.heap.size W w' := by
  by_cases h0 : 1 ≤ a
  case neg =>
    have HR : Aside0 (rightR a b c n = false) := ⟨by unfold rightR; exact decide_eq_false (by omega)⟩
    go_enter Try.func81, Try.ntmps81
    go_wp2_with fail
    go_ret
    exact ⟨by rw [HR.out]; first | rfl | (simp; done), by repeat (first | exact Below.refl _ _ | refine below_alloc ?_ _)⟩
  by_cases h1 : a ≤ 64
  case neg =>
    have HR : Aside0 (rightR a b c n = false) := ⟨by unfold rightR; exact decide_eq_false (by omega)⟩
    go_enter Try.func81, Try.ntmps81
    go_wp2_with fail
    go_ret
    exact ⟨by rw [HR.out]; first | rfl | (simp; done), by repeat (first | exact Below.refl _ _ | refine below_alloc ?_ _)⟩
  by_cases h2 : 1 ≤ b
  case neg =>
    have HR : Aside0 (rightR a b c n = false) := ⟨by unfold rightR; exact decide_eq_false (by omega)⟩
    go_enter Try.func81, Try.ntmps81
    go_wp2_with fail
    go_ret
    exact ⟨by rw [HR.out]; first | rfl | (simp; done), by repeat (first | exact Below.refl _ _ | refine below_alloc ?_ _)⟩
  by_cases h3 : b ≤ 64
  case neg =>
    have HR : Aside0 (rightR a b c n = false) := ⟨by unfold rightR; exact decide_eq_false (by omega)⟩
    go_enter Try.func81, Try.ntmps81
    go_wp2_with fail
    go_ret
    exact ⟨by rw [HR.out]; first | rfl | (simp; done), by repeat (first | exact Below.refl _ _ | refine below_alloc ?_ _)⟩
  have hw : wrap64 (2 + a) = 2 + a := IntWalk.wrap64_in _ (by omega)
  have hw2 : wrap64 (2 + a + b) = 2 + a + b := IntWalk.wrap64_in _ (by omega)
  by_cases h4 : 2 + a + b ≤ n
  case neg =>
    have HR : Aside0 (rightR a b c n = false) := ⟨by unfold rightR; exact decide_eq_false (by omega)⟩
    go_enter Try.func81, Try.ntmps81
    go_wp2_with fail
    go_ret
    exact ⟨by rw [HR.out]; first | rfl | (simp; done), by repeat (first | exact Below.refl _ _ | refine below_alloc ?_ _)⟩
  by_cases h5 : 1 ≤ c
  case neg =>
    have HR : Aside0 (rightR a b c n = false) := ⟨by unfold rightR; exact decide_eq_false (by omega)⟩
    go_enter Try.func81, Try.ntmps81
    go_wp2_with fail
    go_ret
    exact ⟨by rw [HR.out]; first | rfl | (simp; done), by repeat (first | exact Below.refl _ _ | refine below_alloc ?_ _)⟩
  have HR : Aside0 (rightR a b c n = true) := ⟨by unfold rightR; exact decide_eq_true (by omega)⟩
  go_enter Try.func81, Try.ntmps81
  go_wp2_with fail
  go_ret
  exact ⟨by rw [HR.out]; first | rfl | (simp; done), by repeat (first | exact Below.refl _ _ | refine below_alloc ?_ _)⟩
set_option maxHeartbeats 800000 in
theorem home_ (a b c page : Int) (W : World) : Calls Try.prog 67 #[.agg #[.int .i64 a, .int .i64 b, .int .u32 c], .int .i64 page] W fun e w' => e = .returned (.int .i64 (homeF a b page)) ∧ Below W.heap.size W w' := by
  by_cases h1 : page < 0
  case pos =>
    have HR : Aside0 (homeF a b page = -1) := ⟨by unfold homeF; rw [if_pos (by omega)]⟩
    go_enter Try.func67, Try.ntmps67
    go_wp2_with fail
    go_ret
    exact ⟨by rw [HR.out]; first | rfl | (simp; done), by repeat (first | exact Below.refl _ _ | refine below_alloc ?_ _)⟩
  by_cases h2 : b ≤ page
  case pos =>
    have HR : Aside0 (homeF a b page = -1) := ⟨by unfold homeF; rw [if_pos (by omega)]⟩
    go_enter Try.func67, Try.ntmps67
    go_wp2_with fail
    go_ret
    exact ⟨by rw [HR.out]; first | rfl | (simp; done), by repeat (first | exact Below.refl _ _ | refine below_alloc ?_ _)⟩
  have HR : Aside0 (homeF a b page = wrap64 (wrap64 (2 + a) + page)) := ⟨by unfold homeF; rw [if_neg (by omega)]⟩
  go_enter Try.func67, Try.ntmps67
  go_wp2_with fail
  go_ret
  exact ⟨by rw [HR.out]; first | rfl | (simp; done), by repeat (first | exact Below.refl _ _ | refine below_alloc ?_ _)⟩
set_option maxHeartbeats 800000 in
theorem rhome_ (a b c page : Int) (W : World) : Calls Try.prog 82 #[.agg #[.int .i64 a, .int .i64 b, .int .u32 c], .int .i64 page] W fun e w' => e = .returned (.int .i64 (homeF a b page)) ∧ Below W.heap.size W w' := by
  by_cases h1 : page < 0
  case pos =>
    have HR : Aside0 (homeF a b page = -1) := ⟨by unfold homeF; rw [if_pos (by omega)]⟩
    go_enter Try.func82, Try.ntmps82
    go_wp2_with fail
    go_ret
    exact ⟨by rw [HR.out]; first | rfl | (simp; done), by repeat (first | exact Below.refl _ _ | refine below_alloc ?_ _)⟩
  by_cases h2 : b ≤ page
  case pos =>
    have HR : Aside0 (homeF a b page = -1) := ⟨by unfold homeF; rw [if_pos (by omega)]⟩
    go_enter Try.func82, Try.ntmps82
    go_wp2_with fail
    go_ret
    exact ⟨by rw [HR.out]; first | rfl | (simp; done), by repeat (first | exact Below.refl _ _ | refine below_alloc ?_ _)⟩
  have HR : Aside0 (homeF a b page = wrap64 (wrap64 (2 + a) + page)) := ⟨by unfold homeF; rw [if_neg (by omega)]⟩
  go_enter Try.func82, Try.ntmps82
  go_wp2_with fail
  go_ret
  exact ⟨by rw [HR.out]; first | rfl | (simp; done), by repeat (first | exact Below.refl _ _ | refine below_alloc ?_ _)⟩
theorem lit_C (w : World) (k : IntKind) (C : Array Value) (t : TypeId) (fr : Nat × Nat) (xs : List Int) (hC : C = (xs.map (Value.int k)).toArray) (hn : xs.length ≤ 9223372036854775807) :
    Kd.C (Kd.int k) (w.alloc (.cells C t fr)) (some ⟨w.heap.size, 0, none⟩) xs.length xs := by
  subst hC
  refine Kd.C_of_reads (enc := Value.int k) (d := 0) (h1 := fun _ => rfl) ⟨rfl, hn, fun _ => ⟨_, rfl, fun j hj => ?_⟩⟩
  rw [add_plain, World.cell?_alloc_mark]
  simp [List.getD_eq_getElem?_getD, hj]
abbrev KU : Kd Int := Kd.int .u32
def m32 (x : Int) : Int := x % 4294967296
theorem m32_in (x : Int) : 0 ≤ m32 x ∧ m32 x ≤ 4294967295 := by unfold m32; omega
theorem m32_wrap (x : Int) : IntKind.u32.wrap x = m32 x := IntKind.wrap_u32 x
theorem m32_id {x : Int} (h0 : 0 ≤ x) (h1 : x ≤ 4294967295) : m32 x = x := by unfold m32; omega
set_option maxHeartbeats 800000 in
set_option maxRecDepth 100000 in
theorem bytes_ (a b c : Int) (hc : 0 ≤ c ∧ c ≤ 4294967295) (w : World) :
    Calls Try.prog 43 #[.agg #[.int .i64 a, .int .i64 b, .int .u32 c]] w fun e w' => ∃ v, e = .returned v ∧ Sep w w' [Row U8 5 v (rootF (m32 a) (m32 b) c)] := by
  have kc := fun (C : Array Value) (n cp : Nat) => Lib.run_convert_bytes_const (P := Try.prog) (w.alloc (.cells #[.int .i64 a, .int .i64 b, .int .u32 c] 26)) 30 5 C n cp Try.underlying30 Try.underlying5
  rw [show ∀ o : Obj, (w.alloc o).heap.size = w.heap.size + 1 from fun o => by simp] at kc
  have HI := Aside0.mk (And.intro (m32_in a) (And.intro (m32_in b) hc))
  have w1 := m32_wrap a
  have w2 := m32_wrap b
  clear hc
  generalize m32 a = x at *
  generalize m32 b = y at *
  go_enter Try.func43, Try.ntmps43
  go_wp2_with fail
  clear kc w1 w2
  go_loopg [3, 18] 3 (fun k v p wr => ∃ (j : Nat) (A : Option Addr) (n cp : Nat) (l : List Int), p = .int .i64 (j : Int) ∧ j + k = 3 ∧ v = .slice A n cp ∧ n ≤ 16 ∧ l = markL ++ (([x, y, c].take j).flatMap put4) ∧ U8.C wr A n l ∧ Sep w wr [Row KU 24 (.slice (some ⟨w.heap.size + 1 + 1, 0, none⟩) 3 3) [x, y, c]])
  case atStart =>
    have h1 := Kd.C_alloc (lit_C (w.alloc (.cells #[.int .i64 a, .int .i64 b, .int .u32 c] 26)) .u8 #[.int .u8 69, .int .u8 78, .int .u8 71, .int .u8 49] 5 (4, 5) markL rfl (by decide)) (.cells #[.int .u32 x, .int .u32 y, .int .u32 c] 24)
    rw [show ∀ o : Obj, (w.alloc o).heap.size = w.heap.size + 1 from fun o => by simp] at h1
    refine ⟨0, _, _, _, markL, rfl, rfl, rfl, by decide, by simp, h1, ?_⟩
    have h := (((Sep.start w).alloc (.cells #[.int .i64 a, .int .i64 b, .int .u32 c] 26)).alloc (.cells #[.int .u8 69, .int .u8 78, .int .u8 71, .int .u8 49] 5 (4, 5))).litRow (enc := Value.int .u32) (h1 := fun _ => rfl) (e := 24) [x, y, c] (by simp)
    rw [show ∀ o o2 : Obj, ((w.alloc o).alloc o2).heap.size = w.heap.size + 1 + 1 from fun o o2 => by simp] at h
    exact h
  case round =>
    obtain ⟨j, A, n, cp, l, rfl, hjk, rfl, hn, hl, hC, hS⟩ := hrel
    have AS := Aside0.mk hS
    have HC := Aside0.mk hC
    have HL := Aside0.mk hl
    have AK := Aside0.mk hjk
    by_cases hj : j < 3
    · rcases (by omega : j = 0 ∨ j = 1 ∨ j = 2) with rfl | rfl | rfl
      · have z0 := (hS.rowCell (enc := Value.int .u32) 0 0 (by decide)).1
        have hnj : n = 4 := by have := hC.1; rw [hl] at this; simpa [markL, put4] using this.symm
        subst hnj
        clear hS hC hl hjk
        go_wp2_with fail
        refine (put_ (m := x) HC.out HI.out.1 (by decide)).mono ?_
        rintro e w1 ⟨v1, rfl, hS1⟩
        obtain ⟨A1, c1, rfl⟩ := hS1.rowN (n := 8) (by rw [List.length_append, HC.out.1, put4_length])
        have B1 := Aside0.mk (AS.out.lift1 hS1)
        clear hS1
        go_wp2_with fail
        go_roundg (gk - 1)
        case measure => have := AK.out; omega
        case rel => exact ⟨1, A1, 8, c1, l ++ put4 x, by go_num, by have := AK.out; omega, rfl, by decide, by rw [HL.out]; simp, B1.out.rowC', B1.out.tail⟩
      · have z0 := (hS.rowCell (enc := Value.int .u32) 0 1 (by decide)).1
        have hnj : n = 8 := by have := hC.1; rw [hl] at this; simpa [markL, put4] using this.symm
        subst hnj
        clear hS hC hl hjk
        go_wp2_with fail
        refine (put_ (m := y) HC.out HI.out.2.1 (by decide)).mono ?_
        rintro e w1 ⟨v1, rfl, hS1⟩
        obtain ⟨A1, c1, rfl⟩ := hS1.rowN (n := 12) (by rw [List.length_append, HC.out.1, put4_length])
        have B1 := Aside0.mk (AS.out.lift1 hS1)
        clear hS1
        go_wp2_with fail
        go_roundg (gk - 1)
        case measure => have := AK.out; omega
        case rel => exact ⟨2, A1, 12, c1, l ++ put4 y, by go_num, by have := AK.out; omega, rfl, by decide, by rw [HL.out]; simp, B1.out.rowC', B1.out.tail⟩
      · have z0 := (hS.rowCell (enc := Value.int .u32) 0 2 (by decide)).1
        have hnj : n = 12 := by have := hC.1; rw [hl] at this; simpa [markL, put4] using this.symm
        subst hnj
        clear hS hC hl hjk
        go_wp2_with fail
        refine (put_ (m := c) HC.out HI.out.2.2 (by decide)).mono ?_
        rintro e w1 ⟨v1, rfl, hS1⟩
        obtain ⟨A1, c1, rfl⟩ := hS1.rowN (n := 16) (by rw [List.length_append, HC.out.1, put4_length])
        have B1 := Aside0.mk (AS.out.lift1 hS1)
        clear hS1
        go_wp2_with fail
        go_roundg (gk - 1)
        case measure => have := AK.out; omega
        case rel => exact ⟨3, A1, 16, c1, l ++ put4 c, by go_num, by have := AK.out; omega, rfl, by decide, by rw [HL.out]; simp, B1.out.rowC', B1.out.tail⟩
    · obtain rfl : j = 3 := by omega
      have hl2 : l = headR x y c := by rw [hl]; simp [headR]
      subst hl2
      have hn16 : n = 16 := hC.1.symm
      subst hn16
      clear hS hC hl HL hjk hj
      go_wp2_with fail
      refine (Sum.of_ HC.out).mono ?_
      rintro e w1 ⟨rfl, rfl⟩
      go_wp2_with fail
      refine (put_ (m := sumF (headR x y c)) HC.out (sumF_in _) (by decide)).mono ?_
      rintro e w2 ⟨v2, rfl, hS2⟩
      obtain ⟨A2, c2, rfl⟩ := hS2.rowN (n := 20) rfl
      have B2 := Aside0.mk (AS.out.lift1 hS2)
      clear hS2
      go_wp2_with (first | (refine gate_builtin (b := .append) (xs := #[.tmp 30, .tmp 33]) rfl ?_; go_loud (refine B2.out.zerosRow (0 : Int) rfl (.tmp 30) (.tmp 33) 30 3 1 rfl Try.underlying30 Try.underlying3 infoB rfl (by decide) 44 rfl rfl (by rw [List.length_append, headR_len, put4_length]; decide) ?_; intro v3 w3 hS3; have B3 : Aside0 (Sep w w3 [Row U8 5 v3 (rootF x y c)]) := ⟨Sep.weakR (L := [_]) hS3⟩; clear hS3)))
      go_ret
      exact ⟨_, by first | rfl | (simp; done), B3.out⟩
end Go.Proofs.Ytjngnigelkgekaa.Root
