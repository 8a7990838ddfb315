/- Root1, Root2, Root3, Root4, StRes, Str, Root5, Disk7: what HealTwice needs. -/
import Derived.Test.YtjngnigelkgekaaGreatThealTwice5
import Derived.Lib.SlBytesConst
import Derived.Deep.LoopGhost
import Derived.Laws.ResultCell
set_option linter.unusedVariables false
set_option linter.unusedSimpArgs false
namespace Go.Proofs.YtjngnigelkgekaaGreat.Root
open Go.RowKit Go.Proofs.YtjngnigelkgekaaGreatW.PrintWords Go.Proofs.YtjngnigelkgekaaGreatW.PrintLast Go.Proofs.YtjngnigelkgekaaGreatW.PrintMore Go.Proofs.YtjngnigelkgekaaGreat.Kit Go.Proofs.YtjngnigelkgekaaGreat.Base Go.Proofs.YtjngnigelkgekaaGreat.Plain Go.Proofs.YtjngnigelkgekaaGreat.Sum
set_option maxHeartbeats 800000 in
theorem right_ (a b c n : Int) (W : World) : Calls Tryz.prog 64 #[.agg #[.int .i64 a, .int .i64 b, .int .u32 c], .int .i64 n] W fun e w' => e = .returned (.bool (rightR a b c n)) ∧ Below W.heap.size W w' := by
  by_cases h0 : 1 ≤ a
  case neg =>
    have HR : Aside0 (rightR a b c n = false) := ⟨by unfold rightR; exact decide_eq_false (by omega)⟩
    go_enter Tryz.func64, Tryz.ntmps64
    go_wp2_with fail
    go_ret
    exact ⟨by rw [HR.out]; first | rfl | (simp; done), by repeat (first | exact Below.refl _ _ | refine below_alloc ?_ _)⟩
  by_cases h1 : a ≤ 64
  case neg =>
    have HR : Aside0 (rightR a b c n = false) := ⟨by unfold rightR; exact decide_eq_false (by omega)⟩
    go_enter Tryz.func64, Tryz.ntmps64
    go_wp2_with fail
    go_ret
    exact ⟨by rw [HR.out]; first | rfl | (simp; done), by repeat (first | exact Below.refl _ _ | refine below_alloc ?_ _)⟩
  by_cases h2 : 1 ≤ b
  case neg =>
    have HR : Aside0 (rightR a b c n = false) := ⟨by unfold rightR; exact decide_eq_false (by omega)⟩
    go_enter Tryz.func64, Tryz.ntmps64
    go_wp2_with fail
    go_ret
    exact ⟨by rw [HR.out]; first | rfl | (simp; done), by repeat (first | exact Below.refl _ _ | refine below_alloc ?_ _)⟩
  by_cases h3 : b ≤ 64
  case neg =>
    have HR : Aside0 (rightR a b c n = false) := ⟨by unfold rightR; exact decide_eq_false (by omega)⟩
    go_enter Tryz.func64, Tryz.ntmps64
    go_wp2_with fail
    go_ret
    exact ⟨by rw [HR.out]; first | rfl | (simp; done), by repeat (first | exact Below.refl _ _ | refine below_alloc ?_ _)⟩
  have hw : wrap64 (2 + a) = 2 + a := IntWalk.wrap64_in _ (by omega)
  have hw2 : wrap64 (2 + a + b) = 2 + a + b := IntWalk.wrap64_in _ (by omega)
  by_cases h4 : 2 + a + b ≤ n
  case neg =>
    have HR : Aside0 (rightR a b c n = false) := ⟨by unfold rightR; exact decide_eq_false (by omega)⟩
    go_enter Tryz.func64, Tryz.ntmps64
    go_wp2_with fail
    go_ret
    exact ⟨by rw [HR.out]; first | rfl | (simp; done), by repeat (first | exact Below.refl _ _ | refine below_alloc ?_ _)⟩
  by_cases h5 : 1 ≤ c
  case neg =>
    have HR : Aside0 (rightR a b c n = false) := ⟨by unfold rightR; exact decide_eq_false (by omega)⟩
    go_enter Tryz.func64, Tryz.ntmps64
    go_wp2_with fail
    go_ret
    exact ⟨by rw [HR.out]; first | rfl | (simp; done), by repeat (first | exact Below.refl _ _ | refine below_alloc ?_ _)⟩
  have HR : Aside0 (rightR a b c n = true) := ⟨by unfold rightR; exact decide_eq_true (by omega)⟩
  go_enter Tryz.func64, Tryz.ntmps64
  go_wp2_with fail
  go_ret
  exact ⟨by rw [HR.out]; first | rfl | (simp; done), by repeat (first | exact Below.refl _ _ | refine below_alloc ?_ _)⟩
set_option maxHeartbeats 800000 in
theorem rright_ (a b c n : Int) (W : World) : Calls Tryz.prog 77 #[.agg #[.int .i64 a, .int .i64 b, .int .u32 c], .int .i64 n] W fun e w' => e = .returned (.bool (rightR a b c n)) ∧ Below W.heap.size W w' := by
  by_cases h0 : 1 ≤ a
  case neg =>
    have HR : Aside0 (rightR a b c n = false) := ⟨by unfold rightR; exact decide_eq_false (by omega)⟩
    go_enter Tryz.func77, Tryz.ntmps77
    go_wp2_with fail
    go_ret
    exact ⟨by rw [HR.out]; first | rfl | (simp; done), by repeat (first | exact Below.refl _ _ | refine below_alloc ?_ _)⟩
  by_cases h1 : a ≤ 64
  case neg =>
    have HR : Aside0 (rightR a b c n = false) := ⟨by unfold rightR; exact decide_eq_false (by omega)⟩
    go_enter Tryz.func77, Tryz.ntmps77
    go_wp2_with fail
    go_ret
    exact ⟨by rw [HR.out]; first | rfl | (simp; done), by repeat (first | exact Below.refl _ _ | refine below_alloc ?_ _)⟩
  by_cases h2 : 1 ≤ b
  case neg =>
    have HR : Aside0 (rightR a b c n = false) := ⟨by unfold rightR; exact decide_eq_false (by omega)⟩
    go_enter Tryz.func77, Tryz.ntmps77
    go_wp2_with fail
    go_ret
    exact ⟨by rw [HR.out]; first | rfl | (simp; done), by repeat (first | exact Below.refl _ _ | refine below_alloc ?_ _)⟩
  by_cases h3 : b ≤ 64
  case neg =>
    have HR : Aside0 (rightR a b c n = false) := ⟨by unfold rightR; exact decide_eq_false (by omega)⟩
    go_enter Tryz.func77, Tryz.ntmps77
    go_wp2_with fail
    go_ret
    exact ⟨by rw [HR.out]; first | rfl | (simp; done), by repeat (first | exact Below.refl _ _ | refine below_alloc ?_ _)⟩
  have hw : wrap64 (2 + a) = 2 + a := IntWalk.wrap64_in _ (by omega)
  have hw2 : wrap64 (2 + a + b) = 2 + a + b := IntWalk.wrap64_in _ (by omega)
  by_cases h4 : 2 + a + b ≤ n
  case neg =>
    have HR : Aside0 (rightR a b c n = false) := ⟨by unfold rightR; exact decide_eq_false (by omega)⟩
    go_enter Tryz.func77, Tryz.ntmps77
    go_wp2_with fail
    go_ret
    exact ⟨by rw [HR.out]; first | rfl | (simp; done), by repeat (first | exact Below.refl _ _ | refine below_alloc ?_ _)⟩
  by_cases h5 : 1 ≤ c
  case neg =>
    have HR : Aside0 (rightR a b c n = false) := ⟨by unfold rightR; exact decide_eq_false (by omega)⟩
    go_enter Tryz.func77, Tryz.ntmps77
    go_wp2_with fail
    go_ret
    exact ⟨by rw [HR.out]; first | rfl | (simp; done), by repeat (first | exact Below.refl _ _ | refine below_alloc ?_ _)⟩
  have HR : Aside0 (rightR a b c n = true) := ⟨by unfold rightR; exact decide_eq_true (by omega)⟩
  go_enter Tryz.func77, Tryz.ntmps77
  go_wp2_with fail
  go_ret
  exact ⟨by rw [HR.out]; first | rfl | (simp; done), by repeat (first | exact Below.refl _ _ | refine below_alloc ?_ _)⟩
set_option maxHeartbeats 800000 in
theorem home_ (a b c page : Int) (W : World) : Calls Tryz.prog 120 #[.agg #[.int .i64 a, .int .i64 b, .int .u32 c], .int .i64 page] W fun e w' => e = .returned (.int .i64 (homeF a b page)) ∧ Below W.heap.size W w' := by
  by_cases h1 : page < 0
  case pos =>
    have HR : Aside0 (homeF a b page = -1) := ⟨by unfold homeF; rw [if_pos (by omega)]⟩
    go_enter Tryz.func120, Tryz.ntmps120
    go_wp2_with fail
    go_ret
    exact ⟨by rw [HR.out]; first | rfl | (simp; done), by repeat (first | exact Below.refl _ _ | refine below_alloc ?_ _)⟩
  by_cases h2 : b ≤ page
  case pos =>
    have HR : Aside0 (homeF a b page = -1) := ⟨by unfold homeF; rw [if_pos (by omega)]⟩
    go_enter Tryz.func120, Tryz.ntmps120
    go_wp2_with fail
    go_ret
    exact ⟨by rw [HR.out]; first | rfl | (simp; done), by repeat (first | exact Below.refl _ _ | refine below_alloc ?_ _)⟩
  have HR : Aside0 (homeF a b page = wrap64 (wrap64 (2 + a) + page)) := ⟨by unfold homeF; rw [if_neg (by omega)]⟩
  go_enter Tryz.func120, Tryz.ntmps120
  go_wp2_with fail
  go_ret
  exact ⟨by rw [HR.out]; first | rfl | (simp; done), by repeat (first | exact Below.refl _ _ | refine below_alloc ?_ _)⟩
set_option maxHeartbeats 800000 in
theorem rhome_ (a b c page : Int) (W : World) : Calls Tryz.prog 95 #[.agg #[.int .i64 a, .int .i64 b, .int .u32 c], .int .i64 page] W fun e w' => e = .returned (.int .i64 (homeF a b page)) ∧ Below W.heap.size W w' := by
  by_cases h1 : page < 0
  case pos =>
    have HR : Aside0 (homeF a b page = -1) := ⟨by unfold homeF; rw [if_pos (by omega)]⟩
    go_enter Tryz.func95, Tryz.ntmps95
    go_wp2_with fail
    go_ret
    exact ⟨by rw [HR.out]; first | rfl | (simp; done), by repeat (first | exact Below.refl _ _ | refine below_alloc ?_ _)⟩
  by_cases h2 : b ≤ page
  case pos =>
    have HR : Aside0 (homeF a b page = -1) := ⟨by unfold homeF; rw [if_pos (by omega)]⟩
    go_enter Tryz.func95, Tryz.ntmps95
    go_wp2_with fail
    go_ret
    exact ⟨by rw [HR.out]; first | rfl | (simp; done), by repeat (first | exact Below.refl _ _ | refine below_alloc ?_ _)⟩
  have HR : Aside0 (homeF a b page = wrap64 (wrap64 (2 + a) + page)) := ⟨by unfold homeF; rw [if_neg (by omega)]⟩
  go_enter Tryz.func95, Tryz.ntmps95
  go_wp2_with fail
  go_ret
  exact ⟨by rw [HR.out]; first | rfl | (simp; done), by repeat (first | exact Below.refl _ _ | refine below_alloc ?_ _)⟩
theorem lit_C (w : World) (k : IntKind) (C : Array Value) (t : TypeId) (fr : Nat × Nat) (xs : List Int) (hC : C = (xs.map (Value.int k)).toArray) (hn : xs.length ≤ 9223372036854775807) :
    Kd.C (Kd.int k) (w.alloc (.cells C t fr)) (some ⟨w.heap.size, 0, none⟩) xs.length xs := by
  subst hC
  refine Kd.C_of_reads (enc := Value.int k) (d := 0) (h1 := fun _ => rfl) ⟨rfl, hn, fun _ => ⟨_, rfl, fun j hj => ?_⟩⟩
  rw [add_plain, World.cell?_alloc_mark]
  simp [List.getD_eq_getElem?_getD, hj]
abbrev KU : Kd Int := Kd.int .u32
def m32 (x : Int) : Int := x % 4294967296
theorem m32_in (x : Int) : 0 ≤ m32 x ∧ m32 x ≤ 4294967295 := by unfold m32; omega
theorem m32_wrap (x : Int) : IntKind.u32.wrap x = m32 x := IntKind.wrap_u32 x
theorem m32_id {x : Int} (h0 : 0 ≤ x) (h1 : x ≤ 4294967295) : m32 x = x := by unfold m32; omega
set_option maxHeartbeats 800000 in
set_option maxRecDepth 100000 in
theorem bytes_ (a b c : Int) (hc : 0 ≤ c ∧ c ≤ 4294967295) (w : World) :
    Calls Tryz.prog 68 #[.agg #[.int .i64 a, .int .i64 b, .int .u32 c]] w fun e w' => ∃ v, e = .returned v ∧ Sep w w' [Row U8 5 v (rootF (m32 a) (m32 b) c)] := by
  have kc := fun (C : Array Value) (n cp : Nat) => Lib.run_convert_bytes_const (P := Tryz.prog) (w.alloc (.cells #[.int .i64 a, .int .i64 b, .int .u32 c] 80)) 24 5 C n cp Tryz.underlying24 Tryz.underlying5
  rw [show ∀ o : Obj, (w.alloc o).heap.size = w.heap.size + 1 from fun o => by simp] at kc
  have HI := Aside0.mk (And.intro (m32_in a) (And.intro (m32_in b) hc))
  have w1 := m32_wrap a
  have w2 := m32_wrap b
  clear hc
  generalize m32 a = x at *
  generalize m32 b = y at *
  go_enter Tryz.func68, Tryz.ntmps68
  go_wp2_with fail
  clear kc w1 w2
  go_loopg [3, 18] 3 (fun k v p wr => ∃ (j : Nat) (A : Option Addr) (n cp : Nat) (l : List Int), p = .int .i64 (j : Int) ∧ j + k = 3 ∧ v = .slice A n cp ∧ n ≤ 16 ∧ l = markL ++ (([x, y, c].take j).flatMap put4) ∧ U8.C wr A n l ∧ Sep w wr [Row KU 78 (.slice (some ⟨w.heap.size + 1 + 1, 0, none⟩) 3 3) [x, y, c]])
  case atStart =>
    have h1 := Kd.C_alloc (lit_C (w.alloc (.cells #[.int .i64 a, .int .i64 b, .int .u32 c] 80)) .u8 #[.int .u8 69, .int .u8 78, .int .u8 71, .int .u8 49] 5 (4, 5) markL rfl (by decide)) (.cells #[.int .u32 x, .int .u32 y, .int .u32 c] 78)
    rw [show ∀ o : Obj, (w.alloc o).heap.size = w.heap.size + 1 from fun o => by simp] at h1
    refine ⟨0, _, _, _, markL, rfl, rfl, rfl, by decide, by simp, h1, ?_⟩
    have h := (((Sep.start w).alloc (.cells #[.int .i64 a, .int .i64 b, .int .u32 c] 80)).alloc (.cells #[.int .u8 69, .int .u8 78, .int .u8 71, .int .u8 49] 5 (4, 5))).litRow (enc := Value.int .u32) (h1 := fun _ => rfl) (e := 78) [x, y, c] (by simp)
    rw [show ∀ o o2 : Obj, ((w.alloc o).alloc o2).heap.size = w.heap.size + 1 + 1 from fun o o2 => by simp] at h
    exact h
  case round =>
    obtain ⟨j, A, n, cp, l, rfl, hjk, rfl, hn, hl, hC, hS⟩ := hrel
    have AS := Aside0.mk hS
    have HC := Aside0.mk hC
    have HL := Aside0.mk hl
    have AK := Aside0.mk hjk
    by_cases hj : j < 3
    · rcases (by omega : j = 0 ∨ j = 1 ∨ j = 2) with rfl | rfl | rfl
      · have z0 := (hS.rowCell (enc := Value.int .u32) 0 0 (by decide)).1
        have hnj : n = 4 := by have := hC.1; rw [hl] at this; simpa [markL, put4] using this.symm
        subst hnj
        clear hS hC hl hjk
        go_wp2_with fail
        refine (put_ (m := x) HC.out HI.out.1 (by decide)).mono ?_
        rintro e w1 ⟨v1, rfl, hS1⟩
        obtain ⟨A1, c1, rfl⟩ := hS1.rowN (n := 8) (by rw [List.length_append, HC.out.1, put4_length])
        have B1 := Aside0.mk (AS.out.lift1 hS1)
        clear hS1
        go_wp2_with fail
        go_roundg (gk - 1)
        case measure => have := AK.out; omega
        case rel => exact ⟨1, A1, 8, c1, l ++ put4 x, by go_num, by have := AK.out; omega, rfl, by decide, by rw [HL.out]; simp, B1.out.rowC', B1.out.tail⟩
      · have z0 := (hS.rowCell (enc := Value.int .u32) 0 1 (by decide)).1
        have hnj : n = 8 := by have := hC.1; rw [hl] at this; simpa [markL, put4] using this.symm
        subst hnj
        clear hS hC hl hjk
        go_wp2_with fail
        refine (put_ (m := y) HC.out HI.out.2.1 (by decide)).mono ?_
        rintro e w1 ⟨v1, rfl, hS1⟩
        obtain ⟨A1, c1, rfl⟩ := hS1.rowN (n := 12) (by rw [List.length_append, HC.out.1, put4_length])
        have B1 := Aside0.mk (AS.out.lift1 hS1)
        clear hS1
        go_wp2_with fail
        go_roundg (gk - 1)
        case measure => have := AK.out; omega
        case rel => exact ⟨2, A1, 12, c1, l ++ put4 y, by go_num, by have := AK.out; omega, rfl, by decide, by rw [HL.out]; simp, B1.out.rowC', B1.out.tail⟩
      · have z0 := (hS.rowCell (enc := Value.int .u32) 0 2 (by decide)).1
        have hnj : n = 12 := by have := hC.1; rw [hl] at this; simpa [markL, put4] using this.symm
        subst hnj
        clear hS hC hl hjk
        go_wp2_with fail
        refine (put_ (m := c) HC.out HI.out.2.2 (by decide)).mono ?_
        rintro e w1 ⟨v1, rfl, hS1⟩
        obtain ⟨A1, c1, rfl⟩ := hS1.rowN (n := 16) (by rw [List.length_append, HC.out.1, put4_length])
        have B1 := Aside0.mk (AS.out.lift1 hS1)
        clear hS1
        go_wp2_with fail
        go_roundg (gk - 1)
        case measure => have := AK.out; omega
        case rel => exact ⟨3, A1, 16, c1, l ++ put4 c, by go_num, by have := AK.out; omega, rfl, by decide, by rw [HL.out]; simp, B1.out.rowC', B1.out.tail⟩
    · obtain rfl : j = 3 := by omega
      have hl2 : l = headR x y c := by rw [hl]; simp [headR]
      subst hl2
      have hn16 : n = 16 := hC.1.symm
      subst hn16
      clear hS hC hl HL hjk hj
      go_wp2_with fail
      refine (Sum.of_ HC.out).mono ?_
      rintro e w1 ⟨rfl, rfl⟩
      go_wp2_with fail
      refine (put_ (m := sumF (headR x y c)) HC.out (sumF_in _) (by decide)).mono ?_
      rintro e w2 ⟨v2, rfl, hS2⟩
      obtain ⟨A2, c2, rfl⟩ := hS2.rowN (n := 20) rfl
      have B2 := Aside0.mk (AS.out.lift1 hS2)
      clear hS2
      go_wp2_with (first | (refine gate_builtin (b := .append) (xs := #[.tmp 30, .tmp 33]) rfl ?_; go_loud (refine B2.out.zerosRow (0 : Int) rfl (.tmp 30) (.tmp 33) 24 3 1 rfl Tryz.underlying24 Tryz.underlying3 infoB rfl (by decide) 44 rfl rfl (by rw [List.length_append, headR_len, put4_length]; decide) ?_; intro v3 w3 hS3; have B3 : Aside0 (Sep w w3 [Row U8 5 v3 (rootF x y c)]) := ⟨Sep.weakR (L := [_]) hS3⟩; clear hS3)))
      go_ret
      exact ⟨_, by first | rfl | (simp; done), B3.out⟩
end Go.Proofs.YtjngnigelkgekaaGreat.Root
namespace Go.Proofs.YtjngnigelkgekaaGreat.Root
open Go.RowKit Go.Proofs.YtjngnigelkgekaaGreatW.PrintWords Go.Proofs.YtjngnigelkgekaaGreatW.PrintLast Go.Proofs.YtjngnigelkgekaaGreatW.PrintMore Go.Proofs.YtjngnigelkgekaaGreat.Kit Go.Proofs.YtjngnigelkgekaaGreat.Base Go.Proofs.YtjngnigelkgekaaGreat.Plain Go.Proofs.YtjngnigelkgekaaGreat.Sum
theorem rstep_ (h x : Int) (w : World) : Calls Tryz.prog 115 #[.int .u32 h, .int .u8 x] w fun e w' => e = .returned (.int .u32 (stepF h x)) ∧ w = w' := by
  go_enter Tryz.func115, Tryz.ntmps115
  go_wp2
  go_ret
  exact ⟨by unfold stepF; simp [u32_mod], rfl⟩
set_option maxHeartbeats 400000 in
theorem rsum_ {A : Option Addr} {n c : Nat} {l : List Int} {w : World} (hr : B8.C w A n l) : Calls Tryz.prog 89 #[.slice A n c] w fun e w' => e = .returned (.int .u32 (sumF l)) ∧ w = w' := by
  obtain rfl : l.length = n := hr.1
  have hm : l.length ≤ 9223372036854775807 := hr.2.1
  have HR := Aside0.mk hr
  clear hr
  go_enter Tryz.func89, Tryz.ntmps89
  go_wp2_with fail
  go_loopg [3, 4] l.length (fun k s p wr => ∃ j : Nat, p = .int .i64 (j : Int) ∧ j + k = l.length ∧ s = .int .u32 (sumF (l.take j)) ∧ w = wr)
  case atStart => exact ⟨0, rfl, by omega, rfl, rfl⟩
  case round =>
    obtain ⟨j, rfl, hjk, rfl, rfl⟩ := hrel
    have AK := Aside0.mk hjk
    by_cases hj : j < l.length
    · obtain ⟨ad, hA, hc⟩ := Kd.at_int HR.out (j : Int) (by omega) (by omega)
      subst hA
      rw [Int.toNat_natCast] at hc
      have AT := Aside0.mk (take_snoc hj)
      have hjl : (j : Int) < (l.length : Int) := by omega
      generalize rd l (j : Int) = x at *
      clear hjk
      go_wp2_with fail
      refine (rstep_ _ x _).mono ?_
      rintro e w' ⟨rfl, rfl⟩
      go_wp2_with fail
      go_roundg (gk - 1)
      case measure => have := AK.out; omega
      case rel => exact ⟨j + 1, by go_num, by have := AK.out; omega, by rw [AT.out, sumF_snoc], rfl⟩
    · have hjn : j = l.length := by omega
      subst hjn
      rw [List.take_length]
      clear hjk AK
      go_wp2_with fail
      go_ret
      exact ⟨by first | rfl | (simp; done), rfl⟩
set_option maxHeartbeats 800000 in
theorem rget_out {A : Option Addr} {n c : Nat} {l : List Int} {a : Int} {w : World} (hr : B8.C w A n l) (ha : a < 0 ∨ (l.length : Int) - 4 < a) :
    Calls Tryz.prog 126 #[.slice A n c, .int .i64 a] w fun e w' => e = .returned (.int .u32 (getF l a)) ∧ Below w.heap.size w w' := by
  obtain rfl : l.length = n := hr.1
  have hm : l.length ≤ 9223372036854775807 := hr.2.1
  have hg : getF l a = 0 := by unfold getF; rw [if_pos ha]
  have HG := Aside0.mk hg
  clear hr hg
  by_cases h0 : a < 0
  · clear ha
    go_enter Tryz.func126, Tryz.ntmps126
    go_wp2
    go_ret
    exact ⟨by rw [HG.out]; first | rfl | (simp; done), Below.refl _ _⟩
  · have h1 : (l.length : Int) - 4 < a := by omega
    clear ha
    go_enter Tryz.func126, Tryz.ntmps126
    go_wp2
    go_ret
    exact ⟨by rw [HG.out]; first | rfl | (simp; done), Below.refl _ _⟩
set_option maxHeartbeats 800000 in
set_option maxRecDepth 100000 in
theorem rget_in {A : Option Addr} {n c : Nat} {l : List Int} {a : Nat} {w : World} (hr : B8.C w A n l) (hb : Bytes l) (ha : a + 4 ≤ n) :
    Calls Tryz.prog 126 #[.slice A n c, .int .i64 (a : Int)] w fun e w' => e = .returned (.int .u32 (getF l (a : Int))) ∧ Below w.heap.size w w' := by
  obtain rfl : l.length = n := hr.1
  have hm : l.length ≤ 9223372036854775807 := hr.2.1
  have h0 : ¬ (a : Int) < 0 := by omega
  have h1 : ¬ (l.length : Int) - 4 < (a : Int) := by omega
  have w0 : wrap64 ((l.length : Int) - 4) = (l.length : Int) - 4 := IntWalk.wrap64_in _ (by omega)
  have t1 : ((a : Int) + 1).toNat = a + 1 := by omega
  have g1 : 0 ≤ (a : Int) + 1 := by omega
  have w1 : IntKind.i64.wrap ((a : Int) + 1) = (a : Int) + 1 := by rw [IntKind.wrap_i64]; omega
  have t2 : ((a : Int) + 2).toNat = a + 2 := by omega
  have g2 : 0 ≤ (a : Int) + 2 := by omega
  have w2 : IntKind.i64.wrap ((a : Int) + 2) = (a : Int) + 2 := by rw [IntKind.wrap_i64]; omega
  have t3 : ((a : Int) + 3).toNat = a + 3 := by omega
  have g3 : 0 ≤ (a : Int) + 3 := by omega
  have w3 : IntKind.i64.wrap ((a : Int) + 3) = (a : Int) + 3 := by rw [IntKind.wrap_i64]; omega
  have hg : getF l (a : Int) = ((rd l (a : Int) * 256 + rd l ((a : Int) + 1)) * 256 + rd l ((a : Int) + 2)) * 256 + rd l ((a : Int) + 3) := by unfold getF; rw [if_neg (by omega)]
  have HB0 := hb.at (a : Int)
  have HB1 := hb.at ((a : Int) + 1)
  have HB2 := hb.at ((a : Int) + 2)
  have HB3 := hb.at ((a : Int) + 3)
  obtain ⟨ad, hA, z0⟩ := Kd.at_int hr (a : Int) (by omega) (by omega)
  obtain ⟨ad1, hA1, z1⟩ := Kd.at_int hr ((a : Int) + 1) (by omega) (by omega)
  obtain ⟨ad2, hA2, z2⟩ := Kd.at_int hr ((a : Int) + 2) (by omega) (by omega)
  obtain ⟨ad3, hA3, z3⟩ := Kd.at_int hr ((a : Int) + 3) (by omega) (by omega)
  subst hA
  cases hA1
  cases hA2
  cases hA3
  rw [Int.toNat_natCast] at z0
  rw [show ((a : Int) + 1).toNat = a + 1 by omega] at z1
  rw [show ((a : Int) + 2).toNat = a + 2 by omega] at z2
  rw [show ((a : Int) + 3).toNat = a + 3 by omega] at z3
  have hb0 : (a : Int) < (l.length : Int) := by omega
  have hb1 : (a : Int) + 1 < (l.length : Int) := by omega
  have hb2 : (a : Int) + 2 < (l.length : Int) := by omega
  have hb3 : (a : Int) + 3 < (l.length : Int) := by omega
  generalize rd l (a : Int) = x0 at *
  generalize rd l ((a : Int) + 1) = x1 at *
  generalize rd l ((a : Int) + 2) = x2 at *
  generalize rd l ((a : Int) + 3) = x3 at *
  have hf := four_or HB0.1 HB0.2 HB1.1 HB1.2 HB2.1 HB2.2 HB3.1 HB3.2
  have HF := Aside0.mk (hf.trans hg.symm)
  have u0 : ∀ q, (w.drewN q).cell? (ad.add a) = some (.int .u8 x0) := fun q => cell_later (pw_below_drewN (Below.refl _ _) q) z0
  have u1 : ∀ q, (w.drewN q).cell? ⟨ad.block, ad.off + (a + 1), none⟩ = some (.int .u8 x1) := fun q => cell_later (pw_below_drewN (Below.refl _ _) q) z1
  have u2 : ∀ q, (w.drewN q).cell? ⟨ad.block, ad.off + (a + 2), none⟩ = some (.int .u8 x2) := fun q => cell_later (pw_below_drewN (Below.refl _ _) q) z2
  have u3 : ∀ q, (w.drewN q).cell? ⟨ad.block, ad.off + (a + 3), none⟩ = some (.int .u8 x3) := fun q => cell_later (pw_below_drewN (Below.refl _ _) q) z3
  clear hr hb hg hf HB0 HB1 HB2 HB3 z0 z1 z2 z3
  go_enter Tryz.func126, Tryz.ntmps126
  go_wp2_with fail
  go_quiet (fail)
  go_wp2_with fail
  go_ret
  exact ⟨by rw [← HF.out]; first | rfl | (simp [u32_mod]; done), pw_below_drewN (Below.refl _ _) _⟩
theorem rget_ {A : Option Addr} {n c : Nat} {l : List Int} {a : Int} {w : World} (hr : B8.C w A n l) (hb : Bytes l) :
    Calls Tryz.prog 126 #[.slice A n c, .int .i64 a] w fun e w' => e = .returned (.int .u32 (getF l a)) ∧ Below w.heap.size w w' := by
  have hl := hr.1
  by_cases ha : a < 0 ∨ (l.length : Int) - 4 < a
  · exact rget_out hr ha
  · obtain ⟨k, rfl⟩ : ∃ k : Nat, a = (k : Int) := ⟨a.toNat, by omega⟩
    exact rget_in hr hb (by omega)
set_option maxHeartbeats 800000 in
set_option maxRecDepth 100000 in
theorem rput_ {A : Option Addr} {n c : Nat} {l : List Int} {m : Int} {w : World} (hr : B8.C w A n l) (hm : 0 ≤ m ∧ m ≤ 4294967295) (hl : n ≤ 140737488355320) :
    Calls Tryz.prog 88 #[.slice A n c, .int .u32 m] w fun e w' => ∃ v, e = .returned v ∧ Sep w w' [Row B8 5 v (l ++ put4 m)] := by
  obtain rfl : l.length = n := hr.1
  have HR := Aside0.mk hr
  have L0 := Aside0.mk ((Sep.start w).litRow (enc := Value.int .u8) (h1 := fun _ => rfl) (e := 5) [] (by decide))
  have hp : Aside0 (put4 m = [m / 16777216 % 256, m / 65536 % 256, m / 256 % 256, m % 256]) := ⟨rfl⟩
  have s24 := shr32 m 24 (by decide)
  have s16 := shr32 m 16 (by decide)
  have s8 := shr32 m 8 (by decide)
  have L3 : ∀ W : World, ∀ F : List HP, Sep w W F → Sep w (W.alloc (.cells #[.int .u8 (m / 16777216 % 256), .int .u8 (m / 65536 % 256), .int .u8 (m / 256 % 256), .int .u8 (m % 256)] 5)) (Row B8 5 (.slice (some ⟨W.heap.size, 0, none⟩) 4 4) (put4 m) :: F) := fun W F h => h.litRow (enc := Value.int .u8) (h1 := fun _ => rfl) (e := 5) (put4 m) (by simp [put4])
  have HL3 := Aside0.mk L3
  clear hr hm L3
  go_enter Tryz.func88, Tryz.ntmps88
  go_wp2_with (first | (refine gate_builtin (b := .append) (xs := #[.tmp 5, .tmp 6]) rfl ?_; go_loud (refine L0.out.appendRow rfl (.tmp 5) (.tmp 6) 24 (.int .u8 0) 1 rfl Tryz.underlying24 infoB8 rfl (by decide) A l.length c rfl rfl (Kd.C_alloc HR.out _) (by simp; omega) ?_; intro v1 w1 hS1; rw [List.nil_append] at hS1; obtain ⟨A1, c1, rfl⟩ := hS1.rowV; have A1' := Aside0.mk (HL3.out _ _ hS1).at2; clear hS1)) | (refine gate_builtin (b := .append) (xs := #[.tmp 7, .tmp 19]) rfl ?_; go_loud (refine A1'.out.appendRow rfl (.tmp 7) (.tmp 19) 24 (.int .u8 0) 1 rfl Tryz.underlying24 infoB8 rfl (by decide) (some ⟨w1.heap.size, 0, none⟩) 4 4 rfl rfl A1'.out.at2.rowC.2.2 (by rw [put4_length]; omega) ?_; intro v2 w2 hS2; have A2 := Aside0.mk (Sep.weakR (L := [_]) hS2); clear hS2)))
  go_ret
  exact ⟨_, by first | rfl | (simp; done), A2.out⟩
end Go.Proofs.YtjngnigelkgekaaGreat.Root
namespace Go.Proofs.YtjngnigelkgekaaGreat.Root
open Go.RowKit Go.Proofs.YtjngnigelkgekaaGreatW.PrintWords Go.Proofs.YtjngnigelkgekaaGreatW.PrintLast Go.Proofs.YtjngnigelkgekaaGreatW.PrintMore Go.Proofs.YtjngnigelkgekaaGreat.Kit Go.Proofs.YtjngnigelkgekaaGreat.Base Go.Proofs.YtjngnigelkgekaaGreat.Plain Go.Proofs.YtjngnigelkgekaaGreat.Sum
set_option maxHeartbeats 800000 in
set_option maxRecDepth 100000 in
theorem rroot_ (a b c : Int) (hc : 0 ≤ c ∧ c ≤ 4294967295) (w : World) :
    Calls Tryz.prog 45 #[.agg #[.int .i64 a, .int .i64 b, .int .u32 c]] w fun e w' => ∃ v, e = .returned v ∧ Sep w w' [Row U8 5 v (rootF (m32 a) (m32 b) c)] := by
  have hsz : (w.alloc (.cells #[.int .i64 a, .int .i64 b, .int .u32 c] 80)).drew.heap.size = w.heap.size + 1 := by simp
  have kc := fun (C : Array Value) (n cp : Nat) => Lib.run_convert_bytes_const (P := Tryz.prog) (w.alloc (.cells #[.int .i64 a, .int .i64 b, .int .u32 c] 80)).drew 24 5 C n cp Tryz.underlying24 Tryz.underlying5
  rw [hsz] at kc
  have HI := Aside0.mk (And.intro (m32_in a) (And.intro (m32_in b) hc))
  have w1 := m32_wrap a
  have w2 := m32_wrap b
  have A0 := Aside0.mk ((Sep.start w).newBlk 80 #[.int .i64 a, .int .i64 b, .int .u32 c]).drew
  have A1 := Aside0.mk (A0.out.alloc (.cells #[.int .u8 69, .int .u8 78, .int .u8 71, .int .u8 49] 5))
  have A2 := Aside0.mk (A0.out.alloc (.cells #[.int .u8 69, .int .u8 78, .int .u8 71, .int .u8 49] 5 (4, 5)))
  have HC := lit_C (w.alloc (.cells #[.int .i64 a, .int .i64 b, .int .u32 c] 80)).drew .u8 #[.int .u8 69, .int .u8 78, .int .u8 71, .int .u8 49] 5 (4, 5) markL rfl (by decide)
  rw [hsz] at HC
  have HLC := Aside0.mk HC
  clear hc HC
  simp only [World.alloc_drew] at kc A1 A2 HLC
  generalize m32 a = x at *
  generalize m32 b = y at *
  go_enter Tryz.func45, Tryz.ntmps45
  go_wp2_with fail
  refine start_ (n := 14) (S := fun w' => w'.cell? ⟨w.heap.size, 0, none⟩ = some (.int .i64 a) ∧ w'.cell? ⟨w.heap.size, 1, none⟩ = some (.int .i64 b) ∧ w'.cell? ⟨w.heap.size, 2, none⟩ = some (.int .u32 c)) (ds := [12]) #[Z,Z,Z,Z,Z,Z,Z,Z,Z,Z,Z,Z,Z,Z] (by kernel_rfl) rfl rfl ⟨(A0.out.cell 0).trans rfl, (A0.out.cell 1).trans rfl, (A0.out.cell 2).trans rfl⟩ (fun hHeld => ?_)
  refine pu_ 2 6 ?_ #[Z,Z,J,Z,Z,Z,Z,Z,Z,Z,Z,Z,Z,Z] rfl rfl ?_ ?_ ?_ ?_
  rotate_left
  · intro w'
    go_simp
    with_reducible rfl
  rotate_left
  · simp only [aP]
    rfl
  refine pu_ 6 10 ?_ #[Z,Z,J,Z,Z,Z,J,Z,Z,Z,Z,Z,Z,Z] rfl rfl ?_ ?_ ?_ ?_
  rotate_left
  · intro w'
    go_simp
    with_reducible rfl
  rotate_left
  · simp only [aP]
    rfl
  refine pu_ 10 14 ?_ #[Z,Z,J,Z,Z,Z,J,Z,Z,Z,J,Z,Z,Z] rfl rfl ?_ ?_ ?_ ?_
  rotate_left
  · intro w'
    go_simp
    with_reducible rfl
  rotate_left
  · simp only [aP]
    rfl
  refine ta_ 3 7 ?_ #[Z,Z,J,J,Z,Z,J,Z,Z,Z,J,Z,Z,Z] rfl rfl ?_ hHeld ?_ ?_ ?_
  rotate_left
  · rintro w' ⟨s0, s1, s2⟩
    go_simp
    with_reducible rfl
  rotate_left
  · simp only [aP]
    rfl
  refine pu_ 4 8 ?_ #[Z,Z,J,J,J,Z,J,Z,Z,Z,J,Z,Z,Z] rfl rfl ?_ ?_ ?_ ?_
  rotate_left
  · intro w'
    go_simp
    with_reducible rfl
  rotate_left
  · simp only [aP]
    rfl
  refine ta_ 7 11 ?_ #[Z,Z,J,J,J,Z,J,J,Z,Z,J,Z,Z,Z] rfl rfl ?_ hHeld ?_ ?_ ?_
  rotate_left
  · rintro w' ⟨s0, s1, s2⟩
    go_simp
    with_reducible rfl
  rotate_left
  · simp only [aP]
    rfl
  refine pu_ 8 12 ?_ #[Z,Z,J,J,J,Z,J,J,J,Z,J,Z,Z,Z] rfl rfl ?_ ?_ ?_ ?_
  rotate_left
  · intro w'
    go_simp
    with_reducible rfl
  rotate_left
  · simp only [aP]
    rfl
  refine ta_ 11 15 ?_ #[Z,Z,J,J,J,Z,J,J,J,Z,J,J,Z,Z] rfl rfl ?_ hHeld ?_ ?_ ?_
  rotate_left
  · rintro w' ⟨s0, s1, s2⟩
    go_simp
    with_reducible rfl
  rotate_left
  · simp only [aP]
    rfl
  refine one_ (i := 0) (N := some 4) #[J,Z,J,J,J,Z,J,J,J,Z,J,J,Z,Z] rfl rfl (by kernel_rfl) (by decide) (fun K hK => ?_)
  refine value_ (w1 := ?_) (v := ?_) (by rfl) rfl ?_ ?_
  rotate_left 2
  · go_simp
    constructor
    · rfl
    · rfl
  refine hK.out _ _ ⟨(A1.out.cell 0).trans rfl, (A1.out.cell 1).trans rfl, (A1.out.cell 2).trans rfl⟩ (fun hHeld => ?_)
  clear hK K
  refine norm_ (a' := ?_) ?_ ?_
  rotate_left
  · show Act.put _ (some 4) _ = _
    simp only [aP]
    rfl
  refine one_ (i := 1) (N := some 5) #[J,J,J,J,J,Z,J,J,J,Z,J,J,Z,Z] rfl rfl (by kernel_rfl) (by decide) (fun K hK => ?_)
  refine value_ (w1 := ?_) (v := ?_) (by rfl) rfl ?_ ?_
  rotate_left 2
  · go_simp
    constructor
    · rfl
    · rfl
  refine hK.out _ _ ⟨(A2.out.cell 0).trans rfl, (A2.out.cell 1).trans rfl, (A2.out.cell 2).trans rfl⟩ (fun hHeld => ?_)
  clear hK K
  refine norm_ (a' := ?_) ?_ ?_
  rotate_left
  · show Act.put _ (some 5) _ = _
    simp only [aP]
    rfl
  refine one_ (i := 5) (N := some 9) #[J,J,J,J,J,J,J,J,J,Z,J,J,Z,Z] rfl rfl (by kernel_rfl) (by decide) (fun K hK => ?_)
  refine goes_ Tryz.func88 (by kernel_rfl) rfl #[.slice (some ⟨w.heap.size + 1, 0, none⟩) 4 4, .int .u32 x] (by rfl) rfl rfl (by simp only [List.map_toArray, List.map_cons, List.map_nil]; rfl) ?_
  with_reducible refine (rput_ (n := 4) (c := 4) (l := markL) HLC.out HI.out.1 (by decide)).mono ?_
  rintro e w3 ⟨v3, rfl, hS3⟩
  refine ⟨_, rfl, ?_⟩
  obtain ⟨A3, c3, rfl⟩ := hS3.rowN (n := 8) rfl
  have B3 := Aside0.mk (A2.out.lift1 hS3)
  clear hS3
  refine hK.out _ _ ⟨(B3.out.at2.cell 0).trans rfl, (B3.out.at2.cell 1).trans rfl, (B3.out.at2.cell 2).trans rfl⟩ (fun hHeld => ?_)
  clear hK K
  refine norm_ (a' := ?_) ?_ ?_
  rotate_left
  · show Act.put _ (some 9) _ = _
    simp only [aP]
    rfl
  refine one_ (i := 9) (N := some 13) #[J,J,J,J,J,J,J,J,J,J,J,J,Z,Z] rfl rfl (by kernel_rfl) (by decide) (fun K hK => ?_)
  refine goes_ Tryz.func88 (by kernel_rfl) rfl #[.slice A3 8 c3, .int .u32 y] (by rfl) rfl rfl (by simp only [List.map_toArray, List.map_cons, List.map_nil]; rfl) ?_
  with_reducible refine (rput_ B3.out.rowC' HI.out.2.1 (by decide)).mono ?_
  rintro e w4 ⟨v4, rfl, hS4⟩
  refine ⟨_, rfl, ?_⟩
  obtain ⟨A4, c4, rfl⟩ := hS4.rowN (n := 12) rfl
  have B4 := Aside0.mk (B3.out.tail.lift1 hS4)
  clear hS4
  refine hK.out _ _ ⟨(B4.out.at2.cell 0).trans rfl, (B4.out.at2.cell 1).trans rfl, (B4.out.at2.cell 2).trans rfl⟩ (fun hHeld => ?_)
  clear hK K
  refine norm_ (a' := ?_) ?_ ?_
  rotate_left
  · show Act.put _ (some 13) _ = _
    simp only [aP]
    rfl
  refine last_ (i := 12) (N := some 16) #[J,J,J,J,J,J,J,J,J,J,J,J,J,Z] rfl rfl (by kernel_rfl) (by decide) (fun K hK => ?_)
  refine goes_ Tryz.func88 (by kernel_rfl) rfl #[.slice A4 12 c4, .int .u32 c] (by rfl) rfl rfl (by simp only [List.map_toArray, List.map_cons, List.map_nil]; rfl) ?_
  with_reducible refine (rput_ B4.out.rowC' HI.out.2.2 (by decide)).mono ?_
  rintro e w5 ⟨v5, rfl, hS5⟩
  refine ⟨_, rfl, ?_⟩
  obtain ⟨A5, c5, rfl⟩ := hS5.rowN (n := 16) rfl
  have B5 : Aside0 (Sep w w5 [Row U8 5 (.slice A5 16 c5) (headR x y c)]) := ⟨Sep.weakR (L := [_]) (B4.out.tail.lift1 hS5)⟩
  clear hS5
  refine hK.out _ _ ?_
  clear hK K
  refine norm_ (a' := ?_) ?_ ?_
  rotate_left
  · show Act.put _ (some 16) _ = _
    simp only [aP]
    rfl
  refine pu_ 13 3 ?_ #[J,J,J,J,J,J,J,J,J,J,J,J,J,J] rfl rfl ?_ ?_ ?_ ?_
  rotate_left
  · intro w'
    go_simp
    with_reducible rfl
  rotate_left
  · simp only [aP]
    rfl
  refine done_ (by kernel_rfl) ?_
  clear kc w1 w2
  go_wp2_with fail
  refine (rsum_ B5.out.rowC').mono ?_
  rintro e w6 ⟨rfl, rfl⟩
  go_wp2_with fail
  refine (rput_ (m := sumF (headR x y c)) B5.out.rowC' (sumF_in _) (by decide)).mono ?_
  rintro e w7 ⟨v7, rfl, hS7⟩
  obtain ⟨A7, c7, rfl⟩ := hS7.rowN (n := 20) rfl
  have B7 := Aside0.mk (B5.out.tail.lift1 hS7)
  clear hS7
  go_wp2_with (first | (refine gate_builtin (b := .append) (xs := #[.tmp 21, .tmp 24]) rfl ?_; go_loud (refine B7.out.zerosRow (0 : Int) rfl (.tmp 21) (.tmp 24) 24 3 1 rfl Tryz.underlying24 Tryz.underlying3 infoB rfl (by decide) 44 rfl rfl (by rw [List.length_append, headR_len, put4_length]; decide) ?_; intro v8 w8 hS8; have B8 : Aside0 (Sep w w8 [Row U8 5 v8 (rootF x y c)]) := ⟨hS8⟩; clear hS8)))
  go_ret
  exact ⟨_, by first | rfl | (simp; done), B8.out⟩
end Go.Proofs.YtjngnigelkgekaaGreat.Root
namespace Go.Proofs.YtjngnigelkgekaaGreat.Root
open Go.RowKit Go.Proofs.YtjngnigelkgekaaGreatW.PrintWords Go.Proofs.YtjngnigelkgekaaGreatW.PrintLast Go.Proofs.YtjngnigelkgekaaGreatW.PrintMore Go.Proofs.YtjngnigelkgekaaGreat.Kit Go.Proofs.YtjngnigelkgekaaGreat.Base Go.Proofs.YtjngnigelkgekaaGreat.Plain Go.Proofs.YtjngnigelkgekaaGreat.Sum
macro "go_retc " v:term : tactic => `(tactic| ((try simp only [Exit.inBlock, Exit.then]); refine bodyPost_ret (v := $v) (by rw [results_cell_tmp rfl]; go_simp) rfl ?_))
def rootV (r : R3) : Value := .agg #[.int .i64 r.1, .int .i64 r.2.1, .int .u32 r.2.2]
def readV (l : List Int) : Value := .tuple #[rootV ((unrootF l).getD (0, 0, 0)), .bool (unrootF l).isSome]
theorem getF_rng {b : List Int} (h : Bytes b) (a : Int) : 0 ≤ getF b a ∧ getF b a ≤ 4294967295 := by
  have r0 := h.at a; have r1 := h.at (a + 1); have r2 := h.at (a + 2); have r3 := h.at (a + 3)
  unfold getF
  split <;> omega
theorem store3 {w0 W : World} {F : List HP} {g : Nat} {T : TypeId} {v0 v1 v2 : Value} (u0 u1 u2 : Value) (h : Sep w0 W (Blk g T #[v0, v1, v2] :: F)) :
    W.cell? ⟨g, 0, none⟩ = some v0 ∧ W.frozen? ⟨g, 0, none⟩ = false ∧
    (W.setCell ⟨g, 0, none⟩ u0).cell? ⟨g, 1, none⟩ = some v1 ∧ (W.setCell ⟨g, 0, none⟩ u0).frozen? ⟨g, 1, none⟩ = false ∧
    ((W.setCell ⟨g, 0, none⟩ u0).setCell ⟨g, 1, none⟩ u1).cell? ⟨g, 2, none⟩ = some v2 ∧ ((W.setCell ⟨g, 0, none⟩ u0).setCell ⟨g, 1, none⟩ u1).frozen? ⟨g, 2, none⟩ = false ∧
    Sep w0 (((W.setCell ⟨g, 0, none⟩ u0).setCell ⟨g, 1, none⟩ u1).setCell ⟨g, 2, none⟩ u2) (Blk g T #[u0, u1, u2] :: F) := by
  have h1 := h.setBlk 0 u0
  have h2 := h1.setBlk 1 u1
  have h3 := h2.setBlk 2 u2
  exact ⟨(h.cell 0).trans rfl, h.frozen 0, (h1.cell 1).trans rfl, h1.frozen 1, (h2.cell 2).trans rfl, h2.frozen 2, h3⟩
set_option maxHeartbeats 800000 in
set_option maxRecDepth 100000 in
theorem read_ {A : Option Addr} {n c : Nat} {l : List Int} {w : World} (hr : U8.C w A n l) (hc : n ≤ c) (hb : Bytes l) :
    Calls Tryz.prog 122 #[.slice A n c] w fun e w' => e = .returned (readV l) ∧ Below w.heap.size w w' := by
  have hl : l.length = n := hr.1
  by_cases h64 : n = 64
  case neg =>
    have hv : Aside0 (unrootF l = none) := ⟨if_neg (fun h => h64 (hl.symm.trans h.1))⟩
    have h1 : ¬ (n : Int) = 64 := by omega
    clear hr hb hl
    go_enter Tryz.func122, Tryz.ntmps122
    go_wp2_with fail
    go_retc (.tuple #[.agg #[.int .i64 0, .int .i64 0, .int .u32 0], .bool false])
    exact ⟨by unfold readV; rw [hv.out]; rfl, below_alloc (Below.refl _ _) _⟩
  case pos =>
    subst h64
    have HR := Aside0.mk hr
    have HC := Aside0.mk hc
    have HB := Aside0.mk hb
    have HL := Aside0.mk hl
    have HI := Aside0.mk (And.intro (getF_rng hb 4) (And.intro (getF_rng hb 8) (getF_rng hb 12)))
    clear hr hb hl hc
    go_enter Tryz.func122, Tryz.ntmps122
    go_wp2_with fail
    refine (get_ (l := l) (a := 4) (Kd.C_alloc HR.out _) HC.out HB.out (by omega)).mono ?_
    rintro e w1 ⟨rfl, rfl⟩
    go_wp2_with fail
    refine (get_ (l := l) (a := 8) (Kd.C_alloc HR.out _) HC.out HB.out (by omega)).mono ?_
    rintro e w1 ⟨rfl, rfl⟩
    have hx1 : IntKind.i64.wrap (getF l 4) = getF l 4 := by have := HI.out.1; rw [IntKind.wrap_i64]; omega
    have hx2 : IntKind.i64.wrap (getF l 8) = getF l 8 := by have := HI.out.2.1; rw [IntKind.wrap_i64]; omega
    go_wp2_with fail
    refine (get_ (l := l) (a := 12) (Kd.C_alloc HR.out _) HC.out HB.out (by omega)).mono ?_
    rintro e w1 ⟨rfl, rfl⟩
    have hU : Aside0 (∀ h : IsRoot l, unrootF l = some (getF l 4, getF l 8, getF l 12)) := ⟨fun h => if_pos h⟩
    have hU0 : Aside0 (¬ IsRoot l → unrootF l = none) := ⟨fun h => if_neg h⟩
    have hIR : Aside0 (IsRoot l ↔ getF l 4 ≤ 2147483647 ∧ getF l 8 ≤ 2147483647 ∧ l = rootF (getF l 4) (getF l 8) (getF l 12)) := ⟨⟨fun h => h.2, fun h => ⟨HL.out, h⟩⟩⟩
    generalize getF l 4 = x at *
    generalize getF l 8 = y at *
    generalize getF l 12 = z at *
    have A0 := Aside0.mk (((Sep.start w).newBlk 80 #[.int .i64 0, .int .i64 0, .int .u32 0]).newBlk 80 #[.int .i64 x, .int .i64 y, .int .u32 z]).at2
    rw [show ∀ o : Obj, (w.alloc o).heap.size = w.heap.size + 1 from fun o => by simp] at A0
    by_cases hx : 2147483647 < x
    case pos =>
      have HN : Aside0 (unrootF l = none) := ⟨hU0.out (fun h => by have := (hIR.out.1 h).1; omega)⟩
      have hd : decide (2147483647 < x) = true := decide_eq_true hx
      go_wp2_with fail
      go_retc (.tuple #[.agg #[.int .i64 0, .int .i64 0, .int .u32 0], .bool false])
      exact ⟨by unfold readV; rw [HN.out]; rfl, A0.out.toBelow⟩
    case neg =>
    have hd : decide (2147483647 < x) = false := decide_eq_false hx
    by_cases hy : 2147483647 < y
    case pos =>
      have HN : Aside0 (unrootF l = none) := ⟨hU0.out (fun h => by have := (hIR.out.1 h).2.1; omega)⟩
      have hd2 : decide (2147483647 < y) = true := decide_eq_true hy
      go_wp2_with fail
      go_retc (.tuple #[.agg #[.int .i64 0, .int .i64 0, .int .u32 0], .bool false])
      exact ⟨by unfold readV; rw [HN.out]; rfl, A0.out.toBelow⟩
    case neg =>
    have hd2 : decide (2147483647 < y) = false := decide_eq_false hy
    go_wp2_with fail
    refine (bytes_ x y z HI.out.2.2 _).mono ?_
    rintro e w2 ⟨v2, rfl, hS2⟩
    rw [m32_id HI.out.1.1 HI.out.1.2, m32_id HI.out.2.1.1 HI.out.2.1.2] at hS2
    obtain ⟨A2, c2, rfl⟩ := hS2.rowN (n := 64) (rootF_len _ _ _)
    have B2 := Aside0.mk (A0.out.lift1 hS2)
    clear hS2
    go_wp2_with fail
    refine (equal_ (Kd.C_below HR.out B2.out.toBelow) B2.out.rowC').mono ?_
    rintro e w3 ⟨rfl, hb3⟩
    have B3 := (B2.out.below hb3).tail
    have z0 : w3.cell? ⟨w.heap.size + 1, 0, none⟩ = some (.int .i64 x) := (B3.at2.cell 0).trans rfl
    have z1 : w3.cell? ⟨w.heap.size + 1, 1, none⟩ = some (.int .i64 y) := (B3.at2.cell 1).trans rfl
    have z2 : w3.cell? ⟨w.heap.size + 1, 2, none⟩ = some (.int .u32 z) := (B3.at2.cell 2).trans rfl
    have B3' := Aside0.mk B3
    clear hb3 B3
    by_cases he : l = rootF x y z
    case pos =>
      have HN : Aside0 (unrootF l = some (x, y, z)) := ⟨hU.out (hIR.out.2 ⟨by omega, by omega, he⟩)⟩
      rw [decide_eq_true he]
      clear he
      obtain ⟨c0, f0, c1, f1, c2, f2, hS4⟩ := store3 (.int .i64 x) (.int .i64 y) (.int .u32 z) B3'.out
      obtain ⟨w4, hw4⟩ : ∃ w4, (((w3.setCell ⟨w.heap.size, 0, none⟩ (.int .i64 x)).setCell ⟨w.heap.size, 1, none⟩ (.int .i64 y)).setCell ⟨w.heap.size, 2, none⟩ (.int .u32 z)) = w4 := ⟨_, rfl⟩
      rw [hw4] at hS4
      have r0 := (hS4.cell 0).trans rfl
      have r1 := (hS4.cell 1).trans rfl
      have r2 := (hS4.cell 2).trans rfl
      have B4 := Aside0.mk hS4
      clear hS4
      go_wp2_with fail
      go_retc (.tuple #[.agg #[.int .i64 x, .int .i64 y, .int .u32 z], .bool true])
      exact ⟨by unfold readV; rw [HN.out]; rfl, B4.out.toBelow⟩
    case neg =>
      have HN : Aside0 (unrootF l = none) := ⟨hU0.out (fun h => he (hIR.out.1 h).2.2)⟩
      rw [decide_eq_false he]
      clear he
      obtain ⟨c0, f0, c1, f1, c2, f2, hS4⟩ := store3 (.int .i64 0) (.int .i64 0) (.int .u32 0) B3'.out
      obtain ⟨w4, hw4⟩ : ∃ w4, (((w3.setCell ⟨w.heap.size, 0, none⟩ (.int .i64 0)).setCell ⟨w.heap.size, 1, none⟩ (.int .i64 0)).setCell ⟨w.heap.size, 2, none⟩ (.int .u32 0)) = w4 := ⟨_, rfl⟩
      rw [hw4] at hS4
      have r0 := (hS4.cell 0).trans rfl
      have r1 := (hS4.cell 1).trans rfl
      have r2 := (hS4.cell 2).trans rfl
      have B4 := Aside0.mk hS4
      clear hS4
      go_wp2_with fail
      go_retc (.tuple #[.agg #[.int .i64 0, .int .i64 0, .int .u32 0], .bool false])
      exact ⟨by unfold readV; rw [HN.out]; rfl, B4.out.toBelow⟩
end Go.Proofs.YtjngnigelkgekaaGreat.Root
namespace Go.Proofs.YtjngnigelkgekaaGreat.Store
open Go.RowKit Go.Proofs.YtjngnigelkgekaaGreatW.PrintWords Go.Proofs.YtjngnigelkgekaaGreatW.PrintLast Go.Proofs.YtjngnigelkgekaaGreatW.PrintMore Go.Proofs.YtjngnigelkgekaaGreat.Kit Go.Proofs.YtjngnigelkgekaaGreat.Plain Go.Proofs.YtjngnigelkgekaaGreat.Disk Go.Proofs.YtjngnigelkgekaaGreat.Root
open Go.Proofs.YtjngnigelkgekaaGreat.Delta (Chg KC)
theorem results_cell4 {fn : Func} {p u x y : Tmp} {ty : TypeId} (h : fn.results = #[.cell p ty, .tmp u, .tmp x, .tmp y]) (tmps : Array Value) (P : Program) (w : World) :
    (results fn tmps).run P w = ((asAddr (tmps.getD p undef)).run P w).andThen fun a w₁ => ((loadVar ty a).run P w₁).andThen fun v w₂ => .ok (.tuple #[v, tmps.getD u undef, tmps.getD x undef, tmps.getD y undef]) w₂ := by
  simp only [results, h]
  simp [Sem.run_bind, Result.andThen]
macro "go_retc1 " v:term : tactic => `(tactic| ((try simp only [Exit.inBlock, Exit.then]); refine bodyPost_ret (v := $v) (by rw [results_cell1 rfl]; go_simp) rfl ?_))
macro "go_retc4 " v:term : tactic => `(tactic| ((try simp only [Exit.inBlock, Exit.then]); refine bodyPost_ret (v := $v) (by rw [results_cell4 rfl]; go_simp) rfl ?_))
def StB (gs g m : Nat) (a b ep : Int) (pages : List (List Int)) (named : List Int) (used seq : Nat) : HP := Ex fun v : Value => Star [Blk gs 108 #[.pointer (some ⟨g, 0, none⟩), .int .i64 a, .int .i64 b, .int .u32 ep, v, .map (some m), .int .i64 (used : Int), .int .u32 (seq : Int)], RowV KP 24 v pages, SetM m named]
section
variable {w0 W : World} {F : List HP} {gs g m : Nat} {a b ep : Int} {pages : List (List Int)} {named : List Int} {used seq : Nat}
theorem stb_open (h : Sep w0 W (StB gs g m a b ep pages named used seq :: F)) : ∃ A c, Sep w0 W (Blk gs 108 #[.pointer (some ⟨g, 0, none⟩), .int .i64 a, .int .i64 b, .int .u32 ep, .slice A pages.length c, .map (some m), .int .i64 (used : Int), .int .u32 (seq : Int)] :: RowV KP 24 (.slice A pages.length c) pages :: SetM m named :: F) := by
  obtain ⟨v, h1⟩ := h.ex
  have h2 := h1.star
  obtain ⟨A, c, rfl⟩ := Sep.rowVN h2.at2 rfl
  exact ⟨A, c, h2⟩
theorem stb_shut {v : Value} (h : Sep w0 W (Blk gs 108 #[.pointer (some ⟨g, 0, none⟩), .int .i64 a, .int .i64 b, .int .u32 ep, v, .map (some m), .int .i64 (used : Int), .int .u32 (seq : Int)] :: RowV KP 24 v pages :: SetM m named :: F)) : Sep w0 W (StB gs g m a b ep pages named used seq :: F) := Sep.unex v (Sep.unstar (L := [_, _, _]) h)
set_option maxHeartbeats 800000 in
theorem all_ (h : Sep w0 W (StB gs g m a b ep pages named used seq :: F)) (hn : pages.length ≤ 100000) (hp : ∀ p ∈ pages, p.length ≤ 1000000) : Calls Tryz.prog 25 #[.pointer (some ⟨gs, 0, none⟩)] W fun e w' => ∃ v, e = .returned v ∧ Sep w0 w' (RowV KP 24 v pages :: StB gs g m a b ep pages named used seq :: F) := by
  obtain ⟨A, c, hs⟩ := stb_open h
  have A0 := Aside0.mk hs
  have H0 := Aside0.mk h
  have HN := Aside0.mk (And.intro hn hp)
  have z4 := (hs.cell 4).trans rfl
  obtain ⟨n, hn_⟩ : ∃ n, pages.length = n := ⟨_, rfl⟩
  rw [hn_] at A0 z4 HN
  clear h hs hn hp hn_
  go_enter Tryz.func25, Tryz.ntmps25
  go_wp2_with fail
  refine (apply_ (ps := pages) (l := []) (Sep.rowVC rfl A0.out.at2).2.2 (Kd.C_nil _ _) HN.out.1 HN.out.2 (fun x hx => (by cases hx))).mono ?_
  rintro e w1 ⟨v1, rfl, hS1⟩
  have B1 := Aside0.mk (H0.out.lift1 hS1)
  clear hS1
  go_wp2_with fail
  go_ret
  exact ⟨_, by first | rfl | (simp; done), B1.out⟩
end
end Go.Proofs.YtjngnigelkgekaaGreat.Store
namespace Go.Proofs.YtjngnigelkgekaaGreat.Str
open Go.RowKit Go.Proofs.YtjngnigelkgekaaGreatW.PrintWords Go.Proofs.YtjngnigelkgekaaGreatW.PrintLast Go.Proofs.YtjngnigelkgekaaGreatW.PrintMore Go.Proofs.YtjngnigelkgekaaGreat.Kit Go.Proofs.YtjngnigelkgekaaGreat.Plain
abbrev U8 : Kd Int := Kd.int .u8
theorem strC {W : World} {A : Option Addr} {n c : Nat} {xs : List Int} (h : U8.C W A n xs) : (convert 24 9 (.slice A n c)).run Tryz.prog W = .ok (.string (strOfNums xs)) W := by
  obtain rfl : xs.length = n := h.1
  exact Kd.C_string (P := Tryz.prog) (c := c) Tryz.underlying24 Tryz.underlying5 Tryz.underlying9 h
theorem beq_str (a b : ByteArray) : (a.toList == b.toList) = decide (a = b) := by
  rw [ByteArray.toList_eq, ByteArray.toList_eq]
  by_cases h : a = b
  · subst h; simp
  · rw [decide_eq_false h]
    exact beq_eq_false_iff_ne.2 (fun h2 => h (ByteArray.ext (by rw [← Array.toList_inj]; exact h2)))
theorem str_inj {xs ys : List Int} (hx : Bytes xs) (hy : Bytes ys) (h : strOfNums xs = strOfNums ys) : xs = ys := by
  have h2 : (strOfNums xs).data.toList = (strOfNums ys).data.toList := by rw [h]
  rw [strOfNums_data, strOfNums_data] at h2
  have hl : xs.length = ys.length := by simpa using congrArg List.length h2
  apply List.ext_getElem hl
  intro i h3 h4
  have h5 : (xs.map fun n => UInt8.ofNat n.toNat)[i]? = (ys.map fun n => UInt8.ofNat n.toNat)[i]? := by rw [h2]
  rw [List.getElem?_map, List.getElem?_map, List.getElem?_eq_getElem h3, List.getElem?_eq_getElem h4, Option.map_some, Option.map_some, Option.some.injEq] at h5
  have a1 := hx xs[i] (List.getElem_mem h3)
  have a2 := hy ys[i] (List.getElem_mem h4)
  have h6 := congrArg UInt8.toNat h5
  rw [UInt8.toNat_ofNat', UInt8.toNat_ofNat'] at h6
  omega
theorem beq_bytes {xs ys : List Int} (hx : Bytes xs) (hy : Bytes ys) : ((strOfNums xs).toList == (strOfNums ys).toList) = decide (xs = ys) := by
  rw [beq_str]
  by_cases h : xs = ys
  · subst h; simp
  · rw [decide_eq_false h, decide_eq_false (fun e => h (str_inj hx hy e))]
end Go.Proofs.YtjngnigelkgekaaGreat.Str
namespace Go.Proofs.YtjngnigelkgekaaGreat.Root
open Go.RowKit Go.Proofs.YtjngnigelkgekaaGreatW.PrintWords Go.Proofs.YtjngnigelkgekaaGreatW.PrintLast Go.Proofs.YtjngnigelkgekaaGreatW.PrintMore Go.Proofs.YtjngnigelkgekaaGreat.Kit Go.Proofs.YtjngnigelkgekaaGreat.Base Go.Proofs.YtjngnigelkgekaaGreat.Plain Go.Proofs.YtjngnigelkgekaaGreat.Sum
set_option maxHeartbeats 800000 in
set_option maxRecDepth 100000 in
theorem unroot_ {A : Option Addr} {n c : Nat} {l : List Int} {w : World} (hr : U8.C w A n l) (hc : n ≤ c) (hb : Bytes l) :
    Calls Tryz.prog 110 #[.slice A n c] w fun e w' => e = .returned (readV l) ∧ Below w.heap.size w w' := by
  have hl : l.length = n := hr.1
  by_cases h64 : n = 64
  case neg =>
    have hv : Aside0 (unrootF l = none) := ⟨if_neg (fun h => h64 (hl.symm.trans h.1))⟩
    have h1 : ¬ (n : Int) = 64 := by omega
    have h2 : ((n : Int) != 64) = true := by simpa using h1
    clear hr hb hl
    go_enter Tryz.func110, Tryz.ntmps110
    go_wp2_with fail
    go_retc (.tuple #[.agg #[.int .i64 0, .int .i64 0, .int .u32 0], .bool false])
    exact ⟨by unfold readV; rw [hv.out]; rfl, below_alloc (Below.refl _ _) _⟩
  case pos =>
    subst h64
    have HR := Aside0.mk hr
    have HC := Aside0.mk hc
    have HB := Aside0.mk hb
    have HL := Aside0.mk hl
    have HI := Aside0.mk (And.intro (getF_rng hb 4) (And.intro (getF_rng hb 8) (getF_rng hb 12)))
    have hcut := cutHi (z := .int .u8 0) (bytes := 1) Tryz.underlying24 infoB A 64 c 4 (K := 4) rfl (by decide) hc
    have hs4 : (convert 24 9 (.slice A 4 c)).run Tryz.prog (w.alloc (.cells #[.int .i64 0, .int .i64 0, .int .u32 0] 80)) = .ok (.string (strOfNums (l.take 4))) (w.alloc (.cells #[.int .i64 0, .int .i64 0, .int .u32 0] 80)) :=
      Str.strC (Kd.C_alloc (C_hi (b := 4) hr (by decide) hc) _)
    have hq := Str.beq_bytes (hb.take 4) markL_bytes
    rw [show (strOfNums markL).toList = [69, 78, 71, 49] by rw [ByteArray.toList_eq]; rfl] at hq
    have hM : Aside0 (IsRoot l → l.take 4 = markL) := ⟨fun h => by rw [h.2.2.2]; rfl⟩
    have hU0 : Aside0 (¬ IsRoot l → unrootF l = none) := ⟨fun h => if_neg h⟩
    clear hr hb hl hc
    by_cases h4 : l.take 4 = markL
    case neg =>
      have HN : Aside0 (unrootF l = none) := ⟨hU0.out (fun h => h4 (hM.out h))⟩
      rw [decide_eq_false h4] at hq
      generalize strOfNums (l.take 4) = s4 at *
      clear h4
      go_enter Tryz.func110, Tryz.ntmps110
      go_wp2_with fail
      go_retc (.tuple #[.agg #[.int .i64 0, .int .i64 0, .int .u32 0], .bool false])
      exact ⟨by unfold readV; rw [HN.out]; rfl, below_alloc (Below.refl _ _) _⟩
    case pos =>
    rw [decide_eq_true h4] at hq
    generalize strOfNums (l.take 4) = s4 at *
    clear h4
    go_enter Tryz.func110, Tryz.ntmps110
    go_wp2_with fail
    have A0 := Aside0.mk ((Sep.start w).newBlk 80 #[.int .i64 0, .int .i64 0, .int .u32 0])
    refine (rget_ (l := l) (a := 4) (Kd.C_below HR.out A0.out.toBelow) HB.out).mono ?_
    rintro e w1 ⟨rfl, hb1⟩
    have A1 := Aside0.mk (A0.out.below hb1)
    have hx1 : IntKind.i64.wrap (getF l 4) = getF l 4 := by have := HI.out.1; rw [IntKind.wrap_i64]; omega
    have hx2 : IntKind.i64.wrap (getF l 8) = getF l 8 := by have := HI.out.2.1; rw [IntKind.wrap_i64]; omega
    clear hb1 hcut hs4 hq
    go_wp2_with fail
    refine (rget_ (l := l) (a := 8) (Kd.C_below HR.out A1.out.toBelow) HB.out).mono ?_
    rintro e w2 ⟨rfl, hb2⟩
    have A2 := Aside0.mk (A1.out.below hb2)
    clear hb2
    go_wp2_with fail
    refine (rget_ (l := l) (a := 12) (Kd.C_below HR.out A2.out.toBelow) HB.out).mono ?_
    rintro e w3 ⟨rfl, hb3⟩
    have A3 := Aside0.mk (A2.out.below hb3)
    clear hb3
    have hU : Aside0 (∀ h : IsRoot l, unrootF l = some (getF l 4, getF l 8, getF l 12)) := ⟨fun h => if_pos h⟩
    have hIR : Aside0 (IsRoot l ↔ getF l 4 ≤ 2147483647 ∧ getF l 8 ≤ 2147483647 ∧ l = rootF (getF l 4) (getF l 8) (getF l 12)) := ⟨⟨fun h => h.2, fun h => ⟨HL.out, h⟩⟩⟩
    generalize getF l 4 = x at *
    generalize getF l 8 = y at *
    generalize getF l 12 = z at *
    have A4 := Aside0.mk (A3.out.newBlk 80 #[.int .i64 x, .int .i64 y, .int .u32 z])
    have u0 : ∀ q, ((w3.alloc (.cells #[.int .i64 x, .int .i64 y, .int .u32 z] 80)).drewN q).cell? ⟨w3.heap.size, 0, none⟩ = some (.int .i64 x) := fun q => ((A4.out.drewN q).cell 0).trans rfl
    have u1 : ∀ q, ((w3.alloc (.cells #[.int .i64 x, .int .i64 y, .int .u32 z] 80)).drewN q).cell? ⟨w3.heap.size, 1, none⟩ = some (.int .i64 y) := fun q => ((A4.out.drewN q).cell 1).trans rfl
    by_cases hx : 2147483647 < x
    case pos =>
      have HN : Aside0 (unrootF l = none) := ⟨hU0.out (fun h => by have := (hIR.out.1 h).1; omega)⟩
      have hd : decide (2147483647 < x) = true := decide_eq_true hx
      go_wp2_with fail
      go_quiet (fail)
      have A5 := A4.out.drewN nq
      obtain ⟨w5, hw5⟩ : ∃ w5, (w3.alloc (.cells #[.int .i64 x, .int .i64 y, .int .u32 z] 80)).drewN nq = w5 := ⟨_, rfl⟩
      rw [hw5] at A5 ⊢
      clear hw5 u0 u1
      have A6 := A5.at2
      obtain ⟨c0, f0, c1, f1, c2, f2, hS4⟩ := store3 (.int .i64 0) (.int .i64 0) (.int .u32 0) A6
      obtain ⟨w4, hw4⟩ : ∃ w4, (((w5.setCell ⟨w.heap.size, 0, none⟩ (.int .i64 0)).setCell ⟨w.heap.size, 1, none⟩ (.int .i64 0)).setCell ⟨w.heap.size, 2, none⟩ (.int .u32 0)) = w4 := ⟨_, rfl⟩
      rw [hw4] at hS4
      have r0 := (hS4.cell 0).trans rfl
      have r1 := (hS4.cell 1).trans rfl
      have r2 := (hS4.cell 2).trans rfl
      have B4 := Aside0.mk hS4
      clear hS4 A5 A6
      go_wp2_with fail
      go_retc (.tuple #[.agg #[.int .i64 0, .int .i64 0, .int .u32 0], .bool false])
      exact ⟨by unfold readV; rw [HN.out]; rfl, B4.out.toBelow⟩
    case neg =>
    have hd : decide (2147483647 < x) = false := decide_eq_false hx
    by_cases hy : 2147483647 < y
    case pos =>
      have HN : Aside0 (unrootF l = none) := ⟨hU0.out (fun h => by have := (hIR.out.1 h).2.1; omega)⟩
      have hd2 : decide (2147483647 < y) = true := decide_eq_true hy
      go_wp2_with fail
      go_quiet (fail)
      have A5 := A4.out.drewN nq
      obtain ⟨w5, hw5⟩ : ∃ w5, (w3.alloc (.cells #[.int .i64 x, .int .i64 y, .int .u32 z] 80)).drewN nq = w5 := ⟨_, rfl⟩
      rw [hw5] at A5 ⊢
      clear hw5 u0 u1
      have A6 := A5.at2
      obtain ⟨c0, f0, c1, f1, c2, f2, hS4⟩ := store3 (.int .i64 0) (.int .i64 0) (.int .u32 0) A6
      obtain ⟨w4, hw4⟩ : ∃ w4, (((w5.setCell ⟨w.heap.size, 0, none⟩ (.int .i64 0)).setCell ⟨w.heap.size, 1, none⟩ (.int .i64 0)).setCell ⟨w.heap.size, 2, none⟩ (.int .u32 0)) = w4 := ⟨_, rfl⟩
      rw [hw4] at hS4
      have r0 := (hS4.cell 0).trans rfl
      have r1 := (hS4.cell 1).trans rfl
      have r2 := (hS4.cell 2).trans rfl
      have B4 := Aside0.mk hS4
      clear hS4 A5 A6
      go_wp2_with fail
      go_retc (.tuple #[.agg #[.int .i64 0, .int .i64 0, .int .u32 0], .bool false])
      exact ⟨by unfold readV; rw [HN.out]; rfl, B4.out.toBelow⟩
    case neg =>
    have hd2 : decide (2147483647 < y) = false := decide_eq_false hy
    have hm1 := m32_id HI.out.1.1 HI.out.1.2
    have hm2 := m32_id HI.out.2.1.1 HI.out.2.1.2
    have HM := Aside0.mk (And.intro hm1 hm2)
    have hqq := Str.beq_bytes (rootF_bytes x y z) HB.out
    have HQ := Aside0.mk hqq
    have A4d := Aside0.mk A4.out.drew
    clear hm1 hm2 hqq u0 u1
    go_wp2_with fail
    refine start_ (n := 16) (S := fun w' => w'.cell? ⟨w3.heap.size, 0, none⟩ = some (.int .i64 x) ∧ w'.cell? ⟨w3.heap.size, 1, none⟩ = some (.int .i64 y) ∧ w'.cell? ⟨w3.heap.size, 2, none⟩ = some (.int .u32 z) ∧ (convert 24 9 (.slice A 64 c)).run Tryz.prog w' = .ok (.string (strOfNums l)) w') (ds := []) #[Z,Z,Z,Z,Z,Z,Z,Z,Z,Z,Z,Z,Z,Z,Z,Z] (by kernel_rfl) rfl rfl ⟨(A4d.out.cell 0).trans rfl, (A4d.out.cell 1).trans rfl, (A4d.out.cell 2).trans rfl, Str.strC (Kd.C_below HR.out A4d.out.toBelow)⟩ (fun hHeld => ?_)
    refine pu_ 0 24 ?_ #[J,Z,Z,Z,Z,Z,Z,Z,Z,Z,Z,Z,Z,Z,Z,Z] rfl rfl ?_ ?_ ?_ ?_
    rotate_left
    · intro w'
      go_simp
      with_reducible rfl
    rotate_left
    · simp only [aP]
      rfl
    refine ta_ 1 25 ?_ #[J,J,Z,Z,Z,Z,Z,Z,Z,Z,Z,Z,Z,Z,Z,Z] rfl rfl ?_ hHeld ?_ ?_ ?_
    rotate_left
    · rintro w' ⟨s0, s1, s2, s3⟩
      go_simp
      with_reducible rfl
    rotate_left
    · simp only [aP]
      rfl
    refine pu_ 2 26 ?_ #[J,J,J,Z,Z,Z,Z,Z,Z,Z,Z,Z,Z,Z,Z,Z] rfl rfl ?_ ?_ ?_ ?_
    rotate_left
    · intro w'
      go_simp
      with_reducible rfl
    rotate_left
    · simp only [aP]
      rfl
    refine pu_ 3 27 ?_ #[J,J,J,J,Z,Z,Z,Z,Z,Z,Z,Z,Z,Z,Z,Z] rfl rfl ?_ ?_ ?_ ?_
    rotate_left
    · intro w'
      go_simp
      with_reducible rfl
    rotate_left
    · simp only [aP]
      rfl
    refine pu_ 4 28 ?_ #[J,J,J,J,J,Z,Z,Z,Z,Z,Z,Z,Z,Z,Z,Z] rfl rfl ?_ ?_ ?_ ?_
    rotate_left
    · intro w'
      go_simp
      with_reducible rfl
    rotate_left
    · simp only [aP]
      rfl
    refine ta_ 5 29 ?_ #[J,J,J,J,J,J,Z,Z,Z,Z,Z,Z,Z,Z,Z,Z] rfl rfl ?_ hHeld ?_ ?_ ?_
    rotate_left
    · rintro w' ⟨s0, s1, s2, s3⟩
      go_simp
      with_reducible rfl
    rotate_left
    · simp only [aP]
      rfl
    refine pu_ 6 30 ?_ #[J,J,J,J,J,J,J,Z,Z,Z,Z,Z,Z,Z,Z,Z] rfl rfl ?_ ?_ ?_ ?_
    rotate_left
    · intro w'
      go_simp
      with_reducible rfl
    rotate_left
    · simp only [aP]
      rfl
    refine pu_ 7 31 ?_ #[J,J,J,J,J,J,J,J,Z,Z,Z,Z,Z,Z,Z,Z] rfl rfl ?_ ?_ ?_ ?_
    rotate_left
    · intro w'
      go_simp
      with_reducible rfl
    rotate_left
    · simp only [aP]
      rfl
    refine pu_ 8 32 ?_ #[J,J,J,J,J,J,J,J,J,Z,Z,Z,Z,Z,Z,Z] rfl rfl ?_ ?_ ?_ ?_
    rotate_left
    · intro w'
      go_simp
      with_reducible rfl
    rotate_left
    · simp only [aP]
      rfl
    refine pu_ 12 36 ?_ #[J,J,J,J,J,J,J,J,J,Z,Z,Z,J,Z,Z,Z] rfl rfl ?_ ?_ ?_ ?_
    rotate_left
    · intro w'
      go_simp
      with_reducible rfl
    rotate_left
    · simp only [aP]
      rfl
    refine ta_ 9 33 ?_ #[J,J,J,J,J,J,J,J,J,J,Z,Z,J,Z,Z,Z] rfl rfl ?_ hHeld ?_ ?_ ?_
    rotate_left
    · rintro w' ⟨s0, s1, s2, s3⟩
      go_simp
      with_reducible rfl
    rotate_left
    · simp only [aP]
      rfl
    refine ta_ 13 37 ?_ #[J,J,J,J,J,J,J,J,J,J,Z,Z,J,J,Z,Z] rfl rfl ?_ hHeld ?_ ?_ ?_
    rotate_left
    · rintro w' ⟨s0, s1, s2, s3⟩
      go_simp
      with_reducible rfl
    rotate_left
    · simp only [aP]
      rfl
    refine one_ (i := 10) (N := some 34) #[J,J,J,J,J,J,J,J,J,J,J,Z,J,J,Z,Z] rfl rfl (by kernel_rfl) (by decide) (fun K hK => ?_)
    refine goes_ Tryz.func45 (by kernel_rfl) rfl #[.agg #[.int .i64 x, .int .i64 y, .int .u32 z]] (by rfl) rfl rfl (by simp only [List.map_toArray, List.map_cons, List.map_nil]; rfl) ?_
    with_reducible refine (rroot_ x y z HI.out.2.2 _).mono ?_
    rintro e w5 ⟨v5, rfl, hS5⟩
    refine ⟨_, rfl, ?_⟩
    rw [HM.out.1, HM.out.2] at hS5
    obtain ⟨A5, c5, rfl⟩ := hS5.rowN (n := 64) (rootF_len _ _ _)
    have B5 := Aside0.mk (A4d.out.lift1 hS5)
    have hs5 := Str.strC (c := c5) B5.out.rowC'
    clear hS5
    refine hK.out _ _ ⟨(B5.out.at2.cell 0).trans rfl, (B5.out.at2.cell 1).trans rfl, (B5.out.at2.cell 2).trans rfl, Str.strC (Kd.C_below HR.out B5.out.toBelow)⟩ (fun hHeld => ?_)
    clear hK K
    refine norm_ (a' := ?_) ?_ ?_
    rotate_left
    · show Act.put _ (some 34) _ = _
      simp only [aP]
      rfl
    refine one_ (i := 11) (N := some 35) #[J,J,J,J,J,J,J,J,J,J,J,J,J,J,Z,Z] rfl rfl (by kernel_rfl) (by decide) (fun K hK => ?_)
    refine value_ (w1 := ?_) (v := ?_) (by rfl) rfl ?_ ?_
    rotate_left 2
    · go_simp
      constructor
      · rfl
      · rfl
    refine hK.out _ _ ⟨(B5.out.at2.cell 0).trans rfl, (B5.out.at2.cell 1).trans rfl, (B5.out.at2.cell 2).trans rfl, Str.strC (Kd.C_below HR.out B5.out.toBelow)⟩ (fun hHeld => ?_)
    clear hK K
    refine norm_ (a' := ?_) ?_ ?_
    rotate_left
    · show Act.put _ (some 35) _ = _
      simp only [aP]
      rfl
    refine pu_ 14 38 ?_ #[J,J,J,J,J,J,J,J,J,J,J,J,J,J,J,Z] rfl rfl ?_ ?_ ?_ ?_
    rotate_left
    · intro w'
      go_simp
      with_reducible rfl
    rotate_left
    · simp only [aP]
      rfl
    refine pu_ 15 39 ?_ #[J,J,J,J,J,J,J,J,J,J,J,J,J,J,J,J] rfl rfl ?_ ?_ ?_ ?_
    rotate_left
    · intro w'
      go_simp
      with_reducible rfl
    rotate_left
    · simp only [aP]
      rfl
    refine done_ (by kernel_rfl) ?_
    have hqq := HQ.out
    by_cases he : rootF x y z = l
    case pos =>
      have HN : Aside0 (unrootF l = some (x, y, z)) := ⟨hU.out (hIR.out.2 ⟨by omega, by omega, he.symm⟩)⟩
      rw [decide_eq_true he] at hqq
      rw [hqq, Bool.not_true]
      clear he
      generalize strOfNums (rootF x y z) = sa at *
      generalize strOfNums l = sb at *
      obtain ⟨c0, f0, c1, f1, c2, f2, hS4⟩ := store3 (.int .i64 x) (.int .i64 y) (.int .u32 z) B5.out.at3
      obtain ⟨w4, hw4⟩ : ∃ w4, (((w5.setCell ⟨w.heap.size, 0, none⟩ (.int .i64 x)).setCell ⟨w.heap.size, 1, none⟩ (.int .i64 y)).setCell ⟨w.heap.size, 2, none⟩ (.int .u32 z)) = w4 := ⟨_, rfl⟩
      rw [hw4] at hS4
      have r0 := (hS4.cell 0).trans rfl
      have r1 := (hS4.cell 1).trans rfl
      have r2 := (hS4.cell 2).trans rfl
      have B4 := Aside0.mk hS4
      have l0 : w5.cell? ⟨w3.heap.size, 0, none⟩ = some (.int .i64 x) := (B5.out.at2.cell 0).trans rfl
      have l1 : w5.cell? ⟨w3.heap.size, 1, none⟩ = some (.int .i64 y) := (B5.out.at2.cell 1).trans rfl
      have l2 : w5.cell? ⟨w3.heap.size, 2, none⟩ = some (.int .u32 z) := (B5.out.at2.cell 2).trans rfl
      clear hS4
      go_wp2_with fail
      go_retc (.tuple #[.agg #[.int .i64 x, .int .i64 y, .int .u32 z], .bool true])
      exact ⟨by unfold readV; rw [HN.out]; rfl, B4.out.toBelow⟩
    case neg =>
      have HN : Aside0 (unrootF l = none) := ⟨hU0.out (fun h => he (hIR.out.1 h).2.2.symm)⟩
      rw [decide_eq_false he] at hqq
      rw [hqq, Bool.not_false]
      clear he
      generalize strOfNums (rootF x y z) = sa at *
      generalize strOfNums l = sb at *
      obtain ⟨c0, f0, c1, f1, c2, f2, hS4⟩ := store3 (.int .i64 0) (.int .i64 0) (.int .u32 0) B5.out.at3
      obtain ⟨w4, hw4⟩ : ∃ w4, (((w5.setCell ⟨w.heap.size, 0, none⟩ (.int .i64 0)).setCell ⟨w.heap.size, 1, none⟩ (.int .i64 0)).setCell ⟨w.heap.size, 2, none⟩ (.int .u32 0)) = w4 := ⟨_, rfl⟩
      rw [hw4] at hS4
      have r0 := (hS4.cell 0).trans rfl
      have r1 := (hS4.cell 1).trans rfl
      have r2 := (hS4.cell 2).trans rfl
      have B4 := Aside0.mk hS4
      clear hS4
      go_wp2_with fail
      go_retc (.tuple #[.agg #[.int .i64 0, .int .i64 0, .int .u32 0], .bool false])
      exact ⟨by unfold readV; rw [HN.out]; rfl, B4.out.toBelow⟩
end Go.Proofs.YtjngnigelkgekaaGreat.Root
namespace Go.Proofs.YtjngnigelkgekaaGreat.Disk
end Go.Proofs.YtjngnigelkgekaaGreat.Disk
