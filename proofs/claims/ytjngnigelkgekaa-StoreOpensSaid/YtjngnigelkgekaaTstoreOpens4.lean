/- CutsAny, Sum1, Root1, Root2, Root3, Root4, StRes, Str, Root5, Disk7, Crash, Disk8: what StoreOpens needs. -/
import Derived.Test.YtjngnigelkgekaaTstoreOpens3
import Derived.Test.YtjngnigelkgekaaProg
import Derived.WalkKit
import Derived.KernelRfl
import Derived.WalkSpells
import Derived.Deep.QuietTactic
import Derived.Lib.SlBytesConst
import Derived.Deep.LoopGhost
import Derived.Laws.ResultCell
namespace Go.Proofs.Ytjngnigelkgekaa.Kit
set_option linter.unusedVariables false
set_option linter.unusedSimpArgs false
open Go.RowKit Go.Proofs.YtjngnigelkgekaaW.PrintWords Go.Proofs.YtjngnigelkgekaaW.PrintLast Go.Proofs.YtjngnigelkgekaaW.PrintMore
section
variable {P : Program} {T E : TypeId} {sz bytes : Nat} {z : Value}
theorem elem_of (ht : P.underlying T = some (.slice E)) : P.elem T = E := by simp [Program.elem, ht]
theorem cutHi (ht : P.underlying T = some (.slice E)) (hinfo : (P.info? E).map (fun i => (i.zero, i.size, i.bytes)) = some (some z, sz, bytes)) (A : Option Addr) (n c b : Nat) {K : Int} (hK : K = (b : Int)) (h1 : b ≤ n) (h2 : n ≤ c) (W : World) :
    (Instr.slice T (.slice A n c) none (some (.int .i64 K)) none).run P W = .ok (.slice A b c) W := by
  subst hK
  obtain ⟨t, hi, hz⟩ := Option.map_eq_some_iff.1 hinfo
  simp only [Prod.mk.injEq] at hz
  rw [run_slice_h W T A n c (by rw [elem_of ht]; exact ht) .i64 (b : Int) (by omega) (by omega), elem_of ht]
  have e : (A.map fun x => x.add 0) = A := by
    cases A with
    | none => rfl
    | some a => simp [Addr.add]
  simp [sizeOf, typeInfo, hi, hz.2.1, sliced, Result.andThen, e]
theorem cutLo (ht : P.underlying T = some (.slice E)) (hinfo : (P.info? E).map (fun i => (i.zero, i.size, i.bytes)) = some (some z, sz, bytes)) (A : Option Addr) (n c a : Nat) {J : Int} (hJ : J = (a : Int)) (h1 : a ≤ n) (h2 : n ≤ c) (W : World) :
    (Instr.slice T (.slice A n c) (some (.int .i64 J)) none none).run P W = .ok (.slice (if c = a then A else A.map (·.add (a * sz))) (n - a) (c - a)) W := by
  subst hJ
  obtain ⟨t, hi, hz⟩ := Option.map_eq_some_iff.1 hinfo
  simp only [Prod.mk.injEq] at hz
  rw [run_slice_l W T A n c (by rw [elem_of ht]; exact ht) .i64 (a : Int) (by omega) (by omega), elem_of ht]
  simp [sizeOf, typeInfo, hi, hz.2.1, sliced, Result.andThen]
end
theorem C_lo {α : Type} {d : Kd α} {W : World} {A : Option Addr} {n c a : Nat} {l : List α} (h : d.C W A n l) (ha : a ≤ n) (hc : n ≤ c) : d.C W (if c = a then A else A.map (·.add (a * d.sz))) (n - a) (l.drop a) := by
  obtain rfl : l.length = n := h.1
  have := Kd.C_drop (m := a) (c := c) h ha hc
  rwa [List.length_drop] at this
namespace Sep
section
variable {w0 W W' : World} {F : List HP} {P : Program} {ops : Array Oper} {rest : List Oper} {o : Oper} {a : Act} {Q : Exit → Act → World → Prop} {sz : Nat}
theorem rowC' {α : Type} {d : Kd α} {e n c : Nat} {A : Option Addr} {xs : List α} (h : Sep w0 W (Row d e (.slice A n c) xs :: F)) : d.C W A n xs := by
  have h1 := h.rowC
  have := h1.2.2
  rwa [← h1.1] at this
end
end Sep
end Go.Proofs.Ytjngnigelkgekaa.Kit
namespace Go.Proofs.Ytjngnigelkgekaa.Sum
set_option linter.unusedVariables false
set_option linter.unusedSimpArgs false
open Go.RowKit Go.Proofs.YtjngnigelkgekaaW.PrintWords Go.Proofs.YtjngnigelkgekaaW.PrintLast Go.Proofs.YtjngnigelkgekaaW.PrintMore Go.Proofs.Ytjngnigelkgekaa.Kit Go.Proofs.Ytjngnigelkgekaa.Plain
theorem step_ (h x : Int) (w : World) : Calls Try.prog 126 #[.int .u32 h, .int .u8 x] w fun e w' => e = .returned (.int .u32 (stepF h x)) ∧ w = w' := by
  go_enter Try.func126, Try.ntmps126
  go_wp2
  go_ret
  exact ⟨by unfold stepF; simp [u32_mod], rfl⟩
set_option maxHeartbeats 400000 in
theorem of_ {A : Option Addr} {n c : Nat} {l : List Int} {w : World} (hr : B8.C w A n l) : Calls Try.prog 90 #[.slice A n c] w fun e w' => e = .returned (.int .u32 (sumF l)) ∧ w = w' := by
  obtain rfl : l.length = n := hr.1
  have hm : l.length ≤ 9223372036854775807 := hr.2.1
  have HR := Aside0.mk hr
  clear hr
  go_enter Try.func90, Try.ntmps90
  go_wp2_with fail
  go_loopg [3, 8] l.length (fun k s p wr => ∃ j : Nat, p = .int .i64 (j : Int) ∧ j + k = l.length ∧ s = .int .u32 (sumF (l.take j)) ∧ w = wr)
  case atStart => exact ⟨0, rfl, by omega, rfl, rfl⟩
  case round =>
    obtain ⟨j, rfl, hjk, rfl, rfl⟩ := hrel
    have AK := Aside0.mk hjk
    by_cases hj : j < l.length
    · obtain ⟨ad, hA, hc⟩ := Kd.at_int HR.out (j : Int) (by omega) (by omega)
      subst hA
      rw [Int.toNat_natCast] at hc
      have AT := Aside0.mk (take_snoc hj)
      generalize rd l (j : Int) = x at *
      clear hjk
      go_wp2_with fail
      refine (step_ _ x _).mono ?_
      rintro e w' ⟨rfl, rfl⟩
      go_wp2_with fail
      go_roundg (gk - 1)
      case measure => have := AK.out; omega
      case rel => exact ⟨j + 1, by go_num, by have := AK.out; omega, by rw [AT.out, sumF_snoc], rfl⟩
    · have hjn : j = l.length := by omega
      subst hjn
      rw [List.take_length] 
      clear hjk AK
      go_wp2_with fail
      go_ret
      exact ⟨by first | rfl | (simp; done), rfl⟩
end Go.Proofs.Ytjngnigelkgekaa.Sum
namespace Go.Proofs.Ytjngnigelkgekaa.Root
set_option linter.unusedVariables false
set_option linter.unusedSimpArgs false
open Go.RowKit Go.Proofs.YtjngnigelkgekaaW.PrintWords Go.Proofs.YtjngnigelkgekaaW.PrintLast Go.Proofs.YtjngnigelkgekaaW.PrintMore Go.Proofs.Ytjngnigelkgekaa.Kit Go.Proofs.Ytjngnigelkgekaa.Base Go.Proofs.Ytjngnigelkgekaa.Plain Go.Proofs.Ytjngnigelkgekaa.Sum
set_option maxHeartbeats 800000 in
theorem right_ (a b c n : Int) (W : World) : Calls Try.prog 68 #[.agg #[.int .i64 a, .int .i64 b, .int .u32 c], .int .i64 n] W fun e w' => e = .returned (.bool (rightR a b c n)) ∧ Below W.heap.size W w' := by
  by_cases h0 : 1 ≤ a
  case neg =>
    have HR : Aside0 (rightR a b c n = false) := ⟨by unfold rightR; exact decide_eq_false (by omega)⟩
    go_enter Try.func68, Try.ntmps68
    go_wp2_with fail
    go_ret
    exact ⟨by rw [HR.out]; first | rfl | (simp; done), by repeat (first | exact Below.refl _ _ | refine below_alloc ?_ _)⟩
  by_cases h1 : a ≤ 64
  case neg =>
    have HR : Aside0 (rightR a b c n = false) := ⟨by unfold rightR; exact decide_eq_false (by omega)⟩
    go_enter Try.func68, Try.ntmps68
    go_wp2_with fail
    go_ret
    exact ⟨by rw [HR.out]; first | rfl | (simp; done), by repeat (first | exact Below.refl _ _ | refine below_alloc ?_ _)⟩
  by_cases h2 : 1 ≤ b
  case neg =>
    have HR : Aside0 (rightR a b c n = false) := ⟨by unfold rightR; exact decide_eq_false (by omega)⟩
    go_enter Try.func68, Try.ntmps68
    go_wp2_with fail
    go_ret
    exact ⟨by rw [HR.out]; first | rfl | (simp; done), by repeat (first | exact Below.refl _ _ | refine below_alloc ?_ _)⟩
  by_cases h3 : b ≤ 64
  case neg =>
    have HR : Aside0 (rightR a b c n = false) := ⟨by unfold rightR; exact decide_eq_false (by omega)⟩
    go_enter Try.func68, Try.ntmps68
    go_wp2_with fail
    go_ret
    exact ⟨by rw [HR.out]; first | rfl | (simp; done), by repeat (first | exact Below.refl _ _ | refine below_alloc ?_ _)⟩
  have hw : wrap64 (2 + a) = 2 + a := IntWalk.wrap64_in _ (by omega)
  have hw2 : wrap64 (2 + a + b) = 2 + a + b := IntWalk.wrap64_in _ (by omega)
  by_cases h4 : 2 + a + b ≤ n
  case neg =>
    have HR : Aside0 (rightR a b c n = false) := ⟨by unfold rightR; exact decide_eq_false (by omega)⟩
    go_enter Try.func68, Try.ntmps68
    go_wp2_with fail
    go_ret
    exact ⟨by rw [HR.out]; first | rfl | (simp; done), by repeat (first | exact Below.refl _ _ | refine below_alloc ?_ _)⟩
  by_cases h5 : 1 ≤ c
  case neg =>
    have HR : Aside0 (rightR a b c n = false) := ⟨by unfold rightR; exact decide_eq_false (by omega)⟩
    go_enter Try.func68, Try.ntmps68
    go_wp2_with fail
    go_ret
    exact ⟨by rw [HR.out]; first | rfl | (simp; done), by repeat (first | exact Below.refl _ _ | refine below_alloc ?_ _)⟩
  have HR : Aside0 (rightR a b c n = true) := ⟨by unfold rightR; exact decide_eq_true (by omega)⟩
  go_enter Try.func68, Try.ntmps68
  go_wp2_with fail
  go_ret
  exact ⟨by rw [HR.out]; first | rfl | (simp; done), by repeat (first | exact Below.refl _ _ | refine below_alloc ?_ _)⟩
set_option maxHeartbeats 800000 in
theorem home_ (a b c page : Int) (W : World) : Calls Try.prog 67 #[.agg #[.int .i64 a, .int .i64 b, .int .u32 c], .int .i64 page] W fun e w' => e = .returned (.int .i64 (homeF a b page)) ∧ Below W.heap.size W w' := by
  by_cases h1 : page < 0
  case pos =>
    have HR : Aside0 (homeF a b page = -1) := ⟨by unfold homeF; rw [if_pos (by omega)]⟩
    go_enter Try.func67, Try.ntmps67
    go_wp2_with fail
    go_ret
    exact ⟨by rw [HR.out]; first | rfl | (simp; done), by repeat (first | exact Below.refl _ _ | refine below_alloc ?_ _)⟩
  by_cases h2 : b ≤ page
  case pos =>
    have HR : Aside0 (homeF a b page = -1) := ⟨by unfold homeF; rw [if_pos (by omega)]⟩
    go_enter Try.func67, Try.ntmps67
    go_wp2_with fail
    go_ret
    exact ⟨by rw [HR.out]; first | rfl | (simp; done), by repeat (first | exact Below.refl _ _ | refine below_alloc ?_ _)⟩
  have HR : Aside0 (homeF a b page = wrap64 (wrap64 (2 + a) + page)) := ⟨by unfold homeF; rw [if_neg (by omega)]⟩
  go_enter Try.func67, Try.ntmps67
  go_wp2_with fail
  go_ret
  exact ⟨by rw [HR.out]; first | rfl | (simp; done), by repeat (first | exact Below.refl _ _ | refine below_alloc ?_ _)⟩
theorem lit_C (w : World) (k : IntKind) (C : Array Value) (t : TypeId) (fr : Nat × Nat) (xs : List Int) (hC : C = (xs.map (Value.int k)).toArray) (hn : xs.length ≤ 9223372036854775807) :
    Kd.C (Kd.int k) (w.alloc (.cells C t fr)) (some ⟨w.heap.size, 0, none⟩) xs.length xs := by
  subst hC
  refine Kd.C_of_reads (enc := Value.int k) (d := 0) (h1 := fun _ => rfl) ⟨rfl, hn, fun _ => ⟨_, rfl, fun j hj => ?_⟩⟩
  rw [add_plain, World.cell?_alloc_mark]
  simp [List.getD_eq_getElem?_getD, hj]
abbrev KU : Kd Int := Kd.int .u32
def m32 (x : Int) : Int := x % 4294967296
theorem m32_in (x : Int) : 0 ≤ m32 x ∧ m32 x ≤ 4294967295 := by unfold m32; omega
theorem m32_wrap (x : Int) : IntKind.u32.wrap x = m32 x := IntKind.wrap_u32 x
theorem m32_id {x : Int} (h0 : 0 ≤ x) (h1 : x ≤ 4294967295) : m32 x = x := by unfold m32; omega
set_option maxHeartbeats 800000 in
set_option maxRecDepth 100000 in
theorem bytes_ (a b c : Int) (hc : 0 ≤ c ∧ c ≤ 4294967295) (w : World) :
    Calls Try.prog 43 #[.agg #[.int .i64 a, .int .i64 b, .int .u32 c]] w fun e w' => ∃ v, e = .returned v ∧ Sep w w' [Row U8 5 v (rootF (m32 a) (m32 b) c)] := by
  have kc := fun (C : Array Value) (n cp : Nat) => Lib.run_convert_bytes_const (P := Try.prog) (w.alloc (.cells #[.int .i64 a, .int .i64 b, .int .u32 c] 26)) 30 5 C n cp Try.underlying30 Try.underlying5
  rw [show ∀ o : Obj, (w.alloc o).heap.size = w.heap.size + 1 from fun o => by simp] at kc
  have HI := Aside0.mk (And.intro (m32_in a) (And.intro (m32_in b) hc))
  have w1 := m32_wrap a
  have w2 := m32_wrap b
  clear hc
  generalize m32 a = x at *
  generalize m32 b = y at *
  go_enter Try.func43, Try.ntmps43
  go_wp2_with fail
  clear kc w1 w2
  go_loopg [3, 18] 3 (fun k v p wr => ∃ (j : Nat) (A : Option Addr) (n cp : Nat) (l : List Int), p = .int .i64 (j : Int) ∧ j + k = 3 ∧ v = .slice A n cp ∧ n ≤ 16 ∧ l = markL ++ (([x, y, c].take j).flatMap put4) ∧ U8.C wr A n l ∧ Sep w wr [Row KU 24 (.slice (some ⟨w.heap.size + 1 + 1, 0, none⟩) 3 3) [x, y, c]])
  case atStart =>
    have h1 := Kd.C_alloc (lit_C (w.alloc (.cells #[.int .i64 a, .int .i64 b, .int .u32 c] 26)) .u8 #[.int .u8 69, .int .u8 78, .int .u8 71, .int .u8 49] 5 (4, 5) markL rfl (by decide)) (.cells #[.int .u32 x, .int .u32 y, .int .u32 c] 24)
    rw [show ∀ o : Obj, (w.alloc o).heap.size = w.heap.size + 1 from fun o => by simp] at h1
    refine ⟨0, _, _, _, markL, rfl, rfl, rfl, by decide, by simp, h1, ?_⟩
    have h := (((Sep.start w).alloc (.cells #[.int .i64 a, .int .i64 b, .int .u32 c] 26)).alloc (.cells #[.int .u8 69, .int .u8 78, .int .u8 71, .int .u8 49] 5 (4, 5))).litRow (enc := Value.int .u32) (h1 := fun _ => rfl) (e := 24) [x, y, c] (by simp)
    rw [show ∀ o o2 : Obj, ((w.alloc o).alloc o2).heap.size = w.heap.size + 1 + 1 from fun o o2 => by simp] at h
    exact h
  case round =>
    obtain ⟨j, A, n, cp, l, rfl, hjk, rfl, hn, hl, hC, hS⟩ := hrel
    have AS := Aside0.mk hS
    have HC := Aside0.mk hC
    have HL := Aside0.mk hl
    have AK := Aside0.mk hjk
    by_cases hj : j < 3
    · rcases (by omega : j = 0 ∨ j = 1 ∨ j = 2) with rfl | rfl | rfl
      · have z0 := (hS.rowCell (enc := Value.int .u32) 0 0 (by decide)).1
        have hnj : n = 4 := by have := hC.1; rw [hl] at this; simpa [markL, put4] using this.symm
        subst hnj
        clear hS hC hl hjk
        go_wp2_with fail
        refine (put_ (m := x) HC.out HI.out.1 (by decide)).mono ?_
        rintro e w1 ⟨v1, rfl, hS1⟩
        obtain ⟨A1, c1, rfl⟩ := hS1.rowN (n := 8) (by rw [List.length_append, HC.out.1, put4_length])
        have B1 := Aside0.mk (AS.out.lift1 hS1)
        clear hS1
        go_wp2_with fail
        go_roundg (gk - 1)
        case measure => have := AK.out; omega
        case rel => exact ⟨1, A1, 8, c1, l ++ put4 x, by go_num, by have := AK.out; omega, rfl, by decide, by rw [HL.out]; simp, B1.out.rowC', B1.out.tail⟩
      · have z0 := (hS.rowCell (enc := Value.int .u32) 0 1 (by decide)).1
        have hnj : n = 8 := by have := hC.1; rw [hl] at this; simpa [markL, put4] using this.symm
        subst hnj
        clear hS hC hl hjk
        go_wp2_with fail
        refine (put_ (m := y) HC.out HI.out.2.1 (by decide)).mono ?_
        rintro e w1 ⟨v1, rfl, hS1⟩
        obtain ⟨A1, c1, rfl⟩ := hS1.rowN (n := 12) (by rw [List.length_append, HC.out.1, put4_length])
        have B1 := Aside0.mk (AS.out.lift1 hS1)
        clear hS1
        go_wp2_with fail
        go_roundg (gk - 1)
        case measure => have := AK.out; omega
        case rel => exact ⟨2, A1, 12, c1, l ++ put4 y, by go_num, by have := AK.out; omega, rfl, by decide, by rw [HL.out]; simp, B1.out.rowC', B1.out.tail⟩
      · have z0 := (hS.rowCell (enc := Value.int .u32) 0 2 (by decide)).1
        have hnj : n = 12 := by have := hC.1; rw [hl] at this; simpa [markL, put4] using this.symm
        subst hnj
        clear hS hC hl hjk
        go_wp2_with fail
        refine (put_ (m := c) HC.out HI.out.2.2 (by decide)).mono ?_
        rintro e w1 ⟨v1, rfl, hS1⟩
        obtain ⟨A1, c1, rfl⟩ := hS1.rowN (n := 16) (by rw [List.length_append, HC.out.1, put4_length])
        have B1 := Aside0.mk (AS.out.lift1 hS1)
        clear hS1
        go_wp2_with fail
        go_roundg (gk - 1)
        case measure => have := AK.out; omega
        case rel => exact ⟨3, A1, 16, c1, l ++ put4 c, by go_num, by have := AK.out; omega, rfl, by decide, by rw [HL.out]; simp, B1.out.rowC', B1.out.tail⟩
    · obtain rfl : j = 3 := by omega
      have hl2 : l = headR x y c := by rw [hl]; simp [headR]
      subst hl2
      have hn16 : n = 16 := hC.1.symm
      subst hn16
      clear hS hC hl HL hjk hj
      go_wp2_with fail
      refine (Sum.of_ HC.out).mono ?_
      rintro e w1 ⟨rfl, rfl⟩
      go_wp2_with fail
      refine (put_ (m := sumF (headR x y c)) HC.out (sumF_in _) (by decide)).mono ?_
      rintro e w2 ⟨v2, rfl, hS2⟩
      obtain ⟨A2, c2, rfl⟩ := hS2.rowN (n := 20) rfl
      have B2 := Aside0.mk (AS.out.lift1 hS2)
      clear hS2
      go_wp2_with (first | (refine gate_builtin (b := .append) (xs := #[.tmp 30, .tmp 33]) rfl ?_; go_loud (refine B2.out.zerosRow (0 : Int) rfl (.tmp 30) (.tmp 33) 30 3 1 rfl Try.underlying30 Try.underlying3 infoB rfl (by decide) 44 rfl rfl (by rw [List.length_append, headR_len, put4_length]; decide) ?_; intro v3 w3 hS3; have B3 : Aside0 (Sep w w3 [Row U8 5 v3 (rootF x y c)]) := ⟨Sep.weakR (L := [_]) hS3⟩; clear hS3)))
      go_ret
      exact ⟨_, by first | rfl | (simp; done), B3.out⟩
end Go.Proofs.Ytjngnigelkgekaa.Root
namespace Go.Proofs.Ytjngnigelkgekaa.Root
set_option linter.unusedVariables false
set_option linter.unusedSimpArgs false
open Go.RowKit Go.Proofs.YtjngnigelkgekaaW.PrintWords Go.Proofs.YtjngnigelkgekaaW.PrintLast Go.Proofs.YtjngnigelkgekaaW.PrintMore Go.Proofs.Ytjngnigelkgekaa.Kit Go.Proofs.Ytjngnigelkgekaa.Base Go.Proofs.Ytjngnigelkgekaa.Plain Go.Proofs.Ytjngnigelkgekaa.Sum
end Go.Proofs.Ytjngnigelkgekaa.Root
namespace Go.Proofs.Ytjngnigelkgekaa.Root
set_option linter.unusedVariables false
set_option linter.unusedSimpArgs false
open Go.RowKit Go.Proofs.YtjngnigelkgekaaW.PrintWords Go.Proofs.YtjngnigelkgekaaW.PrintLast Go.Proofs.YtjngnigelkgekaaW.PrintMore Go.Proofs.Ytjngnigelkgekaa.Kit Go.Proofs.Ytjngnigelkgekaa.Base Go.Proofs.Ytjngnigelkgekaa.Plain Go.Proofs.Ytjngnigelkgekaa.Sum
end Go.Proofs.Ytjngnigelkgekaa.Root
namespace Go.Proofs.Ytjngnigelkgekaa.Root
set_option linter.unusedVariables false
set_option linter.unusedSimpArgs false
open Go.RowKit Go.Proofs.YtjngnigelkgekaaW.PrintWords Go.Proofs.YtjngnigelkgekaaW.PrintLast Go.Proofs.YtjngnigelkgekaaW.PrintMore Go.Proofs.Ytjngnigelkgekaa.Kit Go.Proofs.Ytjngnigelkgekaa.Base Go.Proofs.Ytjngnigelkgekaa.Plain Go.Proofs.Ytjngnigelkgekaa.Sum
macro "go_retc " v:term : tactic => `(tactic| ((try simp only [Exit.inBlock, Exit.then]); refine bodyPost_ret (v := $v) (by rw [results_cell_tmp rfl]; go_simp) rfl ?_))
def rootV (r : R3) : Value := .agg #[.int .i64 r.1, .int .i64 r.2.1, .int .u32 r.2.2]
def readV (l : List Int) : Value := .tuple #[rootV ((unrootF l).getD (0, 0, 0)), .bool (unrootF l).isSome]
theorem getF_rng {b : List Int} (h : Bytes b) (a : Int) : 0 ≤ getF b a ∧ getF b a ≤ 4294967295 := by
  have r0 := h.at a; have r1 := h.at (a + 1); have r2 := h.at (a + 2); have r3 := h.at (a + 3)
  unfold getF
  split <;> omega
/-- Three cells of a block of one's own are written. -/
theorem store3 {w0 W : World} {F : List HP} {g : Nat} {T : TypeId} {v0 v1 v2 : Value} (u0 u1 u2 : Value) (h : Sep w0 W (Blk g T #[v0, v1, v2] :: F)) :
    W.cell? ⟨g, 0, none⟩ = some v0 ∧ W.frozen? ⟨g, 0, none⟩ = false ∧
    (W.setCell ⟨g, 0, none⟩ u0).cell? ⟨g, 1, none⟩ = some v1 ∧ (W.setCell ⟨g, 0, none⟩ u0).frozen? ⟨g, 1, none⟩ = false ∧
    ((W.setCell ⟨g, 0, none⟩ u0).setCell ⟨g, 1, none⟩ u1).cell? ⟨g, 2, none⟩ = some v2 ∧ ((W.setCell ⟨g, 0, none⟩ u0).setCell ⟨g, 1, none⟩ u1).frozen? ⟨g, 2, none⟩ = false ∧
    Sep w0 (((W.setCell ⟨g, 0, none⟩ u0).setCell ⟨g, 1, none⟩ u1).setCell ⟨g, 2, none⟩ u2) (Blk g T #[u0, u1, u2] :: F) := by
  have h1 := h.setBlk 0 u0
  have h2 := h1.setBlk 1 u1
  have h3 := h2.setBlk 2 u2
  exact ⟨(h.cell 0).trans rfl, h.frozen 0, (h1.cell 1).trans rfl, h1.frozen 1, (h2.cell 2).trans rfl, h2.frozen 2, h3⟩
set_option maxHeartbeats 800000 in
set_option maxRecDepth 100000 in
theorem read_ {A : Option Addr} {n c : Nat} {l : List Int} {w : World} (hr : U8.C w A n l) (hc : n ≤ c) (hb : Bytes l) :
    Calls Try.prog 44 #[.slice A n c] w fun e w' => e = .returned (readV l) ∧ Below w.heap.size w w' := by
  have hl : l.length = n := hr.1
  by_cases h64 : n = 64
  case neg =>
    have hv : Aside0 (unrootF l = none) := ⟨if_neg (fun h => h64 (hl.symm.trans h.1))⟩
    have h1 : ¬ (n : Int) = 64 := by omega
    clear hr hb hl
    go_enter Try.func44, Try.ntmps44
    go_wp2_with fail
    go_retc (.tuple #[.agg #[.int .i64 0, .int .i64 0, .int .u32 0], .bool false])
    exact ⟨by unfold readV; rw [hv.out]; rfl, below_alloc (Below.refl _ _) _⟩
  case pos =>
    subst h64
    have HR := Aside0.mk hr
    have HC := Aside0.mk hc
    have HB := Aside0.mk hb
    have HL := Aside0.mk hl
    have HI := Aside0.mk (And.intro (getF_rng hb 4) (And.intro (getF_rng hb 8) (getF_rng hb 12)))
    clear hr hb hl hc
    go_enter Try.func44, Try.ntmps44
    go_wp2_with fail
    refine (get_ (l := l) (a := 4) (Kd.C_alloc HR.out _) HC.out HB.out (by omega)).mono ?_
    rintro e w1 ⟨rfl, rfl⟩
    go_wp2_with fail
    refine (get_ (l := l) (a := 8) (Kd.C_alloc HR.out _) HC.out HB.out (by omega)).mono ?_
    rintro e w1 ⟨rfl, rfl⟩
    have hx1 : IntKind.i64.wrap (getF l 4) = getF l 4 := by have := HI.out.1; rw [IntKind.wrap_i64]; omega
    have hx2 : IntKind.i64.wrap (getF l 8) = getF l 8 := by have := HI.out.2.1; rw [IntKind.wrap_i64]; omega
    go_wp2_with fail
    refine (get_ (l := l) (a := 12) (Kd.C_alloc HR.out _) HC.out HB.out (by omega)).mono ?_
    rintro e w1 ⟨rfl, rfl⟩
    have hU : Aside0 (∀ h : IsRoot l, unrootF l = some (getF l 4, getF l 8, getF l 12)) := ⟨fun h => if_pos h⟩
    have hU0 : Aside0 (¬ IsRoot l → unrootF l = none) := ⟨fun h => if_neg h⟩
    have hIR : Aside0 (IsRoot l ↔ getF l 4 ≤ 2147483647 ∧ getF l 8 ≤ 2147483647 ∧ l = rootF (getF l 4) (getF l 8) (getF l 12)) := ⟨⟨fun h => h.2, fun h => ⟨HL.out, h⟩⟩⟩
    generalize getF l 4 = x at *
    generalize getF l 8 = y at *
    generalize getF l 12 = z at *
    have A0 := Aside0.mk (((Sep.start w).newBlk 26 #[.int .i64 0, .int .i64 0, .int .u32 0]).newBlk 26 #[.int .i64 x, .int .i64 y, .int .u32 z]).at2
    rw [show ∀ o : Obj, (w.alloc o).heap.size = w.heap.size + 1 from fun o => by simp] at A0
    by_cases hx : 2147483647 < x
    case pos =>
      have HN : Aside0 (unrootF l = none) := ⟨hU0.out (fun h => by have := (hIR.out.1 h).1; omega)⟩
      have hd : decide (2147483647 < x) = true := decide_eq_true hx
      go_wp2_with fail
      go_retc (.tuple #[.agg #[.int .i64 0, .int .i64 0, .int .u32 0], .bool false])
      exact ⟨by unfold readV; rw [HN.out]; rfl, A0.out.toBelow⟩
    case neg =>
    have hd : decide (2147483647 < x) = false := decide_eq_false hx
    by_cases hy : 2147483647 < y
    case pos =>
      have HN : Aside0 (unrootF l = none) := ⟨hU0.out (fun h => by have := (hIR.out.1 h).2.1; omega)⟩
      have hd2 : decide (2147483647 < y) = true := decide_eq_true hy
      go_wp2_with fail
      go_retc (.tuple #[.agg #[.int .i64 0, .int .i64 0, .int .u32 0], .bool false])
      exact ⟨by unfold readV; rw [HN.out]; rfl, A0.out.toBelow⟩
    case neg =>
    have hd2 : decide (2147483647 < y) = false := decide_eq_false hy
    go_wp2_with fail
    refine (bytes_ x y z HI.out.2.2 _).mono ?_
    rintro e w2 ⟨v2, rfl, hS2⟩
    rw [m32_id HI.out.1.1 HI.out.1.2, m32_id HI.out.2.1.1 HI.out.2.1.2] at hS2
    obtain ⟨A2, c2, rfl⟩ := hS2.rowN (n := 64) (rootF_len _ _ _)
    have B2 := Aside0.mk (A0.out.lift1 hS2)
    clear hS2
    go_wp2_with fail
    refine (equal_ (Kd.C_below HR.out B2.out.toBelow) B2.out.rowC').mono ?_
    rintro e w3 ⟨rfl, hb3⟩
    have B3 := (B2.out.below hb3).tail
    have z0 : w3.cell? ⟨w.heap.size + 1, 0, none⟩ = some (.int .i64 x) := (B3.at2.cell 0).trans rfl
    have z1 : w3.cell? ⟨w.heap.size + 1, 1, none⟩ = some (.int .i64 y) := (B3.at2.cell 1).trans rfl
    have z2 : w3.cell? ⟨w.heap.size + 1, 2, none⟩ = some (.int .u32 z) := (B3.at2.cell 2).trans rfl
    have B3' := Aside0.mk B3
    clear hb3 B3
    by_cases he : l = rootF x y z
    case pos =>
      have HN : Aside0 (unrootF l = some (x, y, z)) := ⟨hU.out (hIR.out.2 ⟨by omega, by omega, he⟩)⟩
      rw [decide_eq_true he]
      clear he
      obtain ⟨c0, f0, c1, f1, c2, f2, hS4⟩ := store3 (.int .i64 x) (.int .i64 y) (.int .u32 z) B3'.out
      obtain ⟨w4, hw4⟩ : ∃ w4, (((w3.setCell ⟨w.heap.size, 0, none⟩ (.int .i64 x)).setCell ⟨w.heap.size, 1, none⟩ (.int .i64 y)).setCell ⟨w.heap.size, 2, none⟩ (.int .u32 z)) = w4 := ⟨_, rfl⟩
      rw [hw4] at hS4
      have r0 := (hS4.cell 0).trans rfl
      have r1 := (hS4.cell 1).trans rfl
      have r2 := (hS4.cell 2).trans rfl
      have B4 := Aside0.mk hS4
      clear hS4
      go_wp2_with fail
      go_retc (.tuple #[.agg #[.int .i64 x, .int .i64 y, .int .u32 z], .bool true])
      exact ⟨by unfold readV; rw [HN.out]; rfl, B4.out.toBelow⟩
    case neg =>
      have HN : Aside0 (unrootF l = none) := ⟨hU0.out (fun h => he (hIR.out.1 h).2.2)⟩
      rw [decide_eq_false he]
      clear he
      obtain ⟨c0, f0, c1, f1, c2, f2, hS4⟩ := store3 (.int .i64 0) (.int .i64 0) (.int .u32 0) B3'.out
      obtain ⟨w4, hw4⟩ : ∃ w4, (((w3.setCell ⟨w.heap.size, 0, none⟩ (.int .i64 0)).setCell ⟨w.heap.size, 1, none⟩ (.int .i64 0)).setCell ⟨w.heap.size, 2, none⟩ (.int .u32 0)) = w4 := ⟨_, rfl⟩
      rw [hw4] at hS4
      have r0 := (hS4.cell 0).trans rfl
      have r1 := (hS4.cell 1).trans rfl
      have r2 := (hS4.cell 2).trans rfl
      have B4 := Aside0.mk hS4
      clear hS4
      go_wp2_with fail
      go_retc (.tuple #[.agg #[.int .i64 0, .int .i64 0, .int .u32 0], .bool false])
      exact ⟨by unfold readV; rw [HN.out]; rfl, B4.out.toBelow⟩
end Go.Proofs.Ytjngnigelkgekaa.Root
namespace Go.Proofs.Ytjngnigelkgekaa.Store
set_option linter.unusedVariables false
set_option linter.unusedSimpArgs false
open Go.RowKit Go.Proofs.YtjngnigelkgekaaW.PrintWords Go.Proofs.YtjngnigelkgekaaW.PrintLast Go.Proofs.YtjngnigelkgekaaW.PrintMore Go.Proofs.Ytjngnigelkgekaa.Kit Go.Proofs.Ytjngnigelkgekaa.Plain Go.Proofs.Ytjngnigelkgekaa.Disk Go.Proofs.Ytjngnigelkgekaa.Root
open Go.Proofs.Ytjngnigelkgekaa.Delta (Chg KC)
theorem results_cell1 {fn : Func} {p : Tmp} {ty : TypeId} (h : fn.results = #[.cell p ty]) (tmps : Array Value) (P : Program) (w : World) :
    (results fn tmps).run P w = ((asAddr (tmps.getD p undef)).run P w).andThen fun a w₁ => (loadVar ty a).run P w₁ := by
  simp only [results, h]
  simp [Sem.run_bind, Result.andThen]
theorem results_cell4 {fn : Func} {p u x y : Tmp} {ty : TypeId} (h : fn.results = #[.cell p ty, .tmp u, .tmp x, .tmp y]) (tmps : Array Value) (P : Program) (w : World) :
    (results fn tmps).run P w = ((asAddr (tmps.getD p undef)).run P w).andThen fun a w₁ => ((loadVar ty a).run P w₁).andThen fun v w₂ => .ok (.tuple #[v, tmps.getD u undef, tmps.getD x undef, tmps.getD y undef]) w₂ := by
  simp only [results, h]
  simp [Sem.run_bind, Result.andThen]
macro "go_retc1 " v:term : tactic => `(tactic| ((try simp only [Exit.inBlock, Exit.then]); refine bodyPost_ret (v := $v) (by rw [results_cell1 rfl]; go_simp) rfl ?_))
macro "go_retc4 " v:term : tactic => `(tactic| ((try simp only [Exit.inBlock, Exit.then]); refine bodyPost_ret (v := $v) (by rw [results_cell4 rfl]; go_simp) rfl ?_))
/-- A store: its block, its pages, which of them are named. -/
def StB (gs g m : Nat) (a b ep : Int) (pages : List (List Int)) (named : List Int) (used seq : Nat) : HP := Ex fun v : Value => Star [Blk gs 102 #[.pointer (some ⟨g, 0, none⟩), .int .i64 a, .int .i64 b, .int .u32 ep, v, .map (some m), .int .i64 (used : Int), .int .u32 (seq : Int)], RowV KP 30 v pages, SetM m named]
section
variable {w0 W : World} {F : List HP} {gs g m : Nat} {a b ep : Int} {pages : List (List Int)} {named : List Int} {used seq : Nat}
theorem stb_open (h : Sep w0 W (StB gs g m a b ep pages named used seq :: F)) : ∃ A c, Sep w0 W (Blk gs 102 #[.pointer (some ⟨g, 0, none⟩), .int .i64 a, .int .i64 b, .int .u32 ep, .slice A pages.length c, .map (some m), .int .i64 (used : Int), .int .u32 (seq : Int)] :: RowV KP 30 (.slice A pages.length c) pages :: SetM m named :: F) := by
  obtain ⟨v, h1⟩ := h.ex
  have h2 := h1.star
  obtain ⟨A, c, rfl⟩ := Sep.rowVN h2.at2 rfl
  exact ⟨A, c, h2⟩
theorem stb_shut {v : Value} (h : Sep w0 W (Blk gs 102 #[.pointer (some ⟨g, 0, none⟩), .int .i64 a, .int .i64 b, .int .u32 ep, v, .map (some m), .int .i64 (used : Int), .int .u32 (seq : Int)] :: RowV KP 30 v pages :: SetM m named :: F)) : Sep w0 W (StB gs g m a b ep pages named used seq :: F) := Sep.unex v (Sep.unstar (L := [_, _, _]) h)
set_option maxHeartbeats 800000 in
theorem used_ (h : Sep w0 W (StB gs g m a b ep pages named used seq :: F)) : Calls Try.prog 31 #[.pointer (some ⟨gs, 0, none⟩)] W fun e w' => e = .returned (.int .i64 (used : Int)) ∧ W = w' := by
  obtain ⟨A, c, hs⟩ := stb_open h
  have z6 := (hs.cell 6).trans rfl
  clear h hs
  go_enter Try.func31, Try.ntmps31
  go_wp2_with fail
  go_ret
  exact ⟨by first | rfl | (simp; done), rfl⟩
set_option maxHeartbeats 800000 in
theorem seq_ (h : Sep w0 W (StB gs g m a b ep pages named used seq :: F)) : Calls Try.prog 32 #[.pointer (some ⟨gs, 0, none⟩)] W fun e w' => e = .returned (.int .u32 (seq : Int)) ∧ W = w' := by
  obtain ⟨A, c, hs⟩ := stb_open h
  have z7 := (hs.cell 7).trans rfl
  clear h hs
  go_enter Try.func32, Try.ntmps32
  go_wp2_with fail
  go_ret
  exact ⟨by first | rfl | (simp; done), rfl⟩
set_option maxHeartbeats 800000 in
theorem root_ (h : Sep w0 W (StB gs g m a b ep pages named used seq :: F)) : Calls Try.prog 36 #[.pointer (some ⟨gs, 0, none⟩)] W fun e w' => e = .returned (.agg #[.int .i64 a, .int .i64 b, .int .u32 ep]) ∧ Below W.heap.size W w' := by
  obtain ⟨A, c, hs⟩ := stb_open h
  have A1 := Aside0.mk (hs.newBlk 26 #[.int .i64 a, .int .i64 b, .int .u32 ep])
  have z1 := (hs.cell 1).trans rfl
  have z2 := (hs.cell 2).trans rfl
  have z3 := (hs.cell 3).trans rfl
  have y1 := cell_later (below_alloc (Below.refl _ _) (.cells #[.int .i64 0, .int .i64 0, .int .u32 0] 26)) z1
  have y2 := cell_later (below_alloc (Below.refl _ _) (.cells #[.int .i64 0, .int .i64 0, .int .u32 0] 26)) z2
  have y3 := cell_later (below_alloc (Below.refl _ _) (.cells #[.int .i64 0, .int .i64 0, .int .u32 0] 26)) z3
  have q0 := (A1.out.cell 0).trans rfl
  have q1 := (A1.out.cell 1).trans rfl
  have q2 := (A1.out.cell 2).trans rfl
  clear h hs
  go_enter Try.func36, Try.ntmps36
  go_wp2_with fail
  go_retc1 (.agg #[.int .i64 a, .int .i64 b, .int .u32 ep])
  exact ⟨rfl, below_alloc (Below.refl _ _) _⟩
set_option maxHeartbeats 800000 in
theorem all_ (h : Sep w0 W (StB gs g m a b ep pages named used seq :: F)) (hn : pages.length ≤ 100000) (hp : ∀ p ∈ pages, p.length ≤ 1000000) : Calls Try.prog 30 #[.pointer (some ⟨gs, 0, none⟩)] W fun e w' => ∃ v, e = .returned v ∧ Sep w0 w' (RowV KP 30 v pages :: StB gs g m a b ep pages named used seq :: F) := by
  obtain ⟨A, c, hs⟩ := stb_open h
  have A0 := Aside0.mk hs
  have H0 := Aside0.mk h
  have HN := Aside0.mk (And.intro hn hp)
  have z4 := (hs.cell 4).trans rfl
  obtain ⟨n, hn_⟩ : ∃ n, pages.length = n := ⟨_, rfl⟩
  rw [hn_] at A0 z4 HN
  clear h hs hn hp hn_
  go_enter Try.func30, Try.ntmps30
  go_wp2_with fail
  refine (apply_ (ps := pages) (l := []) (Sep.rowVC rfl A0.out.at2).2.2 (Kd.C_nil _ _) HN.out.1 HN.out.2 (fun x hx => (by cases hx))).mono ?_
  rintro e w1 ⟨v1, rfl, hS1⟩
  have B1 := Aside0.mk (H0.out.lift1 hS1)
  clear hS1
  go_wp2_with fail
  go_ret
  exact ⟨_, by first | rfl | (simp; done), B1.out⟩
end
end Go.Proofs.Ytjngnigelkgekaa.Store
namespace Go.Proofs.Ytjngnigelkgekaa.Str
set_option linter.unusedVariables false
set_option linter.unusedSimpArgs false
open Go.RowKit Go.Proofs.YtjngnigelkgekaaW.PrintWords Go.Proofs.YtjngnigelkgekaaW.PrintLast Go.Proofs.YtjngnigelkgekaaW.PrintMore Go.Proofs.Ytjngnigelkgekaa.Kit Go.Proofs.Ytjngnigelkgekaa.Plain
abbrev U8 : Kd Int := Kd.int .u8
theorem strC {W : World} {A : Option Addr} {n c : Nat} {xs : List Int} (h : U8.C W A n xs) : (convert 30 9 (.slice A n c)).run Try.prog W = .ok (.string (strOfNums xs)) W := by
  obtain rfl : xs.length = n := h.1
  exact Kd.C_string (P := Try.prog) (c := c) Try.underlying30 Try.underlying5 Try.underlying9 h
end Go.Proofs.Ytjngnigelkgekaa.Str
namespace Go.Proofs.Ytjngnigelkgekaa.Root
set_option linter.unusedVariables false
set_option linter.unusedSimpArgs false
open Go.RowKit Go.Proofs.YtjngnigelkgekaaW.PrintWords Go.Proofs.YtjngnigelkgekaaW.PrintLast Go.Proofs.YtjngnigelkgekaaW.PrintMore Go.Proofs.Ytjngnigelkgekaa.Kit Go.Proofs.Ytjngnigelkgekaa.Base Go.Proofs.Ytjngnigelkgekaa.Plain Go.Proofs.Ytjngnigelkgekaa.Sum
end Go.Proofs.Ytjngnigelkgekaa.Root
namespace Go.Proofs.Ytjngnigelkgekaa.Disk
set_option linter.unusedVariables false
set_option linter.unusedSimpArgs false
open Go.RowKit Go.Proofs.YtjngnigelkgekaaW.PrintWords Go.Proofs.YtjngnigelkgekaaW.PrintLast Go.Proofs.YtjngnigelkgekaaW.PrintMore Go.Proofs.Ytjngnigelkgekaa.Kit
end Go.Proofs.Ytjngnigelkgekaa.Disk
namespace Go.Proofs.Ytjngnigelkgekaa.Kit
set_option linter.unusedVariables false
abbrev Wt := Nat → Option (List Int)
/-- The sectors that wait. -/
def keysOf (n : Nat) (wt : Wt) : List Nat := (List.range n).filter (fun i => (wt i).isSome)
def rank (wt : Wt) (i : Nat) : Nat := (keysOf i wt).length
theorem keysOf_succ (n : Nat) (wt : Wt) : keysOf (n + 1) wt = keysOf n wt ++ if (wt n).isSome then [n] else [] := by
  unfold keysOf
  rw [List.range_succ, List.filter_append]
  congr 1
  by_cases h : (wt n).isSome = true
  · simp [h]
  · simp [h]
theorem rank_succ (n : Nat) (wt : Wt) : rank wt (n + 1) = rank wt n + if (wt n).isSome then 1 else 0 := by
  unfold rank
  rw [keysOf_succ, List.length_append]
  split <;> rfl
theorem rank_mono (wt : Wt) {i j : Nat} (h : i ≤ j) : rank wt i ≤ rank wt j := by
  induction j with
  | zero => rw [show i = 0 by omega]; exact Nat.le_refl _
  | succ j ih =>
    by_cases hi : i = j + 1
    · rw [hi]; exact Nat.le_refl _
    · have := ih (by omega); rw [rank_succ]; omega
theorem rank_lt {wt : Wt} {i j : Nat} (h : i < j) (hi : (wt i).isSome = true) : rank wt i < rank wt j := by
  have := rank_mono wt (show i + 1 ≤ j by omega)
  rw [rank_succ, if_pos hi] at this
  omega
theorem keys_at (wt : Wt) : ∀ (n j i : Nat), (keysOf n wt)[j]? = some i ↔ i < n ∧ (wt i).isSome = true ∧ rank wt i = j
  | 0, j, i => by simp [keysOf]
  | n + 1, j, i => by
    rw [keysOf_succ]
    by_cases hj : j < (keysOf n wt).length
    · rw [List.getElem?_append_left hj, keys_at wt n j i]
      constructor
      · rintro ⟨h1, h2, h3⟩; exact ⟨by omega, h2, h3⟩
      · rintro ⟨h1, h2, h3⟩
        refine ⟨?_, h2, h3⟩
        rcases Nat.lt_or_ge i n with h | h
        · exact h
        · have : i = n := by omega
          subst this
          unfold rank at h3; omega
    · rw [List.getElem?_append_right (by omega)]
      by_cases hn : (wt n).isSome = true
      · rw [if_pos hn]
        constructor
        · intro h
          have hj0 : j - (keysOf n wt).length = 0 := by
            rcases Nat.eq_zero_or_pos (j - (keysOf n wt).length) with h0 | h0
            · exact h0
            · rw [List.getElem?_eq_none (by simp; omega)] at h; cases h
          rw [hj0] at h
          simp at h
          subst h
          exact ⟨by omega, hn, by unfold rank; omega⟩
        · rintro ⟨h1, h2, h3⟩
          rcases Nat.lt_or_ge i n with h | h
          · have := rank_lt h h2
            unfold rank at this h3; omega
          · have : i = n := by omega
            subst this
            unfold rank at h3
            rw [h3, Nat.sub_self]; rfl
      · rw [if_neg hn]
        constructor
        · intro h; simp at h
        · rintro ⟨h1, h2, h3⟩
          rcases Nat.lt_or_ge i n with h | h
          · have := rank_lt h h2
            unfold rank at this h3; omega
          · have : i = n := by omega
            subst this
            exact absurd h2 hn
theorem keys_len_le (wt : Wt) (n : Nat) : (keysOf n wt).length ≤ n := by
  have := List.length_filter_le (fun i => (wt i).isSome) (List.range n)
  rwa [List.length_range] at this
/-- How many bytes of the j-th sector that waits are kept. -/
def cutN (cuts : List Int) (j : Nat) : Nat := if j < cuts.length then (max 0 (min (cuts.getD j 0) 64)).toNat else 0
theorem cutN_le (cuts : List Int) (j : Nat) : cutN cuts j ≤ 64 := by unfold cutN; split <;> omega
def cutS (las : List Int) (wt : Wt) (cuts : List Int) (i : Nat) : List Int :=
  match wt i with
  | none => sec las i
  | some b => b.take (cutN cuts (rank wt i)) ++ (sec las i).drop (cutN cuts (rank wt i))
def crashTo (las : List Int) (wt : Wt) (cuts : List Int) (j : Nat) : List Int := secs (las.length / 64) (fun i => if rank wt i < j then cutS las wt cuts i else sec las i)
def crashed (las : List Int) (wt : Wt) (cuts : List Int) : List Int := secs (las.length / 64) (cutS las wt cuts)
section
variable {las : List Int} {wt : Wt} {cuts : List Int} {n : Nat}
theorem cutS_len (hn : las.length = 64 * n) (hw : ∀ i b, wt i = some b → b.length = 64) : ∀ i, i < n → (cutS las wt cuts i).length = 64 := fun i hi => by
  have hs := sec_len (l := las) (i := i) (by omega)
  unfold cutS
  cases h : wt i with
  | none => exact hs
  | some b =>
    have := hw i b h; have := cutN_le cuts (rank wt i)
    simp only [List.length_append, List.length_take, List.length_drop]; omega
theorem crashTo_zero (hn : las.length = 64 * n) : crashTo las wt cuts 0 = las := by
  unfold crashTo
  rw [show las.length / 64 = n by omega, ← secs_self hn]
  refine secs_congr fun i hi => ?_
  rw [if_neg (by omega), secs_self hn]
theorem crashTo_all (hn : las.length = 64 * n) : crashTo las wt cuts (keysOf n wt).length = crashed las wt cuts := by
  unfold crashTo crashed
  refine secs_congr fun i hi => ?_
  by_cases h : rank wt i < (keysOf n wt).length
  · rw [if_pos h]
  · rw [if_neg h]
    unfold cutS
    cases hw : wt i with
    | none => rfl
    | some b =>
      have := rank_lt (wt := wt) (i := i) (j := n) (by omega) (by rw [hw]; rfl)
      unfold rank at this h; omega
theorem crashTo_skip {j : Nat} (hj : cuts.length ≤ j) (hn : las.length = 64 * n) (hw : ∀ i b, wt i = some b → b.length = 64) : crashTo las wt cuts (j + 1) = crashTo las wt cuts j := by
  unfold crashTo
  refine secs_congr fun i hi => ?_
  by_cases h : rank wt i < j
  · rw [if_pos (by omega), if_pos h]
  · by_cases h2 : rank wt i < j + 1
    · rw [if_pos h2, if_neg h]
      unfold cutS
      cases hb : wt i with
      | none => rfl
      | some b => have : cutN cuts (rank wt i) = 0 := by unfold cutN; rw [if_neg (by omega)]
                  simp [this]
    · rw [if_neg h2, if_neg h]
theorem crashTo_step {j i : Nat} {b : List Int} (hn : las.length = 64 * n) (hw : ∀ i b, wt i = some b → b.length = 64) (hk : (keysOf n wt)[j]? = some i) (hb : wt i = some b) :
    over (crashTo las wt cuts j) (64 * i) (b.take (cutN cuts j)) = crashTo las wt cuts (j + 1) := by
  obtain ⟨h1, h2, h3⟩ := (keys_at wt n j i).1 hk
  have hbl := hw i b hb
  have hc := cutN_le cuts j
  have hlen : ∀ k, k < las.length / 64 → ((fun i => if rank wt i < j then cutS las wt cuts i else sec las i) k).length = 64 := fun k hk => by
    dsimp only
    split
    · exact cutS_len hn hw k (by omega)
    · exact sec_len (by omega)
  unfold crashTo
  rw [over_secs hlen (by omega) (by rw [List.length_take]; omega)]
  refine secs_congr fun k hk => ?_
  by_cases hki : k = i
  · subst hki
    rw [if_pos rfl, if_neg (show ¬ rank wt k < j by omega), if_pos (show rank wt k < j + 1 by omega)]
    unfold cutS
    rw [hb, h3]
    dsimp only
    rw [List.length_take, Nat.min_eq_left (by omega)]
  · rw [if_neg hki]
    by_cases h : rank wt k < j
    · rw [if_pos h, if_pos (by omega)]
    · rw [if_neg h]
      by_cases h4 : rank wt k < j + 1
      · rw [if_pos h4]
        unfold cutS
        cases hwk : wt k with
        | none => rfl
        | some c =>
          exfalso
          have hkk : (wt k).isSome = true := by rw [hwk]; rfl
          rcases Nat.lt_or_ge k i with h5 | h5
          · have := rank_lt h5 hkk; omega
          · have := rank_lt (show i < k by omega) h2; omega
      · rw [if_neg h4]
end
end Go.Proofs.Ytjngnigelkgekaa.Kit
namespace Go.Proofs.Ytjngnigelkgekaa.Disk
set_option linter.unusedVariables false
set_option linter.unusedSimpArgs false
open Go.RowKit Go.Proofs.YtjngnigelkgekaaW.PrintWords Go.Proofs.YtjngnigelkgekaaW.PrintLast Go.Proofs.YtjngnigelkgekaaW.PrintMore Go.Proofs.Ytjngnigelkgekaa.Kit
abbrev I64 : Kd Int := Kd.int .i64
def keysI (las : List Int) (wt : Wt) : List Int := (keysOf (las.length / 64) wt).map (fun k : Nat => (k : Int))
theorem keysI_sorted (las : List Int) (wt : Wt) : (keysI las wt).Pairwise (· ≤ ·) := by
  unfold keysI keysOf
  refine List.pairwise_map.2 ?_
  refine ((List.pairwise_lt_range (n := las.length / 64)).sublist List.filter_sublist).imp (fun h => ?_)
  omega
theorem ents_perm {las : List Int} {ents : List Ent} {clock : Nat} {wt : Nat → Option (List Int)} (hok : DskOk las ents clock wt) : ((ents.map Ent.en).map (·.k)).Perm (keysI las wt) := by
  have e1 : (ents.map Ent.en).map (·.k) = (ents.map (·.k)).map (fun k : Nat => (k : Int)) := by rw [List.map_map, List.map_map]; rfl
  rw [e1]
  unfold keysI
  refine List.Perm.map _ ?_
  refine (List.perm_ext_iff_of_nodup hok.keys ((List.nodup_range).sublist List.filter_sublist)).2 fun i => ?_
  rw [List.mem_filter, List.mem_range, List.mem_map]
  constructor
  · rintro ⟨e, he, rfl⟩
    obtain ⟨h1, h2, _⟩ := hok.each e he
    obtain ⟨n, h3, h4, h5⟩ := hok.len
    refine ⟨by omega, ?_⟩
    rw [hok.wt, find_mem hok.keys he]; rfl
  · rintro ⟨h1, h2⟩
    rw [hok.wt] at h2
    cases hf : ents.find? (fun e => e.k == i) with
    | none => rw [hf] at h2; cases h2
    | some e =>
      obtain ⟨pre, post, rfl, hk, _⟩ := find_split hf
      exact ⟨e, by simp, hk⟩
theorem entsOk {las : List Int} {ents : List Ent} {clock : Nat} {wt : Nat → Option (List Int)} (hok : DskOk las ents clock wt) : EnOk (ents.map Ent.en) clock := by
  have hlen : ents.length ≤ 160 := by
    have h1 := (ents_perm hok).length_eq
    simp only [List.length_map, keysI] at h1
    have := keys_len_le wt (las.length / 64)
    obtain ⟨n, h3, h4, h5⟩ := hok.len
    omega
  refine ⟨?_, (bornOk hok).2, fun e he => ?_, by rw [List.length_map]; omega⟩
  · rw [List.map_map]
    have : (fun e : En => e.k) ∘ Ent.en = (fun k : Nat => (k : Int)) ∘ (fun e : Ent => e.k) := rfl
    rw [this, ← List.map_map]
    exact List.pairwise_map.2 (hok.keys.imp fun hne he => hne (by omega))
  · obtain ⟨x, hx, rfl⟩ := List.mem_map.1 he
    obtain ⟨h1, h2, _⟩ := hok.each x hx
    obtain ⟨n, h3, h4, h5⟩ := hok.len
    show x.born < clock ∧ -9223372036854775808 ≤ (x.k : Int) ∧ (x.k : Int) ≤ 9223372036854775807
    omega
set_option maxHeartbeats 400000 in
theorem waits_ {w0 W : World} {g : Nat} {las : List Int} {wt : Nat → Option (List Int)} {F : List HP} (h : Sep w0 W (Dsk g las wt :: F)) :
    Calls Try.prog 49 #[.pointer (some ⟨g, 0, none⟩)] W fun e w' => ∃ v, e = .returned v ∧ Sep w0 w' (Row I64 3 v (keysI las wt) :: Dsk g las wt :: F) := by
  obtain ⟨v, m, ents, clock, hok, hs⟩ := open_ h
  have c1 : W.cell? ⟨g, 1, none⟩ = some (.map (some m)) := by rw [hs.cell 1]; rfl
  have AS := Aside0.mk (sortedA_ (entsOk hok) hs.tail.tail.map (ents_perm hok) (keysI_sorted las wt))
  have AH := Aside0.mk h
  clear hok hs h
  go_enter Try.func49, Try.ntmps49
  go_wp2_with (first | (go_at_call 95; refine (keysA_ m _).mono ?_; rintro e w1 ⟨rfl, rfl⟩) | (go_at_call 76; refine AS.out.mono ?_; rintro e w2 ⟨v2, rfl, hS2⟩))
  go_ret
  exact ⟨_, by first | rfl | (simp; done), AH.out.lift1 hS2⟩
end Go.Proofs.Ytjngnigelkgekaa.Disk
