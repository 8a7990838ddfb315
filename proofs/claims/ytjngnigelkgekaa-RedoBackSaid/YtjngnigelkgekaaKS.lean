/- SumPut, Sum1, Sum2, Turn1, RootP, Str in one. -/
import Derived.Test.YtjngnigelkgekaaProg
import Derived.Test.YtjngnigelkgekaaKA
import Derived.WalkKit
import Derived.KernelRfl
import Derived.WalkSpells
import Derived.Deep.QuietTactic
/- Package sum: a step, a sum, a number put and got. -/
namespace Go.Proofs.Ytjngnigelkgekaa.Sum
set_option linter.unusedVariables false
set_option linter.unusedSimpArgs false
open Go.RowKit Go.Proofs.YtjngnigelkgekaaW.PrintWords Go.Proofs.YtjngnigelkgekaaW.PrintLast Go.Proofs.YtjngnigelkgekaaW.PrintMore Go.Proofs.Ytjngnigelkgekaa.Kit Go.Proofs.Ytjngnigelkgekaa.Plain
abbrev B8 : Kd Int := Kd.int .u8
theorem infoB8 : (Try.prog.info? 5).map (fun i => (i.zero, i.size, i.bytes)) = some (some (.int .u8 0), 1, 1) := by kernel_rfl
theorem sumF_snoc (l : List Int) (x : Int) : sumF (l ++ [x]) = stepF (sumF l) x := by unfold sumF; rw [List.foldl_append]; rfl
theorem stepF_in (h x : Int) : 0 ≤ stepF h x ∧ stepF h x ≤ 4294967295 := by unfold stepF; omega
theorem sumF_in (l : List Int) : 0 ≤ sumF l ∧ sumF l ≤ 4294967295 := by
  rcases List.eq_nil_or_concat l with rfl | ⟨a, x, rfl⟩
  · unfold sumF; simp
  · rw [List.concat_eq_append, sumF_snoc]; exact stepF_in _ _
theorem take_snoc {l : List Int} {j : Nat} (h : j < l.length) : l.take (j + 1) = l.take j ++ [rd l (j : Int)] := by
  rw [List.take_add_one, List.getElem?_eq_getElem h]
  unfold rd
  rw [Int.toNat_natCast, List.getD_eq_getElem?_getD, List.getElem?_eq_getElem h]
  rfl
set_option maxHeartbeats 1600000 in
set_option maxRecDepth 100000 in
theorem put_ {A : Option Addr} {n c : Nat} {l : List Int} {m : Int} {w : World} (hr : B8.C w A n l) (hm : 0 ≤ m ∧ m ≤ 4294967295) (hl : n ≤ 140737488355320) :
    Calls Try.prog 89 #[.slice A n c, .int .u32 m] w fun e w' => ∃ v, e = .returned v ∧ Sep w w' [Row B8 5 v (l ++ put4 m)] := by
  obtain rfl : l.length = n := hr.1
  have HR := Aside0.mk hr
  have HM := Aside0.mk hm
  have L0 := Aside0.mk ((Sep.start w).litRow (enc := Value.int .u8) (h1 := fun _ => rfl) (e := 5) [] (by decide))
  clear hr
  go_enter Try.func89, Try.ntmps89
  go_wp2_with (first | (refine gate_builtin (b := .append) (xs := #[.tmp 7, .tmp 8]) rfl ?_; go_loud (refine L0.out.appendRow rfl (.tmp 7) (.tmp 8) 30 (.int .u8 0) 1 rfl Try.underlying30 infoB8 rfl (by decide) A l.length c rfl rfl (Kd.C_alloc HR.out _) (by simp; omega) ?_; intro v1 w1 hS1; rw [List.nil_append] at hS1; have A1 := Aside0.mk hS1; clear hS1)))
  go_loopg [5, 6] 4 (fun k v p wr => ∃ j : Nat, p = .int .i64 (3 - (j : Int)) ∧ j + k = 4 ∧ Sep w wr [Row B8 5 v (l ++ (put4 m).take j)])
  case atStart => exact ⟨0, rfl, rfl, by rw [List.take_zero, List.append_nil]; exact A1.out⟩
  case round =>
    obtain ⟨j, rfl, hjk, hS⟩ := hrel
    have AS := Aside0.mk hS
    have AK := Aside0.mk hjk
    clear hS
    by_cases hj : j < 4
    · clear hjk
      rcases (by omega : j = 0 ∨ j = 1 ∨ j = 2 ∨ j = 3) with rfl | rfl | rfl | rfl
      · have AR2 := Aside0.mk (AS.out.litRow (enc := Value.int .u8) (h1 := fun _ => rfl) (e := 5) [m / 16777216] (by simp)).at2
        have hT : (put4 m).take 1 = (put4 m).take 0 ++ [m / 16777216] := by unfold put4; simp <;> omega
        have AT := Aside0.mk hT
        clear hT
        go_wp2_with (first | (refine gate_builtin (b := .append) (xs := #[.tmp 14, .tmp 20]) rfl ?_; go_loud (refine AR2.out.appendRow rfl (.tmp 14) (.tmp 20) 30 (.int .u8 0) 1 rfl Try.underlying30 infoB8 rfl (by decide) (some ⟨wr.heap.size, 0, none⟩) 1 1 rfl rfl AR2.out.at2.rowC.2.2 (by simp [put4]; omega) ?_; intro v2 w2 hS2; have AS2 := Aside0.mk hS2; clear hS2)))
        go_roundg (gk - 1)
        case measure => have := AK.out; omega
        case rel => exact ⟨1, by go_num, by have := AK.out; omega, by rw [AT.out, ← List.append_assoc]; exact AS2.out.drop2⟩
      · have AR2 := Aside0.mk (AS.out.litRow (enc := Value.int .u8) (h1 := fun _ => rfl) (e := 5) [m / 65536 % 256] (by simp)).at2
        have hT : (put4 m).take 2 = (put4 m).take 1 ++ [m / 65536 % 256] := by unfold put4; simp <;> omega
        have AT := Aside0.mk hT
        clear hT
        go_wp2_with (first | (refine gate_builtin (b := .append) (xs := #[.tmp 14, .tmp 20]) rfl ?_; go_loud (refine AR2.out.appendRow rfl (.tmp 14) (.tmp 20) 30 (.int .u8 0) 1 rfl Try.underlying30 infoB8 rfl (by decide) (some ⟨wr.heap.size, 0, none⟩) 1 1 rfl rfl AR2.out.at2.rowC.2.2 (by simp [put4]; omega) ?_; intro v2 w2 hS2; have AS2 := Aside0.mk hS2; clear hS2)))
        go_roundg (gk - 1)
        case measure => have := AK.out; omega
        case rel => exact ⟨2, by go_num, by have := AK.out; omega, by rw [AT.out, ← List.append_assoc]; exact AS2.out.drop2⟩
      · have AR2 := Aside0.mk (AS.out.litRow (enc := Value.int .u8) (h1 := fun _ => rfl) (e := 5) [m / 256 % 256] (by simp)).at2
        have hT : (put4 m).take 3 = (put4 m).take 2 ++ [m / 256 % 256] := by unfold put4; simp <;> omega
        have AT := Aside0.mk hT
        clear hT
        go_wp2_with (first | (refine gate_builtin (b := .append) (xs := #[.tmp 14, .tmp 20]) rfl ?_; go_loud (refine AR2.out.appendRow rfl (.tmp 14) (.tmp 20) 30 (.int .u8 0) 1 rfl Try.underlying30 infoB8 rfl (by decide) (some ⟨wr.heap.size, 0, none⟩) 1 1 rfl rfl AR2.out.at2.rowC.2.2 (by simp [put4]; omega) ?_; intro v2 w2 hS2; have AS2 := Aside0.mk hS2; clear hS2)))
        go_roundg (gk - 1)
        case measure => have := AK.out; omega
        case rel => exact ⟨3, by go_num, by have := AK.out; omega, by rw [AT.out, ← List.append_assoc]; exact AS2.out.drop2⟩
      · have AR2 := Aside0.mk (AS.out.litRow (enc := Value.int .u8) (h1 := fun _ => rfl) (e := 5) [m % 256] (by simp)).at2
        have hT : (put4 m).take 4 = (put4 m).take 3 ++ [m % 256] := by unfold put4; simp <;> omega
        have AT := Aside0.mk hT
        clear hT
        go_wp2_with (first | (refine gate_builtin (b := .append) (xs := #[.tmp 14, .tmp 20]) rfl ?_; go_loud (refine AR2.out.appendRow rfl (.tmp 14) (.tmp 20) 30 (.int .u8 0) 1 rfl Try.underlying30 infoB8 rfl (by decide) (some ⟨wr.heap.size, 0, none⟩) 1 1 rfl rfl AR2.out.at2.rowC.2.2 (by simp [put4]; omega) ?_; intro v2 w2 hS2; have AS2 := Aside0.mk hS2; clear hS2)))
        go_roundg (gk - 1)
        case measure => have := AK.out; omega
        case rel => exact ⟨4, by go_num, by have := AK.out; omega, by rw [AT.out, ← List.append_assoc]; exact AS2.out.drop2⟩
    · have hj4 : j = 4 := by omega
      subst hj4
      clear hjk hj AK
      go_wp2_with fail
      go_ret
      exact ⟨_, by first | rfl | (simp; done), AS.out⟩
end Go.Proofs.Ytjngnigelkgekaa.Sum

/- Package sum: a step, a sum, a number put and got. -/
namespace Go.Proofs.Ytjngnigelkgekaa.Sum
set_option linter.unusedVariables false
set_option linter.unusedSimpArgs false
open Go.RowKit Go.Proofs.YtjngnigelkgekaaW.PrintWords Go.Proofs.YtjngnigelkgekaaW.PrintLast Go.Proofs.YtjngnigelkgekaaW.PrintMore Go.Proofs.Ytjngnigelkgekaa.Kit Go.Proofs.Ytjngnigelkgekaa.Plain
theorem step_ (h x : Int) (w : World) : Calls Try.prog 126 #[.int .u32 h, .int .u8 x] w fun e w' => e = .returned (.int .u32 (stepF h x)) ∧ w = w' := by
  go_enter Try.func126, Try.ntmps126
  go_wp2
  go_ret
  exact ⟨by unfold stepF; simp [u32_mod], rfl⟩
set_option maxHeartbeats 400000 in
theorem of_ {A : Option Addr} {n c : Nat} {l : List Int} {w : World} (hr : B8.C w A n l) : Calls Try.prog 90 #[.slice A n c] w fun e w' => e = .returned (.int .u32 (sumF l)) ∧ w = w' := by
  obtain rfl : l.length = n := hr.1
  have hm : l.length ≤ 9223372036854775807 := hr.2.1
  have HR := Aside0.mk hr
  clear hr
  go_enter Try.func90, Try.ntmps90
  go_wp2_with fail
  go_loopg [3, 8] l.length (fun k s p wr => ∃ j : Nat, p = .int .i64 (j : Int) ∧ j + k = l.length ∧ s = .int .u32 (sumF (l.take j)) ∧ w = wr)
  case atStart => exact ⟨0, rfl, by omega, rfl, rfl⟩
  case round =>
    obtain ⟨j, rfl, hjk, rfl, rfl⟩ := hrel
    have AK := Aside0.mk hjk
    by_cases hj : j < l.length
    · obtain ⟨ad, hA, hc⟩ := Kd.at_int HR.out (j : Int) (by omega) (by omega)
      subst hA
      rw [Int.toNat_natCast] at hc
      have AT := Aside0.mk (take_snoc hj)
      generalize rd l (j : Int) = x at *
      clear hjk
      go_wp2_with fail
      refine (step_ _ x _).mono ?_
      rintro e w' ⟨rfl, rfl⟩
      go_wp2_with fail
      go_roundg (gk - 1)
      case measure => have := AK.out; omega
      case rel => exact ⟨j + 1, by go_num, by have := AK.out; omega, by rw [AT.out, sumF_snoc], rfl⟩
    · have hjn : j = l.length := by omega
      subst hjn
      rw [List.take_length] 
      clear hjk AK
      go_wp2_with fail
      go_ret
      exact ⟨by first | rfl | (simp; done), rfl⟩
end Go.Proofs.Ytjngnigelkgekaa.Sum

/- Package sum: a number that is got. Cuts of rows of bytes. -/
namespace Go.Proofs.Ytjngnigelkgekaa.Sum
set_option linter.unusedVariables false
set_option linter.unusedSimpArgs false
open Go.RowKit Go.Proofs.YtjngnigelkgekaaW.PrintWords Go.Proofs.YtjngnigelkgekaaW.PrintLast Go.Proofs.YtjngnigelkgekaaW.PrintMore Go.Proofs.Ytjngnigelkgekaa.Kit Go.Proofs.Ytjngnigelkgekaa.Plain
theorem C_of8 {W : World} {A : Option Addr} {n : Nat} {l : List Int} (h : ReadsOf (Value.int .u8) (0 : Int) W A n l) : B8.C W A n l := Kd.C_of_reads (d := (0 : Int)) (h1 := fun _ => rfl) h
theorem of_C8 {W : World} {A : Option Addr} {n : Nat} {l : List Int} (h : B8.C W A n l) : ReadsOf (Value.int .u8) (0 : Int) W A n l := Kd.reads_of_C (d := (0 : Int)) h
/-- A cut 'x[a:b]' of bytes. -/
theorem mid8 {A : Option Addr} {n c a b : Nat} {l : List Int} {J K : Int} (hJ : J = (a : Int)) (hK : K = (b : Int)) (hl : l.length = n) (hab : a ≤ b) (hb : b ≤ n) (hc : n ≤ c) :
    ∃ A', (∀ W : World, (Instr.slice 30 (.slice A n c) (some (.int .i64 J)) (some (.int .i64 K)) none).run Try.prog W = .ok (.slice A' (b - a) (c - a)) W) ∧ ∀ W : World, B8.C W A n l → B8.C W A' (b - a) ((l.take b).drop a) := by
  subst hJ hK hl
  obtain ⟨i, hi, hz⟩ := Option.map_eq_some_iff.1 infoB8
  simp only [Prod.mk.injEq] at hz
  obtain ⟨A', h1, h2, _⟩ := print_mid_of (P := Try.prog) (Value.int .u8) (0 : Int) 30 5 .i64 .i64 Try.underlying30 hi hz.2.1 A c l (a : Int) (b : Int) (by omega) (by omega) (by omega) hc
  have hlen : ((l.take b).drop a).length = b - a := by rw [List.length_drop, List.length_take]; omega
  simp only [Int.toNat_natCast, hlen] at h1 h2
  exact ⟨A', h1, fun W h => C_of8 (h2 W (of_C8 h))⟩
/-- A cut 'x[a:]' of bytes. -/
theorem drop8 {A : Option Addr} {n c a : Nat} {l : List Int} {J : Int} (hJ : J = (a : Int)) (hl : l.length = n) (ha : a ≤ n) (hc : n ≤ c) :
    ∃ A', (∀ W : World, (Instr.slice 30 (.slice A n c) (some (.int .i64 J)) none none).run Try.prog W = .ok (.slice A' (n - a) (c - a)) W) ∧ ∀ W : World, B8.C W A n l → B8.C W A' (n - a) (l.drop a) := by
  subst hJ hl
  obtain ⟨i, hi, hz⟩ := Option.map_eq_some_iff.1 infoB8
  simp only [Prod.mk.injEq] at hz
  obtain ⟨A', h1, h2, _⟩ := print_drop_of (P := Try.prog) (Value.int .u8) (0 : Int) 30 5 .i64 Try.underlying30 hi hz.2.1 A c l (a : Int) (by omega) (by omega) hc
  simp only [Int.toNat_natCast, List.length_drop] at h1 h2
  exact ⟨A', h1, fun W h => C_of8 (h2 W (of_C8 h))⟩
/-- A cut 'x[:b]' of bytes. -/
theorem take8 {A : Option Addr} {n c b : Nat} {l : List Int} {K : Int} (hK : K = (b : Int)) (hl : l.length = n) (hb : b ≤ n) (hc : n ≤ c) :
    (∀ W : World, (Instr.slice 30 (.slice A n c) none (some (.int .i64 K)) none).run Try.prog W = .ok (.slice A b c) W) ∧ ∀ W : World, B8.C W A n l → B8.C W A b (l.take b) := by
  subst hK hl
  obtain ⟨i, hi, hz⟩ := Option.map_eq_some_iff.1 infoB8
  simp only [Prod.mk.injEq] at hz
  obtain ⟨h1, h2, _⟩ := print_take_of (P := Try.prog) (Value.int .u8) (0 : Int) 30 5 .i64 Try.underlying30 hi hz.2.1 A c l (b : Int) (by omega) (by omega) hc
  have hlen : (l.take b).length = b := by rw [List.length_take]; omega
  simp only [Int.toNat_natCast, hlen] at h1 h2
  exact ⟨h1, fun W h => C_of8 (h2 W (of_C8 h))⟩
def accF (l : List Int) : Int := l.foldl (fun n c => n * 256 + c) 0
theorem accF_snoc (l : List Int) (x : Int) : accF (l ++ [x]) = accF l * 256 + x := by unfold accF; rw [List.foldl_append]; rfl
theorem accF_in {l : List Int} (h : Bytes l) (h3 : l.length ≤ 3) : 0 ≤ accF l ∧ accF l < 16777216 := by
  match l, h3 with
  | [], _ => unfold accF; simp
  | [a], _ => have := h a (by simp); simp [accF]; omega
  | [a, b], _ => have := h a (by simp); have := h b (by simp); simp [accF]; omega
  | [a, b, c], _ => have := h a (by simp); have := h b (by simp); have := h c (by simp); simp [accF]; omega
theorem getF_acc {l : List Int} {a : Nat} (h : a + 4 ≤ l.length) : accF ((l.take (a + 4)).drop a) = getF l (a : Int) := by
  have hl : ((l.take (a + 4)).drop a).length = 4 := by rw [List.length_drop, List.length_take]; omega
  have he : (l.take (a + 4)).drop a = [rd l (a : Int), rd l ((a : Int) + 1), rd l ((a : Int) + 2), rd l ((a : Int) + 3)] := by
    apply List.ext_getElem?
    intro j
    rw [List.getElem?_drop, List.getElem?_take]
    unfold rd
    match j with
    | 0 => rw [if_pos (by omega), List.getElem?_eq_getElem (by omega)]; simp [List.getElem?_eq_getElem (show a < l.length by omega)]
    | 1 => rw [if_pos (by omega), List.getElem?_eq_getElem (by omega)]; simp [show ((a : Int) + 1).toNat = a + 1 by omega, List.getElem?_eq_getElem (show a + 1 < l.length by omega)]
    | 2 => rw [if_pos (by omega), List.getElem?_eq_getElem (by omega)]; simp [show ((a : Int) + 2).toNat = a + 2 by omega, List.getElem?_eq_getElem (show a + 2 < l.length by omega)]
    | 3 => rw [if_pos (by omega), List.getElem?_eq_getElem (by omega)]; simp [show ((a : Int) + 3).toNat = a + 3 by omega, List.getElem?_eq_getElem (show a + 3 < l.length by omega)]
    | j + 4 => rw [if_neg (by omega)]; simp
  rw [he]
  unfold getF
  rw [if_neg (by omega)]
  simp [accF]
set_option maxHeartbeats 800000 in
theorem get_out {A : Option Addr} {n c : Nat} {l : List Int} {a : Int} {w : World} (hr : B8.C w A n l) (ha : a < 0 ∨ (l.length : Int) - 4 < a) (ha2 : -9223372036854775808 ≤ a ∧ a ≤ 9223372036854775807) :
    Calls Try.prog 91 #[.slice A n c, .int .i64 a] w fun e w' => e = .returned (.int .u32 (getF l a)) ∧ w = w' := by
  obtain rfl : l.length = n := hr.1
  have hm : l.length ≤ 9223372036854775807 := hr.2.1
  have hg : getF l a = 0 := by unfold getF; rw [if_pos ha]
  have HG := Aside0.mk hg
  clear hr hg
  by_cases h0 : a < 0
  · clear ha
    go_enter Try.func91, Try.ntmps91
    go_wp2
    go_ret
    exact ⟨by rw [HG.out]; first | rfl | (simp; done), rfl⟩
  · have h1 : (l.length : Int) - 4 < a := by omega
    clear ha
    go_enter Try.func91, Try.ntmps91
    go_wp2
    go_ret
    exact ⟨by rw [HG.out]; first | rfl | (simp; done), rfl⟩
set_option maxHeartbeats 800000 in
theorem get_in {A : Option Addr} {n c : Nat} {l : List Int} {a : Nat} {w : World} (hr : B8.C w A n l) (hc : n ≤ c) (hb : Bytes l) (ha : a + 4 ≤ n) :
    Calls Try.prog 91 #[.slice A n c, .int .i64 (a : Int)] w fun e w' => e = .returned (.int .u32 (getF l (a : Int))) ∧ w = w' := by
  obtain rfl : l.length = n := hr.1
  have hm : l.length ≤ 9223372036854775807 := hr.2.1
  obtain ⟨A', hcut, hC⟩ := mid8 (A := A) (c := c) (l := l) (a := a) (b := a + 4) (J := (a : Int)) (K := (a : Int) + 4) rfl (by omega) rfl (by omega) ha hc
  rw [Nat.add_sub_cancel_left] at hcut
  have HR := Aside0.mk (by have := hC w hr; rwa [Nat.add_sub_cancel_left] at this)
  have HB : Aside0 (Bytes ((l.take (a + 4)).drop a)) := ⟨(hb.take _).drop _⟩
  have HG := Aside0.mk (getF_acc ha)
  have hl4 : ((l.take (a + 4)).drop a).length = 4 := by rw [List.length_drop, List.length_take]; omega
  generalize (l.take (a + 4)).drop a = q at *
  have HL := Aside0.mk hl4
  have h1 : ¬ (l.length : Int) - 4 < (a : Int) := by omega
  clear hr hC hb hl4
  go_enter Try.func91, Try.ntmps91
  go_wp2_with fail
  go_loopg [5, 23] 4 (fun k s p wr => ∃ j : Nat, p = .int .i64 (j : Int) ∧ j + k = 4 ∧ s = .int .u32 (accF (q.take j)) ∧ w = wr)
  case atStart => exact ⟨0, rfl, rfl, rfl, rfl⟩
  case round =>
    obtain ⟨j, rfl, hjk, rfl, rfl⟩ := hrel
    have AK := Aside0.mk hjk
    by_cases hj : j < 4
    · obtain ⟨ad, hA, hcc⟩ := Kd.at_int HR.out (j : Int) (by omega) (by omega)
      subst hA
      rw [Int.toNat_natCast] at hcc
      have AT := Aside0.mk (take_snoc (l := q) (j := j) (by rw [HL.out]; exact hj))
      have hx := HB.out.at (j : Int)
      have hacc := accF_in (HB.out.take j) (by rw [List.length_take]; omega)
      generalize rd q (j : Int) = x at *
      have hsn := Aside0.mk (accF_snoc (q.take j) x)
      generalize accF (q.take j) = y at *
      have hor : Go.bits .or .u32 (y * 256) x = y * 256 + x := by
        have := shift_in hacc.1 hacc.2 hx.1 hx.2
        rwa [show y * 256 % 4294967296 = y * 256 by omega, show x % 4294967296 = x by omega] at this
      have HO := Aside0.mk hor
      clear hjk hor
      go_wp2_with fail
      go_roundg (gk - 1)
      case measure => have := AK.out; omega
      case rel => exact ⟨j + 1, by go_num, by have := AK.out; omega, by rw [AT.out, hsn.out, ← HO.out], rfl⟩
    · have hjn : j = 4 := by omega
      subst hjn
      have hq : q.take 4 = q := List.take_of_length_le (by rw [HL.out]; exact Nat.le_refl _)
      rw [hq]
      clear hjk AK hq
      go_wp2_with fail
      go_ret
      exact ⟨by rw [← HG.out]; first | rfl | (simp; done), rfl⟩
theorem get_ {A : Option Addr} {n c : Nat} {l : List Int} {a : Int} {w : World} (hr : B8.C w A n l) (hc : n ≤ c) (hb : Bytes l) (ha2 : -9223372036854775808 ≤ a ∧ a ≤ 9223372036854775807) :
    Calls Try.prog 91 #[.slice A n c, .int .i64 a] w fun e w' => e = .returned (.int .u32 (getF l a)) ∧ w = w' := by
  have hl := hr.1
  by_cases ha : a < 0 ∨ (l.length : Int) - 4 < a
  · exact get_out hr ha ha2
  · obtain ⟨k, rfl⟩ : ∃ k : Nat, a = (k : Int) := ⟨a.toNat, by omega⟩
    exact get_in hr hc hb (by omega)
theorem rd_app_right {l r : List Int} {j : Nat} (h : j < r.length) : rd (l ++ r) ((l.length : Int) + (j : Int)) = rd r (j : Int) := by
  unfold rd
  rw [show ((l.length : Int) + (j : Int)).toNat = l.length + j by omega, Int.toNat_natCast, List.getD_eq_getElem?_getD, List.getD_eq_getElem?_getD, List.getElem?_append_right (by omega), Nat.add_sub_cancel_left]
theorem getF_put (l r : List Int) {m : Int} (h0 : 0 ≤ m) (h1 : m ≤ 4294967295) : getF (l ++ (put4 m ++ r)) (l.length : Int) = m := by
  unfold getF
  have h4 : (put4 m).length = 4 := rfl
  rw [if_neg (by simp only [List.length_append, h4]; omega)]
  have e0 := rd_app_right (l := l) (r := put4 m ++ r) (j := 0) (by simp only [List.length_append, h4]; omega)
  have e1 := rd_app_right (l := l) (r := put4 m ++ r) (j := 1) (by simp only [List.length_append, h4]; omega)
  have e2 := rd_app_right (l := l) (r := put4 m ++ r) (j := 2) (by simp only [List.length_append, h4]; omega)
  have e3 := rd_app_right (l := l) (r := put4 m ++ r) (j := 3) (by simp only [List.length_append, h4]; omega)
  simp only [Int.natCast_zero, Int.add_zero, Int.natCast_one] at e0 e1
  rw [show ((l.length : Int) + 2) = (l.length : Int) + ((2 : Nat) : Int) from rfl, show ((l.length : Int) + 3) = (l.length : Int) + ((3 : Nat) : Int) from rfl, e0, e1, e2, e3]
  simp [rd, put4]
  omega
end Go.Proofs.Ytjngnigelkgekaa.Sum

/- Plain laws on sums: a byte that is turned turns the sum. -/
namespace Go.Proofs.Ytjngnigelkgekaa.Plain
open Go Go.RowKit Go.Proofs.YtjngnigelkgekaaW.PrintWords Go.Proofs.YtjngnigelkgekaaW.PrintLast Go.Proofs.YtjngnigelkgekaaW.PrintMore

theorem stepF_rng (h b : Int) : 0 ≤ stepF h b ∧ stepF h b < 4294967296 := by unfold stepF; omega
theorem fold_rng (l : List Int) : ∀ h, 0 ≤ h → h < 4294967296 → 0 ≤ l.foldl stepF h ∧ l.foldl stepF h < 4294967296 := by
  induction l with
  | nil => intro h a b; exact ⟨a, b⟩
  | cons x l ih => intro h _ _; exact ih _ (stepF_rng h x).1 (stepF_rng h x).2
theorem sumF_rng (l : List Int) : 0 ≤ sumF l ∧ sumF l < 4294967296 := fold_rng l _ (by decide) (by decide)
theorem xor32_nat (a b : Nat) (ha : a < 4294967296) (hb : b < 4294967296) : Go.bits .xor .u32 a b = ((a ^^^ b : Nat) : Int) := by
  have ha' : a % 2 ^ 32 = a := Nat.mod_eq_of_lt ha
  have hb' : b % 2 ^ 32 = b := Nat.mod_eq_of_lt hb
  have hx : a ^^^ b < 2 ^ 32 := Nat.xor_lt_two_pow ha hb
  show IntKind.u32.wrap ((BitVec.ofInt 32 (a : Int) ^^^ BitVec.ofInt 32 (b : Int)).toNat : Int) = _
  rw [BitVec.toNat_xor, BitVec.ofInt_natCast, BitVec.ofInt_natCast, BitVec.toNat_ofNat, BitVec.toNat_ofNat, ha', hb', IntKind.wrap_u32]
  omega
theorem xor8_nat (a b : Nat) (ha : a < 256) (hb : b < 256) : Go.bits .xor .u8 a b = ((a ^^^ b : Nat) : Int) := by
  have ha' : a % 2 ^ 8 = a := Nat.mod_eq_of_lt ha
  have hb' : b % 2 ^ 8 = b := Nat.mod_eq_of_lt hb
  have hx : a ^^^ b < 2 ^ 8 := Nat.xor_lt_two_pow ha hb
  show IntKind.u8.wrap ((BitVec.ofInt 8 (a : Int) ^^^ BitVec.ofInt 8 (b : Int)).toNat : Int) = _
  rw [BitVec.toNat_xor, BitVec.ofInt_natCast, BitVec.ofInt_natCast, BitVec.toNat_ofNat, BitVec.toNat_ofNat, ha', hb', IntKind.wrap_u8]
  omega
theorem or8_nat (a b : Nat) (ha : a < 256) (hb : b < 256) : Go.bits .or .u8 a b = ((a ||| b : Nat) : Int) :=
  (bits_nat .u8 8 (by decide) wraps_u8 a b ha hb).2
/-- a byte, turned by an odd number, is another byte -/
theorem turned {x t : Int} (x0 : 0 ≤ x) (x1 : x ≤ 255) (t0 : 0 ≤ t) (t1 : t ≤ 255) :
    0 ≤ Go.bits .xor .u8 x (Go.bits .or .u8 t 1) ∧ Go.bits .xor .u8 x (Go.bits .or .u8 t 1) ≤ 255 ∧ Go.bits .xor .u8 x (Go.bits .or .u8 t 1) ≠ x := by
  obtain ⟨a, rfl⟩ := Int.eq_ofNat_of_zero_le x0
  obtain ⟨b, rfl⟩ := Int.eq_ofNat_of_zero_le t0
  have ho := or8_nat b 1 (by omega) (by decide)
  rw [show ((1 : Nat) : Int) = 1 from rfl] at ho
  have hlt : b ||| 1 < 2 ^ 8 := Nat.or_lt_two_pow (by omega) (by decide)
  have hx := xor8_nat a (b ||| 1) (by omega) (by omega)
  rw [ho, hx]
  have hlt2 : a ^^^ (b ||| 1) < 2 ^ 8 := Nat.xor_lt_two_pow (by omega) hlt
  refine ⟨by omega, by omega, fun h => ?_⟩
  have h' : a ^^^ (b ||| 1) = a := by omega
  have := congrArg (fun z => z.testBit 0) h'
  simp at this
  omega

theorem tr4 (X A Y B : Int) (h : X - A = Y - B) : X - Y = A - B := by omega
theorem tr3 (d e M : Int) (h : e + d = M) : d = M - e := by omega
theorem near (d z : Int) (h : d = 4294967296 * z) (h0 : d < 4294967296) (h1 : -4294967296 < d) : d = 0 := by omega
theorem sub_zero_eq (x y : Int) (h : x - y = 0) : x = y := by omega
theorem sub_lo (x y : Int) (x0 : 0 ≤ x) (y1 : y < 4294967296) : -4294967296 < x - y := by omega
theorem sub_hi (x y : Int) (x1 : x < 4294967296) (y0 : 0 ≤ y) : x - y < 4294967296 := by omega
theorem mul_inj {x y : Int} (x0 : 0 ≤ x) (x1 : x < 4294967296) (y0 : 0 ≤ y) (y1 : y < 4294967296) (h : (x * 16777619) % 4294967296 = (y * 16777619) % 4294967296) : x = y := by
  rw [Int.emod_def, Int.emod_def] at h
  have h1 := tr4 _ _ _ _ h
  rw [← Int.sub_mul, ← Int.mul_sub] at h1
  generalize x * 16777619 / 4294967296 - y * 16777619 / 4294967296 = t at h1
  apply sub_zero_eq
  generalize hd : x - y = d at h1
  have h2 : d * 16777619 * 899433627 = 4294967296 * t * 899433627 := by rw [h1]
  rw [Int.mul_assoc, show (16777619 : Int) * 899433627 = 4294967296 * 3513497 + 1 from by decide, Int.mul_add, Int.mul_one] at h2
  have h3 := tr3 _ _ _ h2
  rw [Int.mul_assoc, Int.mul_left_comm d, ← Int.mul_sub] at h3
  exact near d _ h3 (hd ▸ sub_hi x y x1 y0) (hd ▸ sub_lo x y x0 y1)
theorem nat_inj (X Y : Nat) (hX : X < 4294967296) (hY : Y < 4294967296) (e : ((X : Int) * 16777619) % 4294967296 = ((Y : Int) * 16777619) % 4294967296) : X = Y :=
  Int.ofNat.inj (mul_inj (Int.natCast_nonneg _) (Int.ofNat_lt.mpr hX) (Int.natCast_nonneg _) (Int.ofNat_lt.mpr hY) e)
theorem stepF_xor (h b : Nat) (hh : h < 4294967296) (hb : b < 256) : stepF h b = (((h ^^^ b : Nat) : Int) * 16777619) % 4294967296 := by
  unfold stepF
  rw [show ((b : Int) % 4294967296) = (b : Int) from by omega, xor32_nat h b hh (by omega)]
theorem stepF_inj_h {h h' b : Int} (h0 : 0 ≤ h) (h1 : h < 4294967296) (g0 : 0 ≤ h') (g1 : h' < 4294967296) (b0 : 0 ≤ b) (b1 : b ≤ 255) (e : stepF h b = stepF h' b) : h = h' := by
  obtain ⟨h, rfl⟩ := Int.eq_ofNat_of_zero_le h0
  obtain ⟨h', rfl⟩ := Int.eq_ofNat_of_zero_le g0
  obtain ⟨b, rfl⟩ := Int.eq_ofNat_of_zero_le b0
  have l1 : h < 2 ^ 32 := by omega
  have l2 : h' < 2 ^ 32 := by omega
  have l3 : b < 2 ^ 32 := by omega
  have l4 : b < 256 := by omega
  rw [stepF_xor h b l1 l4, stepF_xor h' b l2 l4] at e
  have hx := nat_inj _ _ (Nat.xor_lt_two_pow (n := 32) l1 l3) (Nat.xor_lt_two_pow (n := 32) l2 l3) e
  clear e
  have : h = h' := by
    have := congrArg (· ^^^ b) hx
    simpa [Nat.xor_assoc] using this
  omega
theorem stepF_inj_b {h b b' : Int} (h0 : 0 ≤ h) (h1 : h < 4294967296) (b0 : 0 ≤ b) (b1 : b ≤ 255) (c0 : 0 ≤ b') (c1 : b' ≤ 255) (e : stepF h b = stepF h b') : b = b' := by
  obtain ⟨h, rfl⟩ := Int.eq_ofNat_of_zero_le h0
  obtain ⟨b', rfl⟩ := Int.eq_ofNat_of_zero_le c0
  obtain ⟨b, rfl⟩ := Int.eq_ofNat_of_zero_le b0
  have l1 : h < 2 ^ 32 := by omega
  have l2 : b < 2 ^ 32 := by omega
  have l3 : b' < 2 ^ 32 := by omega
  have l4 : b < 256 := by omega
  have l5 : b' < 256 := by omega
  rw [stepF_xor h b l1 l4, stepF_xor h b' l1 l5] at e
  have hx := nat_inj _ _ (Nat.xor_lt_two_pow (n := 32) l1 l2) (Nat.xor_lt_two_pow (n := 32) l1 l3) e
  clear e
  have : b = b' := by
    have := congrArg (h ^^^ ·) hx
    simpa [← Nat.xor_assoc] using this
  omega
theorem fold_inj (c : List Int) (hc : Bytes c) : ∀ h h' : Int, 0 ≤ h → h < 4294967296 → 0 ≤ h' → h' < 4294967296 → c.foldl stepF h = c.foldl stepF h' → h = h' := by
  induction c with
  | nil => intro h h' _ _ _ _ e; exact e
  | cons x c ih =>
    intro h h' a1 a2 a3 a4 e
    have hx := hc x (List.mem_cons_self ..)
    exact stepF_inj_h a1 a2 a3 a4 hx.1 hx.2 (ih (fun y hy => hc y (List.mem_cons_of_mem _ hy)) _ _ (stepF_rng _ _).1 (stepF_rng _ _).2 (stepF_rng _ _).1 (stepF_rng _ _).2 e)
theorem set_split (l : List Int) (k : Nat) (v : Int) (h : k < l.length) : l.set k v = l.take k ++ v :: l.drop (k + 1) := by
  rw [List.set_eq_take_append_cons_drop, if_pos h]
theorem self_split (l : List Int) (k : Nat) (h : k < l.length) : l = l.take k ++ rd l k :: l.drop (k + 1) := by
  have := List.take_append_drop k l
  rw [List.drop_eq_getElem_cons h] at this
  have e : rd l k = l[k] := by unfold rd; rw [Int.toNat_natCast, List.getD_eq_getElem?_getD, List.getElem?_eq_getElem h]; rfl
  rw [e]; exact this.symm
/-- a byte that is turned turns the sum -/
theorem sumF_turn (l : List Int) (k : Nat) (v : Int) (h : k < l.length) (hb : Bytes l) (v0 : 0 ≤ v) (v1 : v ≤ 255) (hne : v ≠ rd l k) : sumF (l.set k v) ≠ sumF l := by
  intro e
  unfold sumF at e
  rw [set_split l k v h] at e
  have e2 : l.foldl stepF 2166136261 = (l.take k ++ rd l k :: l.drop (k + 1)).foldl stepF 2166136261 := congrArg (fun z => List.foldl stepF 2166136261 z) (self_split l k h)
  rw [e2, List.foldl_append, List.foldl_append, List.foldl_cons, List.foldl_cons] at e
  have hr := fold_rng (l.take k) 2166136261 (by decide) (by decide)
  have e1 := fold_inj _ (hb.drop _) _ _ (stepF_rng _ _).1 (stepF_rng _ _).2 (stepF_rng _ _).1 (stepF_rng _ _).2 e
  have hk := hb.at (k : Int)
  exact hne (stepF_inj_b hr.1 hr.2 v0 v1 hk.1 hk.2 e1)
theorem set_bytes {l : List Int} (k : Nat) {v : Int} (hb : Bytes l) (v0 : 0 ≤ v) (v1 : v ≤ 255) : Bytes (l.set k v) := fun x hx => by
  rcases List.mem_or_eq_of_mem_set hx with h | rfl
  · exact hb x h
  · exact ⟨v0, v1⟩
theorem rd_set_same (l : List Int) (k : Nat) (v : Int) (h : k < l.length) : rd (l.set k v) k = v := by
  unfold rd
  rw [Int.toNat_natCast, List.getD_eq_getElem?_getD, List.getElem?_set_self h]; rfl
theorem rd_set_other (l : List Int) (k : Nat) (v : Int) (i : Int) (hi : i.toNat ≠ k) : rd (l.set k v) i = rd l i := by
  unfold rd
  rw [List.getD_eq_getElem?_getD, List.getD_eq_getElem?_getD, List.getElem?_set_ne (by omega)]
/-- a number that lies elsewhere stays -/
theorem getF_set_other (l : List Int) (k : Nat) (v : Int) (m : Nat) (h : k < m ∨ m + 4 ≤ k) : getF (l.set k v) m = getF l m := by
  unfold getF
  rw [List.length_set, rd_set_other _ _ _ _ (by omega), rd_set_other _ _ _ _ (by omega), rd_set_other _ _ _ _ (by omega), rd_set_other _ _ _ _ (by omega)]
/-- a number of which a byte is turned is another -/
theorem getF_set_in {l : List Int} (k : Nat) {v : Int} (m : Nat) (hb : Bytes l) (_v0 : 0 ≤ v) (_v1 : v ≤ 255) (hm : m ≤ k) (hk : k < m + 4) (hl : m + 4 ≤ l.length) (hne : v ≠ rd l k) : getF (l.set k v) m ≠ getF l m := by
  unfold getF
  rw [List.length_set, if_neg (by omega), if_neg (by omega)]
  have r0 := hb.at (m : Int); have r1 := hb.at ((m : Int) + 1); have r2 := hb.at ((m : Int) + 2); have r3 := hb.at ((m : Int) + 3)
  rcases (show k = m ∨ k = m + 1 ∨ k = m + 2 ∨ k = m + 3 by omega) with rfl | rfl | rfl | rfl
  · rw [rd_set_same _ _ _ (by omega), rd_set_other _ _ _ _ (by omega), rd_set_other _ _ _ _ (by omega), rd_set_other _ _ _ _ (by omega)]; omega
  · rw [show ((m : Int) + 1) = ((m + 1 : Nat) : Int) from by omega] at *
    rw [rd_set_same _ _ _ (by omega), rd_set_other _ _ _ _ (by omega), rd_set_other _ _ _ _ (by omega), rd_set_other _ _ _ _ (by omega)]; omega
  · rw [show ((m : Int) + 2) = ((m + 2 : Nat) : Int) from by omega] at *
    rw [rd_set_same _ _ _ (by omega), rd_set_other _ _ _ _ (by omega), rd_set_other _ _ _ _ (by omega), rd_set_other _ _ _ _ (by omega)]; omega
  · rw [show ((m : Int) + 3) = ((m + 3 : Nat) : Int) from by omega] at *
    rw [rd_set_same _ _ _ (by omega), rd_set_other _ _ _ _ (by omega), rd_set_other _ _ _ _ (by omega), rd_set_other _ _ _ _ (by omega)]; omega

end Go.Proofs.Ytjngnigelkgekaa.Plain

/- Chapter 5's roots, plainly. -/
namespace Go.Proofs.Ytjngnigelkgekaa.Plain
open Go Go.RowKit Go.Proofs.YtjngnigelkgekaaW.PrintWords Go.Proofs.YtjngnigelkgekaaW.PrintLast Go.Proofs.YtjngnigelkgekaaW.PrintMore
open Go.Proofs.Ytjngnigelkgekaa.Sum (getF_put)
def markL : List Int := [69, 78, 71, 49]
def headR (a b c : Int) : List Int := markL ++ put4 a ++ put4 b ++ put4 c
def rootF (a b c : Int) : List Int := headR a b c ++ put4 (sumF (headR a b c)) ++ List.replicate 44 0
theorem headR_len (a b c : Int) : (headR a b c).length = 16 := rfl
theorem rootF_len (a b c : Int) : (rootF a b c).length = 64 := by
  unfold rootF
  rw [List.length_append, List.length_append, headR_len, put4_length, List.length_replicate]
theorem markL_bytes : Bytes markL := fun x hx => by
  simp only [markL, List.mem_cons, List.not_mem_nil, or_false] at hx
  omega
theorem zeros_bytes (n : Nat) : Bytes (List.replicate n 0) := fun x hx => by
  obtain rfl := List.eq_of_mem_replicate hx
  omega
theorem rootF_bytes (a b c : Int) : Bytes (rootF a b c) :=
  (((((markL_bytes.app (put4_bytes _)).app (put4_bytes _)).app (put4_bytes _))).app (put4_bytes _)).app (zeros_bytes _)
theorem rootF_take (a b c : Int) : (rootF a b c).take 16 = headR a b c := by
  unfold rootF
  rw [List.append_assoc, List.take_append_of_le_length (by rw [headR_len]; exact Nat.le_refl _), List.take_of_length_le (by rw [headR_len]; exact Nat.le_refl _)]
theorem rootF_4 {a b c : Int} (h0 : 0 ≤ a) (h1 : a ≤ 4294967295) : getF (rootF a b c) 4 = a := by
  have := getF_put markL (put4 b ++ (put4 c ++ (put4 (sumF (headR a b c)) ++ List.replicate 44 0))) h0 h1
  unfold rootF
  rw [show headR a b c ++ put4 (sumF (headR a b c)) ++ List.replicate 44 0 = markL ++ (put4 a ++ (put4 b ++ (put4 c ++ (put4 (sumF (headR a b c)) ++ List.replicate 44 0)))) by unfold headR; simp only [List.append_assoc]]
  exact this
theorem rootF_8 {a b c : Int} (h0 : 0 ≤ b) (h1 : b ≤ 4294967295) : getF (rootF a b c) 8 = b := by
  have := getF_put (markL ++ put4 a) (put4 c ++ (put4 (sumF (headR a b c)) ++ List.replicate 44 0)) h0 h1
  unfold rootF
  rw [show headR a b c ++ put4 (sumF (headR a b c)) ++ List.replicate 44 0 = (markL ++ put4 a) ++ (put4 b ++ (put4 c ++ (put4 (sumF (headR a b c)) ++ List.replicate 44 0))) by unfold headR; simp only [List.append_assoc]]
  exact this
theorem rootF_12 {a b c : Int} (h0 : 0 ≤ c) (h1 : c ≤ 4294967295) : getF (rootF a b c) 12 = c := by
  have := getF_put (markL ++ put4 a ++ put4 b) (put4 (sumF (headR a b c)) ++ List.replicate 44 0) h0 h1
  unfold rootF
  rw [show headR a b c ++ put4 (sumF (headR a b c)) ++ List.replicate 44 0 = (markL ++ put4 a ++ put4 b) ++ (put4 c ++ (put4 (sumF (headR a b c)) ++ List.replicate 44 0)) by unfold headR; simp only [List.append_assoc]]
  exact this
theorem rootF_16 (a b c : Int) : getF (rootF a b c) 16 = sumF (headR a b c) := by
  have hr := sumF_rng (headR a b c)
  have := getF_put (headR a b c) (List.replicate 44 0) hr.1 (by omega)
  unfold rootF
  rw [List.append_assoc]
  exact this
def IsRoot (l : List Int) : Prop := l.length = 64 ∧ getF l 4 ≤ 2147483647 ∧ getF l 8 ≤ 2147483647 ∧ l = rootF (getF l 4) (getF l 8) (getF l 12)
instance (l : List Int) : Decidable (IsRoot l) := by unfold IsRoot; infer_instance
abbrev R3 := Int × Int × Int
def unrootF (l : List Int) : Option R3 := if IsRoot l then some (getF l 4, getF l 8, getF l 12) else none
theorem unroot_root {a b c : Int} (a0 : 0 ≤ a) (a1 : a ≤ 2147483647) (b0 : 0 ≤ b) (b1 : b ≤ 2147483647) (c0 : 0 ≤ c) (c1 : c ≤ 4294967295) : unrootF (rootF a b c) = some (a, b, c) := by
  have e4 := rootF_4 (b := b) (c := c) a0 (by omega)
  have e8 := rootF_8 (a := a) (c := c) b0 (by omega)
  have e12 := rootF_12 (a := a) (b := b) c0 c1
  unfold unrootF
  rw [if_pos (show IsRoot (rootF a b c) from ⟨rootF_len _ _ _, by omega, by omega, by rw [e4, e8, e12]⟩), e4, e8, e12]
theorem take_set_in (l : List Int) {k n : Nat} (v : Int) (h : k < n) : (l.set k v).take n = (l.take n).set k v := by
  apply List.ext_getElem?
  intro j
  rw [List.getElem?_take]
  by_cases hj : j < n
  · rw [if_pos hj]
    by_cases hk : k = j
    · subst hk
      rw [List.getElem?_set, List.getElem?_set, if_pos rfl, if_pos rfl, List.length_take]
      by_cases hl : k < l.length
      · rw [if_pos hl, if_pos (by omega)]
      · rw [if_neg hl, if_neg (by omega)]
    · rw [List.getElem?_set_ne hk, List.getElem?_set_ne hk, List.getElem?_take, if_pos hj]
  · rw [if_neg hj, List.getElem?_set_ne (by omega), List.getElem?_take, if_neg hj]
theorem unroot_turned {a b c v : Int} {k : Nat} (hk : k < 20) (v0 : 0 ≤ v) (v1 : v ≤ 255) (hne : v ≠ rd (rootF a b c) k) : unrootF ((rootF a b c).set k v) = none := by
  unfold unrootF
  refine if_neg (fun h => ?_)
  obtain ⟨hl, h4, h8, he⟩ := h
  have hB := rootF_bytes a b c
  have hS := rootF_16 a b c
  have hT := rootF_take a b c
  have hL := rootF_len a b c
  rw [← hT] at hS
  generalize rootF a b c = R at *
  have hS2 : getF (R.set k v) 16 = sumF ((R.set k v).take 16) := by
    rw [he, rootF_16, rootF_take]
  by_cases h16 : k < 16
  · rw [take_set_in R v h16, show (16 : Int) = ((16 : Nat) : Int) from rfl, getF_set_other R k v 16 (.inl h16)] at hS2
    refine sumF_turn (R.take 16) k v (by rw [List.length_take]; omega) (hB.take 16) v0 v1 ?_ (hS2.symm.trans hS)
    intro e
    refine hne (e.trans ?_)
    unfold rd
    rw [List.getD_eq_getElem?_getD, List.getD_eq_getElem?_getD, List.getElem?_take, if_pos (by omega)]
  · have ht : (R.set k v).take 16 = R.take 16 := by
      apply List.ext_getElem?
      intro j
      rw [List.getElem?_take, List.getElem?_take]
      by_cases hj : j < 16
      · rw [if_pos hj, if_pos hj, List.getElem?_set_ne (by omega)]
      · rw [if_neg hj, if_neg hj]
    rw [ht] at hS2
    exact getF_set_in k 16 hB v0 v1 (by omega) (by omega) (by omega) hne (hS2.trans hS.symm)
/-- May such a root be, of so many sectors? -/
def rightR (a b c n : Int) : Bool := decide (1 ≤ a ∧ a ≤ 64 ∧ 1 ≤ b ∧ b ≤ 64 ∧ 2 + a + b ≤ n ∧ 1 ≤ c)
def pickF (n : Int) (best : R3) (l : List Int) : R3 := match unrootF l with
  | some r => if rightR r.1 r.2.1 r.2.2 n ∧ best.2.2 < r.2.2 then r else best
  | none => best
/-- The best of two sectors' roots. -/
def bestF (n : Int) (s t : List Int) : R3 := pickF n (pickF n (0, 0, 0) s) t
def homeF (a b page : Int) : Int := if page < 0 ∨ b ≤ page then -1 else wrap64 (wrap64 (2 + a) + page)
end Go.Proofs.Ytjngnigelkgekaa.Plain

/- Strings of bytes. -/
namespace Go.Proofs.Ytjngnigelkgekaa.Str
set_option linter.unusedVariables false
set_option linter.unusedSimpArgs false
open Go.RowKit Go.Proofs.YtjngnigelkgekaaW.PrintWords Go.Proofs.YtjngnigelkgekaaW.PrintLast Go.Proofs.YtjngnigelkgekaaW.PrintMore Go.Proofs.Ytjngnigelkgekaa.Kit Go.Proofs.Ytjngnigelkgekaa.Plain
abbrev U8 : Kd Int := Kd.int .u8
theorem strC {W : World} {A : Option Addr} {n c : Nat} {xs : List Int} (h : U8.C W A n xs) : (convert 30 9 (.slice A n c)).run Try.prog W = .ok (.string (strOfNums xs)) W := by
  obtain rfl : xs.length = n := h.1
  exact Kd.C_string (P := Try.prog) (c := c) Try.underlying30 Try.underlying5 Try.underlying9 h
theorem beq_str (a b : ByteArray) : (a.toList == b.toList) = decide (a = b) := by
  rw [ByteArray.toList_eq, ByteArray.toList_eq]
  by_cases h : a = b
  · subst h; simp
  · rw [decide_eq_false h]
    exact beq_eq_false_iff_ne.2 (fun h2 => h (ByteArray.ext (by rw [← Array.toList_inj]; exact h2)))
theorem str_inj {xs ys : List Int} (hx : Bytes xs) (hy : Bytes ys) (h : strOfNums xs = strOfNums ys) : xs = ys := by
  have h2 : (strOfNums xs).data.toList = (strOfNums ys).data.toList := by rw [h]
  rw [strOfNums_data, strOfNums_data] at h2
  have hl : xs.length = ys.length := by simpa using congrArg List.length h2
  apply List.ext_getElem hl
  intro i h3 h4
  have h5 : (xs.map fun n => UInt8.ofNat n.toNat)[i]? = (ys.map fun n => UInt8.ofNat n.toNat)[i]? := by rw [h2]
  rw [List.getElem?_map, List.getElem?_map, List.getElem?_eq_getElem h3, List.getElem?_eq_getElem h4, Option.map_some, Option.map_some, Option.some.injEq] at h5
  have a1 := hx xs[i] (List.getElem_mem h3)
  have a2 := hy ys[i] (List.getElem_mem h4)
  have h6 := congrArg UInt8.toNat h5
  rw [UInt8.toNat_ofNat', UInt8.toNat_ofNat'] at h6
  omega
theorem beq_bytes {xs ys : List Int} (hx : Bytes xs) (hy : Bytes ys) : ((strOfNums xs).toList == (strOfNums ys).toList) = decide (xs = ys) := by
  rw [beq_str]
  by_cases h : xs = ys
  · subst h; simp
  · rw [decide_eq_false h, decide_eq_false (fun e => h (str_inj hx hy e))]
end Go.Proofs.Ytjngnigelkgekaa.Str
