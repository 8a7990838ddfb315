/- Package sum: a number that is got. Cuts of rows of bytes. -/
import Derived.Test.YtfpkhlhojjmgiaaSumPut
namespace Go.Proofs.Ytfpkhlhojjmgiaa.Sum
set_option linter.unusedVariables false
set_option linter.unusedSimpArgs false
open Go.RowKit Go.Proofs.YtfpkhlhojjmgiaaW.PrintWords Go.Proofs.YtfpkhlhojjmgiaaW.PrintLast Go.Proofs.YtfpkhlhojjmgiaaW.PrintMore Go.Proofs.Ytfpkhlhojjmgiaa.Kit Go.Proofs.Ytfpkhlhojjmgiaa.Plain
theorem C_of8 {W : World} {A : Option Addr} {n : Nat} {l : List Int} (h : ReadsOf (Value.int .u8) (0 : Int) W A n l) : B8.C W A n l := Kd.C_of_reads (d := (0 : Int)) (h1 := fun _ => rfl) h
theorem of_C8 {W : World} {A : Option Addr} {n : Nat} {l : List Int} (h : B8.C W A n l) : ReadsOf (Value.int .u8) (0 : Int) W A n l := Kd.reads_of_C (d := (0 : Int)) h
/-- A cut 'x[a:b]' of bytes. -/
theorem mid8 {A : Option Addr} {n c a b : Nat} {l : List Int} {J K : Int} (hJ : J = (a : Int)) (hK : K = (b : Int)) (hl : l.length = n) (hab : a ≤ b) (hb : b ≤ n) (hc : n ≤ c) :
    ∃ A', (∀ W : World, (Instr.slice 22 (.slice A n c) (some (.int .i64 J)) (some (.int .i64 K)) none).run Try.prog W = .ok (.slice A' (b - a) (c - a)) W) ∧ ∀ W : World, B8.C W A n l → B8.C W A' (b - a) ((l.take b).drop a) := by
  subst hJ hK hl
  obtain ⟨i, hi, hz⟩ := Option.map_eq_some_iff.1 infoB8
  simp only [Prod.mk.injEq] at hz
  obtain ⟨A', h1, h2, _⟩ := print_mid_of (P := Try.prog) (Value.int .u8) (0 : Int) 22 5 .i64 .i64 Try.underlying22 hi hz.2.1 A c l (a : Int) (b : Int) (by omega) (by omega) (by omega) hc
  have hlen : ((l.take b).drop a).length = b - a := by rw [List.length_drop, List.length_take]; omega
  simp only [Int.toNat_natCast, hlen] at h1 h2
  exact ⟨A', h1, fun W h => C_of8 (h2 W (of_C8 h))⟩
/-- A cut 'x[a:]' of bytes. -/
theorem drop8 {A : Option Addr} {n c a : Nat} {l : List Int} {J : Int} (hJ : J = (a : Int)) (hl : l.length = n) (ha : a ≤ n) (hc : n ≤ c) :
    ∃ A', (∀ W : World, (Instr.slice 22 (.slice A n c) (some (.int .i64 J)) none none).run Try.prog W = .ok (.slice A' (n - a) (c - a)) W) ∧ ∀ W : World, B8.C W A n l → B8.C W A' (n - a) (l.drop a) := by
  subst hJ hl
  obtain ⟨i, hi, hz⟩ := Option.map_eq_some_iff.1 infoB8
  simp only [Prod.mk.injEq] at hz
  obtain ⟨A', h1, h2, _⟩ := print_drop_of (P := Try.prog) (Value.int .u8) (0 : Int) 22 5 .i64 Try.underlying22 hi hz.2.1 A c l (a : Int) (by omega) (by omega) hc
  simp only [Int.toNat_natCast, List.length_drop] at h1 h2
  exact ⟨A', h1, fun W h => C_of8 (h2 W (of_C8 h))⟩
/-- A cut 'x[:b]' of bytes. -/
theorem take8 {A : Option Addr} {n c b : Nat} {l : List Int} {K : Int} (hK : K = (b : Int)) (hl : l.length = n) (hb : b ≤ n) (hc : n ≤ c) :
    (∀ W : World, (Instr.slice 22 (.slice A n c) none (some (.int .i64 K)) none).run Try.prog W = .ok (.slice A b c) W) ∧ ∀ W : World, B8.C W A n l → B8.C W A b (l.take b) := by
  subst hK hl
  obtain ⟨i, hi, hz⟩ := Option.map_eq_some_iff.1 infoB8
  simp only [Prod.mk.injEq] at hz
  obtain ⟨h1, h2, _⟩ := print_take_of (P := Try.prog) (Value.int .u8) (0 : Int) 22 5 .i64 Try.underlying22 hi hz.2.1 A c l (b : Int) (by omega) (by omega) hc
  have hlen : (l.take b).length = b := by rw [List.length_take]; omega
  simp only [Int.toNat_natCast, hlen] at h1 h2
  exact ⟨h1, fun W h => C_of8 (h2 W (of_C8 h))⟩
def accF (l : List Int) : Int := l.foldl (fun n c => n * 256 + c) 0
theorem accF_snoc (l : List Int) (x : Int) : accF (l ++ [x]) = accF l * 256 + x := by unfold accF; rw [List.foldl_append]; rfl
theorem accF_in {l : List Int} (h : Bytes l) (h3 : l.length ≤ 3) : 0 ≤ accF l ∧ accF l < 16777216 := by
  match l, h3 with
  | [], _ => unfold accF; simp
  | [a], _ => have := h a (by simp); simp [accF]; omega
  | [a, b], _ => have := h a (by simp); have := h b (by simp); simp [accF]; omega
  | [a, b, c], _ => have := h a (by simp); have := h b (by simp); have := h c (by simp); simp [accF]; omega
theorem getF_acc {l : List Int} {a : Nat} (h : a + 4 ≤ l.length) : accF ((l.take (a + 4)).drop a) = getF l (a : Int) := by
  have hl : ((l.take (a + 4)).drop a).length = 4 := by rw [List.length_drop, List.length_take]; omega
  have he : (l.take (a + 4)).drop a = [rd l (a : Int), rd l ((a : Int) + 1), rd l ((a : Int) + 2), rd l ((a : Int) + 3)] := by
    apply List.ext_getElem?
    intro j
    rw [List.getElem?_drop, List.getElem?_take]
    unfold rd
    match j with
    | 0 => rw [if_pos (by omega), List.getElem?_eq_getElem (by omega)]; simp [List.getElem?_eq_getElem (show a < l.length by omega)]
    | 1 => rw [if_pos (by omega), List.getElem?_eq_getElem (by omega)]; simp [show ((a : Int) + 1).toNat = a + 1 by omega, List.getElem?_eq_getElem (show a + 1 < l.length by omega)]
    | 2 => rw [if_pos (by omega), List.getElem?_eq_getElem (by omega)]; simp [show ((a : Int) + 2).toNat = a + 2 by omega, List.getElem?_eq_getElem (show a + 2 < l.length by omega)]
    | 3 => rw [if_pos (by omega), List.getElem?_eq_getElem (by omega)]; simp [show ((a : Int) + 3).toNat = a + 3 by omega, List.getElem?_eq_getElem (show a + 3 < l.length by omega)]
    | j + 4 => rw [if_neg (by omega)]; simp
  rw [he]
  unfold getF
  rw [if_neg (by omega)]
  simp [accF]
set_option maxHeartbeats 800000 in
theorem get_out {A : Option Addr} {n c : Nat} {l : List Int} {a : Int} {w : World} (hr : B8.C w A n l) (ha : a < 0 ∨ (l.length : Int) - 4 < a) (ha2 : -9223372036854775808 ≤ a ∧ a ≤ 9223372036854775807) :
    Calls Try.prog 49 #[.slice A n c, .int .i64 a] w fun e w' => e = .returned (.int .u32 (getF l a)) ∧ w = w' := by
  obtain rfl : l.length = n := hr.1
  have hm : l.length ≤ 9223372036854775807 := hr.2.1
  have hg : getF l a = 0 := by unfold getF; rw [if_pos ha]
  have HG := Aside0.mk hg
  clear hr hg
  by_cases h0 : a < 0
  · clear ha
    go_enter Try.func49, Try.ntmps49
    go_wp2
    go_ret
    exact ⟨by rw [HG.out]; first | rfl | (simp; done), rfl⟩
  · have h1 : (l.length : Int) - 4 < a := by omega
    clear ha
    go_enter Try.func49, Try.ntmps49
    go_wp2
    go_ret
    exact ⟨by rw [HG.out]; first | rfl | (simp; done), rfl⟩
set_option maxHeartbeats 800000 in
theorem get_in {A : Option Addr} {n c : Nat} {l : List Int} {a : Nat} {w : World} (hr : B8.C w A n l) (hc : n ≤ c) (hb : Bytes l) (ha : a + 4 ≤ n) :
    Calls Try.prog 49 #[.slice A n c, .int .i64 (a : Int)] w fun e w' => e = .returned (.int .u32 (getF l (a : Int))) ∧ w = w' := by
  obtain rfl : l.length = n := hr.1
  have hm : l.length ≤ 9223372036854775807 := hr.2.1
  obtain ⟨A', hcut, hC⟩ := mid8 (A := A) (c := c) (l := l) (a := a) (b := a + 4) (J := (a : Int)) (K := (a : Int) + 4) rfl (by omega) rfl (by omega) ha hc
  rw [Nat.add_sub_cancel_left] at hcut
  have HR := Aside0.mk (by have := hC w hr; rwa [Nat.add_sub_cancel_left] at this)
  have HB : Aside0 (Bytes ((l.take (a + 4)).drop a)) := ⟨(hb.take _).drop _⟩
  have HG := Aside0.mk (getF_acc ha)
  have hl4 : ((l.take (a + 4)).drop a).length = 4 := by rw [List.length_drop, List.length_take]; omega
  generalize (l.take (a + 4)).drop a = q at *
  have HL := Aside0.mk hl4
  have h1 : ¬ (l.length : Int) - 4 < (a : Int) := by omega
  clear hr hC hb hl4
  go_enter Try.func49, Try.ntmps49
  go_wp2_with fail
  go_loopg [5, 23] 4 (fun k s p wr => ∃ j : Nat, p = .int .i64 (j : Int) ∧ j + k = 4 ∧ s = .int .u32 (accF (q.take j)) ∧ w = wr)
  case atStart => exact ⟨0, rfl, rfl, rfl, rfl⟩
  case round =>
    obtain ⟨j, rfl, hjk, rfl, rfl⟩ := hrel
    have AK := Aside0.mk hjk
    by_cases hj : j < 4
    · obtain ⟨ad, hA, hcc⟩ := Kd.at_int HR.out (j : Int) (by omega) (by omega)
      subst hA
      rw [Int.toNat_natCast] at hcc
      have AT := Aside0.mk (take_snoc (l := q) (j := j) (by rw [HL.out]; exact hj))
      have hx := HB.out.at (j : Int)
      have hacc := accF_in (HB.out.take j) (by rw [List.length_take]; omega)
      generalize rd q (j : Int) = x at *
      have hsn := Aside0.mk (accF_snoc (q.take j) x)
      generalize accF (q.take j) = y at *
      have hor : Go.bits .or .u32 (y * 256) x = y * 256 + x := by
        have := shift_in hacc.1 hacc.2 hx.1 hx.2
        rwa [show y * 256 % 4294967296 = y * 256 by omega, show x % 4294967296 = x by omega] at this
      have HO := Aside0.mk hor
      clear hjk hor
      go_wp2_with fail
      go_roundg (gk - 1)
      case measure => have := AK.out; omega
      case rel => exact ⟨j + 1, by go_num, by have := AK.out; omega, by rw [AT.out, hsn.out, ← HO.out], rfl⟩
    · have hjn : j = 4 := by omega
      subst hjn
      have hq : q.take 4 = q := List.take_of_length_le (by rw [HL.out]; exact Nat.le_refl _)
      rw [hq]
      clear hjk AK hq
      go_wp2_with fail
      go_ret
      exact ⟨by rw [← HG.out]; first | rfl | (simp; done), rfl⟩
theorem get_ {A : Option Addr} {n c : Nat} {l : List Int} {a : Int} {w : World} (hr : B8.C w A n l) (hc : n ≤ c) (hb : Bytes l) (ha2 : -9223372036854775808 ≤ a ∧ a ≤ 9223372036854775807) :
    Calls Try.prog 49 #[.slice A n c, .int .i64 a] w fun e w' => e = .returned (.int .u32 (getF l a)) ∧ w = w' := by
  have hl := hr.1
  by_cases ha : a < 0 ∨ (l.length : Int) - 4 < a
  · exact get_out hr ha ha2
  · obtain ⟨k, rfl⟩ : ∃ k : Nat, a = (k : Int) := ⟨a.toNat, by omega⟩
    exact get_in hr hc hb (by omega)
theorem rd_app_right {l r : List Int} {j : Nat} (h : j < r.length) : rd (l ++ r) ((l.length : Int) + (j : Int)) = rd r (j : Int) := by
  unfold rd
  rw [show ((l.length : Int) + (j : Int)).toNat = l.length + j by omega, Int.toNat_natCast, List.getD_eq_getElem?_getD, List.getD_eq_getElem?_getD, List.getElem?_append_right (by omega), Nat.add_sub_cancel_left]
theorem getF_put (l r : List Int) {m : Int} (h0 : 0 ≤ m) (h1 : m ≤ 4294967295) : getF (l ++ (put4 m ++ r)) (l.length : Int) = m := by
  unfold getF
  have h4 : (put4 m).length = 4 := rfl
  rw [if_neg (by simp only [List.length_append, h4]; omega)]
  have e0 := rd_app_right (l := l) (r := put4 m ++ r) (j := 0) (by simp only [List.length_append, h4]; omega)
  have e1 := rd_app_right (l := l) (r := put4 m ++ r) (j := 1) (by simp only [List.length_append, h4]; omega)
  have e2 := rd_app_right (l := l) (r := put4 m ++ r) (j := 2) (by simp only [List.length_append, h4]; omega)
  have e3 := rd_app_right (l := l) (r := put4 m ++ r) (j := 3) (by simp only [List.length_append, h4]; omega)
  simp only [Int.natCast_zero, Int.add_zero, Int.natCast_one] at e0 e1
  rw [show ((l.length : Int) + 2) = (l.length : Int) + ((2 : Nat) : Int) from rfl, show ((l.length : Int) + 3) = (l.length : Int) + ((3 : Nat) : Int) from rfl, e0, e1, e2, e3]
  simp [rd, put4]
  omega
end Go.Proofs.Ytfpkhlhojjmgiaa.Sum
