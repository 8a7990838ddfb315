/- Walks of functions that FrameTells reaches, each beside the Lean function that tells what it comes to. Written by a program of this session, out of the program's print and of contracts proved by hand. -/
import Derived.Test.YtkcinjimjehcnaaOFrameTellsx0
import Derived.Test.YtkcinjimjehcnaaOFrameTellsx1
import Derived.Test.YtkcinjimjehcnaaOFrameTellsx2
namespace Go.Proofs.Ytkcinjimjehcnaa.OFrameTells
open Go.RowKit Go.Proofs.YtkcinjimjehcnaaW.PrintWords Go.Proofs.YtkcinjimjehcnaaW.PrintLast Go.Proofs.YtkcinjimjehcnaaW.PrintMore
attribute [local go_sem] max2_int min2_int max_two min_two max_three min_three max_four min_four   -- for this text's walks alone
set_option linter.unusedVariables false
set_option linter.unusedSimpArgs false

/-! ### engramlaw3_known: function 16 -/
/-- A literal's row, in the block that it was laid into (whatever its mark): it reads as its numbers. -/
theorem lit_C (w : World) (k : IntKind) (C : Array Value) (t : TypeId) (fr : Nat × Nat) (xs : List Int) (hC : C = (xs.map (Value.int k)).toArray) (hn : xs.length ≤ 9223372036854775807) :
    Kd.C (Kd.int k) (w.alloc (.cells C t fr)) (some ⟨w.heap.size, 0, none⟩) xs.length xs := by
  subst hC
  refine Kd.C_of_reads (enc := Value.int k) (d := 0) (h1 := fun _ => rfl) ⟨rfl, hn, fun _ => ⟨_, rfl, fun j hj => ?_⟩⟩
  rw [add_plain, World.cell?_alloc_mark]
  simp [List.getD_eq_getElem?_getD, hj]
def engramlaw3_known.f : Option (Bool) := some true
set_option maxHeartbeats 1000000 in
set_option maxRecDepth 100000 in
theorem engramlaw3_known.calls (r : Bool) (w : World) (h : engramlaw3_known.f = some r) : Calls Try.prog 16 #[] w fun e w' => e = .returned (.bool r) ∧ Below w.heap.size w w' := by
  obtain rfl : true = r := Option.some.inj h
  clear h
  have A1 := Aside0.mk (show frame_Bytes.f 50 3 0 [97, 98] = some [0, 0, 0, 3, 0, 0, 0, 0, 0, 0, 0, 2, 97, 98, 71, 227, 130, 97] by kernel_rfl)
  have A2 := Aside0.mk (show frame_Bytes.f 50 3 1 [] = some [0, 0, 0, 3, 0, 0, 0, 1, 0, 0, 0, 0, 197, 9, 103, 159] by kernel_rfl)
  have A4 := Aside0.mk (show frame_Scan.f 50 [0, 0, 0, 3, 0, 0, 0, 0, 0, 0, 0, 2, 97, 98, 71, 227, 130, 97, 0, 0, 0, 3, 0, 0, 0, 1, 0, 0, 0, 0, 197, 9, 103, 159] 3 = some ([[97, 98], []], 34) by kernel_rfl)
  have A5 := Aside0.mk (show frame_Read.f 50 [0, 0, 0, 3, 0, 0, 0, 0, 0, 0, 0, 2, 97, 98, 71, 227, 130, 97, 0, 0, 0, 3, 0, 0, 0, 1, 0, 0, 0, 0, 197, 9, 103, 159] 4 0 = some ([], 0, false) by kernel_rfl)
  have A6 := Aside0.mk (show frame_Bytes.f 50 0 0 [] = some [0, 0, 0, 0, 0, 0, 0, 0, 0, 0, 0, 0, 226, 60, 98, 181] by kernel_rfl)
  have kc := fun (w : World) (C : Array Value) (n c : Nat) => Lib.run_convert_bytes_const (P := Try.prog) w 22 5 C n c Try.underlying22 Try.underlying5
  go_enter Try.func16, Try.ntmps16
  go_wp2_with fail
  refine (frame_Bytes.calls 50 3 0 _ _ [97, 98] _ _ ?s1 ?s2 A1.out).mono ?_
  case s1 => exact lit_C _ _ _ _ _ _ rfl (by decide)
  case s2 => exact Nat.le_refl _
  rintro e w1 ⟨v1, rfl, ho1, hb1⟩
  clear kc
  go_wp2_with fail
  refine (frame_Bytes.calls 50 3 1 none 0 [] _ _ ?s1 ?s2 A2.out).mono ?_
  case s1 => exact Kd.C_nil _ _
  case s2 => exact Nat.le_refl _
  rintro e w2 ⟨v2, rfl, ho2, hb2⟩
  obtain ⟨Ao2, co2, eo2⟩ := Kd.R_slice ho2
  subst eo2
  have hb02 : Below w.heap.size w w2 := ((((Below.refl _ _).alloc (Nat.le_refl _) _).trans (hb1.mono (by simp))).trans (hb2.mono (by have := hb1.size; simp at this; omega)))
  have ho12 := Kd.R_lower (Kd.R_below ho1 hb2) (base' := w.heap.size) (by simp)
  have HR2 := Aside0.mk (Kd.R_reads' ho2).2.2
  have HO12 := Aside0.mk ho12
  have HB02 := Aside0.mk hb02
  clear ho1 ho12 ho2 hb02 hb1 hb2
  go_wp2_with ((with_reducible refine gate_builtin (b := .append) (xs := #[.tmp 9, .tmp 10]) rfl ?_); at_builtin; refine Kd.R_append_rows (Kd.int .u8) (w0 := w) w.heap.size rfl (.tmp 9) (.tmp 10) 22 5 (.int .u8 0) 1 rfl Try.underlying22 info5 rfl (by decide) (by omega) v1 _ _ _ _ _ (fun _ => True) (fun _ => False) rfl rfl HO12.out HR2.out (fun _ _ h => h) (fun _ h => h.elim) (fun _ _ => trivial) HB02.out HB02.out.size (by simp) ?_; intro v3 w3 ho3 hb3 hg3 hat3; have HO3 := Aside0.mk ho3; have HB3 := Aside0.mk hb3; clear ho3 hb3 hg3 hat3)
  obtain ⟨A3, c3, e3⟩ := Kd.R_slice HO3.out
  subst e3
  have HR3 := Aside0.mk (Kd.R_reads' HO3.out)
  refine (frame_Scan.calls 50 A3 c3 _ 3 _ _ _ ?s1 ?s2 A4.out).mono ?_
  case s1 => exact HR3.out.2.2
  case s2 => exact HR3.out.2.1
  rintro e w4 ⟨v4, rfl, ho4, hb4⟩
  obtain ⟨A7, c7, e7⟩ := Kd.V_slice (Kd.S_V (base' := 0) ho4)
  subst e7
  have HR4 := Aside0.mk (Kd.S_reads' ho4)
  have HR5 := Aside0.mk (Kd.C_below HR3.out.2.2 hb4)
  have HB4 := Aside0.mk (below_step HB3.out hb4)
  clear ho4 hb4
  go_wp2_with fail
  refine (frame_Read.calls 50 A3 c3 _ 4 0 _ _ _ _ ?s1 ?s2 A5.out).mono ?_
  case s1 => exact HR5.out
  case s2 => exact HR3.out.2.1
  rintro e w5 ⟨v5, rfl, ho5, hb5⟩
  obtain ⟨A8, c8, e8⟩ := Kd.R_slice ho5
  subst e8
  have HB5 := Aside0.mk (below_step HB4.out hb5)
  have hC := Kd.C_below HR4.out.2.2 hb5
  obtain ⟨ad, A9, c9, rfl, hcell, h9, hC9⟩ := at_L1 hC 0 (by decide) (by decide)
  have hs := Kd.C_string (P := Try.prog) (c := c9) Try.underlying22 Try.underlying5 Try.underlying9 hC9
  have hcell' : w5.cell? (ad.add 0) = some (.slice A9 2 c9) := hcell
  have hcell2 : w5.cell? ad = some (.slice A9 2 c9) := by
    have e0 : ad.add 0 = ad := by unfold Addr.add; split <;> simp_all
    rw [← e0]; exact hcell
  have hs' : (convert 22 9 (.slice A9 2 c9)).run Try.prog w5 = .ok (.string (strOfNums [97, 98])) w5 := hs
  have hstr : (strOfNums [97, 98]).toList = ([97, 98] : List UInt8) := by kernel_rfl
  clear ho5 hb5 hC hcell hs h9 hC9
  go_wp2_with fail
  clear hcell2 hcell' hs' hstr
  refine (frame_Bytes.calls 50 0 0 none 0 [] _ _ ?s1 ?s2 A6.out).mono ?_
  case s1 => exact Kd.C_nil _ _
  case s2 => exact Nat.le_refl _
  rintro e w6 ⟨v6, rfl, ho6, hb6⟩
  obtain ⟨A10, c10, e10⟩ := Kd.R_slice ho6
  subst e10
  have HB6 := Aside0.mk (below_step HB5.out hb6)
  clear ho6 hb6
  go_wp2_with fail
  go_ret
  exact ⟨by first | rfl | (simp; done), HB6.out⟩

/-! ### engrambook_Within: function 17 -/
def engrambook_Within.j0 : Nat → Int → Int → Int → Bool → Option (Int)
  | 0, _, _, _, _ => none
  | k + 1, x0, x1, x2, x14 => if x14 = true then (some x0) else (if (wrap64 ((wrap64 (x2 - x1)) + 1)) = 0 then (none) else (if (Int.tmod x0 (wrap64 ((wrap64 (x2 - x1)) + 1))) < 0 then (some (wrap64 (x1 + (wrap64 ((wrap64 ((wrap64 ((Int.tmod x0 (wrap64 ((wrap64 (x2 - x1)) + 1))) + x2)) - x1)) + 1))))) else (some (wrap64 (x1 + (Int.tmod x0 (wrap64 ((wrap64 (x2 - x1)) + 1))))))))
def engrambook_Within.f (k : Nat) (a0 : Int) (a1 : Int) (a2 : Int) : Option (Int) := if a0 ≥ a1 then (engrambook_Within.j0 k a0 a1 a2 (decide (a0 ≤ a2))) else (engrambook_Within.j0 k a0 a1 a2 false)
theorem engrambook_Within.mono_l : ∀ k, (∀ y0 y1 y2 y3, LeO (engrambook_Within.j0 k y0 y1 y2 y3) (engrambook_Within.j0 (k + 1) y0 y1 y2 y3))
  | 0 => fun _ _ _ _ r h => by simp [engrambook_Within.j0] at h
  | k + 1 => by
    have ih0 := engrambook_Within.mono_l k
    · intro y0 y1 y2 y3
      unfold engrambook_Within.j0
      repeat' first
      | (with_reducible exact ih0 _ _ _ _)
      | (with_reducible exact LeO.refl _)
      | (with_reducible exact LeO.none _)
      | (with_reducible refine LeO.ite ?_ ?_)
      | (with_reducible refine LeO.bind ?_ (fun _ => ?_))
      | exact ih0 _ _ _ _
      | exact LeO.none _
      | refine LeO.ite ?_ ?_
      | refine LeO.bind ?_ (fun _ => ?_)
theorem engrambook_Within.mono : ∀ a0 a1 a2 k, LeO (engrambook_Within.f k a0 a1 a2) (engrambook_Within.f (k + 1) a0 a1 a2) := by
  intro a0 a1 a2 k
  have ih0 := engrambook_Within.mono_l k
  unfold engrambook_Within.f
  repeat' first
      | (with_reducible exact ih0 _ _ _ _)
      | (with_reducible exact LeO.refl _)
      | (with_reducible exact LeO.none _)
      | (with_reducible refine LeO.ite ?_ ?_)
      | (with_reducible refine LeO.bind ?_ (fun _ => ?_))
      | exact ih0 _ _ _ _
      | exact LeO.none _
      | refine LeO.ite ?_ ?_
      | refine LeO.bind ?_ (fun _ => ?_)
set_option maxHeartbeats 8000000 in
set_option maxRecDepth 100000 in
theorem engrambook_Within.calls (k : Nat) (a0 : Int) (a1 : Int) (a2 : Int) (r : Int) (w : World) (h : engrambook_Within.f k a0 a1 a2 = some r) :
    Calls Try.prog 17 #[.int .i64 a0, .int .i64 a1, .int .i64 a2] w fun e w' => e = .returned (.int .i64 r) ∧ Drawn0 w w' := by
  have H : (if a0 ≥ a1 then (engrambook_Within.j0 k a0 a1 a2 (decide (a0 ≤ a2))) else (engrambook_Within.j0 k a0 a1 a2 false)) = some r := h
  clear h
  have HC4 := Aside0.mk H
  clear H
  go_enter Try.func17, Try.ntmps17
  go_upto_region 1 with (fail)
  go_cut [14] (fun v14 wc => ∃ (kq : Nat) (x14_3 : Bool), v14 = .bool x14_3 ∧ Aside0 (engrambook_Within.j0 kq a0 a1 a2 x14_3 = some r) ∧ Aside0 (kq ≤ k) ∧ Drawn0 w wc)
  case first =>
    have H := HC4.out
    clear HC4
    by_cases c5 : a0 ≥ a1
    · rw [if_pos c5] at H
      have c5b0 : decide (a1 ≤ a0) = true := decide_eq_true c5
      clear c5
      (first | rw [c5b0] | (simp only [i64_w, i32_w]; rw [c5b0]) | skip)
      have H' := Aside0.mk H
      clear H
      go_wp2
      go_meet
      case rel => exact ⟨_, (decide (a0 ≤ a2)), (by first | rfl | (simp; done) | (simp [*]; done)), H', ⟨by first | omega | exact Nat.le_refl _⟩, by repeat (first | exact Drawn0.refl _ | apply Drawn0.step)⟩
    · rw [if_neg c5] at H
      have c5b0 : decide (a1 ≤ a0) = false := decide_eq_false c5
      clear c5
      (first | rw [c5b0] | (simp only [i64_w, i32_w]; rw [c5b0]) | skip)
      have H' := Aside0.mk H
      clear H
      go_wp2
      go_meet
      case rel => exact ⟨_, (false), (by first | rfl | (simp; done) | (simp [*]; done)), H', ⟨by first | omega | exact Nat.le_refl _⟩, by repeat (first | exact Drawn0.refl _ | apply Drawn0.step)⟩
  case rest =>
    clear HC4
    try clear c1
    try clear p2
    try clear c5
    try clear c5b0
    obtain ⟨kq, x14_3, rfl, HA, HJ3, ⟨mc3, rfl⟩⟩ := hcut
    cases kq with
    | zero => exact absurd HA.out (by simp [engrambook_Within.j0])
    | succ kj3 =>
      have H := HA.out
      clear HA
      simp only [engrambook_Within.j0] at H
      by_cases c6 : x14_3 = true
      · subst c6
        have H1 : (some a0) = some r := by rw [if_pos rfl] at H; exact H
        clear H
        have H := H1
        clear H1
        obtain rfl := Option.some.inj H
        go_wp2
        go_ret
        exact ⟨by first | rfl | (simp; done) | (simp [*]; done), by repeat (first | exact Drawn0.refl _ | apply Drawn0.step)⟩
      · replace c6 := Bool.eq_false_iff.mpr c6
        subst c6
        have H1 : (if (wrap64 ((wrap64 (a2 - a1)) + 1)) = 0 then (none) else (if (Int.tmod a0 (wrap64 ((wrap64 (a2 - a1)) + 1))) < 0 then (some (wrap64 (a1 + (wrap64 ((wrap64 ((wrap64 ((Int.tmod a0 (wrap64 ((wrap64 (a2 - a1)) + 1))) + a2)) - a1)) + 1))))) else (some (wrap64 (a1 + (Int.tmod a0 (wrap64 ((wrap64 (a2 - a1)) + 1)))))))) = some r := by rw [if_neg (show ¬ (false = true) by decide)] at H; exact H
        clear H
        have H := H1
        clear H1
        by_cases c7 : (wrap64 ((wrap64 (a2 - a1)) + 1)) = 0
        · rw [if_pos c7] at H
          exact absurd H (by simp)
        · rw [if_neg c7] at H
          have c7b0 : ((wrap64 ((wrap64 (a2 - a1)) + 1)) == 0) = false := beq_eq_false_iff_ne.mpr c7
          have c7b1 : ((wrap64 ((wrap64 (a2 - a1)) + 1)) != 0) = true := bne_iff_ne.mpr c7
          by_cases c8 : (Int.tmod a0 (wrap64 ((wrap64 (a2 - a1)) + 1))) < 0
          · rw [if_pos c8] at H
            have c8b0 : decide ((Int.tmod a0 (wrap64 ((wrap64 (a2 - a1)) + 1))) < 0) = true := decide_eq_true c8
            clear c8
            obtain rfl := Option.some.inj H
            go_wp2
            go_ret
            exact ⟨by first | rfl | (simp; done) | (simp [*]; done), by repeat (first | exact Drawn0.refl _ | apply Drawn0.step)⟩
          · rw [if_neg c8] at H
            have c8b0 : decide ((Int.tmod a0 (wrap64 ((wrap64 (a2 - a1)) + 1))) < 0) = false := decide_eq_false c8
            clear c8
            obtain rfl := Option.some.inj H
            go_wp2
            go_ret
            exact ⟨by first | rfl | (simp; done) | (simp [*]; done), by repeat (first | exact Drawn0.refl _ | apply Drawn0.step)⟩

-- NOT PRINTED: function 4 (engramlaw3_FrameTells)

end Go.Proofs.Ytkcinjimjehcnaa.OFrameTells
