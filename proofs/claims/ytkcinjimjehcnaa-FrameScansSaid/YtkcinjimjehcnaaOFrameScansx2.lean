/- Walks of functions that FrameScans reaches, each beside the Lean function that tells what it comes to. Written by a program of this session, out of the program's print and of contracts proved by hand. -/
import Derived.Test.YtkcinjimjehcnaaOFrameScansx0
import Derived.Test.YtkcinjimjehcnaaOFrameScansx1
namespace Go.Proofs.Ytkcinjimjehcnaa.OFrameScans
open Go.RowKit Go.Proofs.YtkcinjimjehcnaaW.PrintWords Go.Proofs.YtkcinjimjehcnaaW.PrintLast Go.Proofs.YtkcinjimjehcnaaW.PrintMore
attribute [local go_sem] max2_int min2_int max_two min_two max_three min_three max_four min_four   -- for this text's walks alone
set_option linter.unusedVariables false
set_option linter.unusedSimpArgs false

/-! ### frame_Scan: function 20 -/
def frame_Scan.l0 : Nat → List Int → Int → List (List Int) → Int → Option ((List (List Int)) × Int)
  | 0, _, _, _, _ => none
  | k + 1, x0, x1, x6, x7 => if 0 ≤ x7 then (if x7 ≤ (x0.length : Int) then ((frame_Read.f k (x0.drop (x7 : Int).toNat) x1 (((x6.length : Int)) % 4294967296)).bind fun bt141 => (if bt141.2.2 = true then (if x6.length < 5864062014805 then (frame_Scan.l0 k x0 x1 (x6 ++ [bt141.1]) (wrap64 (x7 + bt141.2.1))) else (none)) else (some (x6, x7)))) else (none)) else (none)
def frame_Scan.f (k : Nat) (l0 : List Int) (a1 : Int) : Option ((List (List Int)) × Int) := frame_Scan.l0 k l0 a1 ([] : List (List Int)) 0
theorem frame_Scan.mono_l : ∀ k, (∀ y0 y1 y2 y3, LeO (frame_Scan.l0 k y0 y1 y2 y3) (frame_Scan.l0 (k + 1) y0 y1 y2 y3))
  | 0 => fun _ _ _ _ r h => by simp [frame_Scan.l0] at h
  | k + 1 => by
    have ih0 := frame_Scan.mono_l k
    · intro y0 y1 y2 y3
      unfold frame_Scan.l0
      repeat' first
      | (with_reducible exact ih0 _ _ _ _)
      | (with_reducible exact frame_Read.mono _ _ _ _)
      | (with_reducible exact LeO.refl _)
      | (with_reducible exact LeO.none _)
      | (with_reducible refine LeO.ite ?_ ?_)
      | (with_reducible refine LeO.bind ?_ (fun _ => ?_))
      | exact ih0 _ _ _ _
      | exact frame_Read.mono _ _ _ _
      | exact LeO.none _
      | refine LeO.ite ?_ ?_
      | refine LeO.bind ?_ (fun _ => ?_)
theorem frame_Scan.mono : ∀ a0 a1 k, LeO (frame_Scan.f k a0 a1) (frame_Scan.f (k + 1) a0 a1) := by
  intro a0 a1 k
  have ih0 := frame_Scan.mono_l k
  unfold frame_Scan.f
  repeat' first
      | (with_reducible exact ih0 _ _ _ _)
      | (with_reducible exact frame_Read.mono _ _ _ _)
      | (with_reducible exact LeO.refl _)
      | (with_reducible exact LeO.none _)
      | (with_reducible refine LeO.ite ?_ ?_)
      | (with_reducible refine LeO.bind ?_ (fun _ => ?_))
      | exact ih0 _ _ _ _
      | exact frame_Read.mono _ _ _ _
      | exact LeO.none _
      | refine LeO.ite ?_ ?_
      | refine LeO.bind ?_ (fun _ => ?_)
set_option maxHeartbeats 8000000 in
set_option maxRecDepth 100000 in
theorem frame_Scan.calls (k : Nat) (A0 : Option Addr) (c0 : Nat) (l0 : List Int) (a1 : Int) (r1 : List (List Int)) (r2 : Int) (w : World) (hr0 : Kd.C (Kd.int .u8) w A0 l0.length l0) (hc0 : l0.length ≤ c0) (h : frame_Scan.f k l0 a1 = some (r1, r2)) :
    Calls Try.prog 20 #[.slice A0 l0.length c0, .int .u32 a1] w fun e w' => ∃ v0_ : Value, e = .returned (.tuple #[v0_, .int .i64 r2]) ∧ Kd.S (Kd.slice 5 (Kd.int .u8)) 22 w' w.heap.size (fun _ => True) v0_ r1 ∧ Below w.heap.size w w' := by
  have HR0 := Aside0.mk hr0
  have HC0 := Aside0.mk hc0
  clear hr0 hc0
  have HB := Aside0.mk (Below.refl w.heap.size w)
  have H : (frame_Scan.l0 k l0 a1 ([] : List (List Int)) 0) = some (r1, r2) := h
  clear h
  have H' := Aside0.mk H
  clear H
  go_enter Try.func20, Try.ntmps20
  go_wp2
  go_loopg [6, 7] k (fun kq v6 v7 w' => ∃ (x6_1 : List (List Int)) (x7_1 : Int), v7 = .int .i64 x7_1 ∧ Aside0 (frame_Scan.l0 kq l0 a1 x6_1 x7_1 = some (r1, r2)) ∧ Aside0 (kq ≤ k) ∧ Aside0 (Kd.S (Kd.slice 5 (Kd.int .u8)) 22 w' w.heap.size (fun _ => True) v6 x6_1) ∧ Aside0 (Below w.heap.size w w'))
  case atStart => exact ⟨(([] : List (List Int))), (0), (by first | rfl | (simp; done) | (simp [*]; done)), H', ⟨Nat.le_refl _⟩, ⟨by first | exact Kd.S_nil _ _ _ _ _ | exact Kd.N_nil _ _ _ _ _ | exact Kd.V_nil _ _ _ _ _ | exact Kd.Q_nil _ _ _ _ _ | exact Kd.R_nil _ _ _ _ _⟩, ⟨by repeat (first | (with_reducible first | exact HB.out | apply below_alloc | apply pw_below_drewN | apply below_drew1) | exact HB.out)⟩⟩
  case round =>
    clear H'
    try clear c2
    try clear p2
    obtain ⟨x6_1, x7_1, rfl, HA, HK1, HO_6, HB⟩ := hrel
    cases gk with
    | zero => exact absurd HA.out (by simp [frame_Scan.l0])
    | succ k1 =>
      have H := HA.out
      clear HA
      simp only [frame_Scan.l0] at H
      by_cases c3 : 0 ≤ x7_1
      · rw [if_pos c3] at H
        have c3b0 := eq_true c3
        have c3b1 : decide (0 ≤ x7_1) = true := decide_eq_true c3
        clear c3
        by_cases c4 : x7_1 ≤ (l0.length : Int)
        · rw [if_pos c4] at H
          have c4b0 := eq_true c4
          have c4b1 : decide (x7_1 ≤ (l0.length : Int)) = true := decide_eq_true c4
          clear c4
          replace H := Option.bind_eq_some_iff.mp H
          obtain ⟨⟨t141, t142, t143⟩, A50, H⟩ := H
          replace H : (if t143 = true then (if x6_1.length < 5864062014805 then (frame_Scan.l0 k1 l0 a1 (x6_1 ++ [t141]) (wrap64 (x7_1 + t142))) else (none)) else (some (x6_1, x7_1))) = some (r1, r2) := H
          have A5 := Aside0.mk A50
          clear A50
          by_cases c6 : t143 = true
          · subst c6
            have H1 : (if x6_1.length < 5864062014805 then (frame_Scan.l0 k1 l0 a1 (x6_1 ++ [t141]) (wrap64 (x7_1 + t142))) else (none)) = some (r1, r2) := by rw [if_pos rfl] at H; exact H
            clear H
            have H := H1
            clear H1
            by_cases c7 : x6_1.length < 5864062014805
            · rw [if_pos c7] at H
              have LMc7 := Aside0.mk c7
              clear c7
              obtain ⟨y146, hy146⟩ : ∃ y_ : List (List Int), y_ = (x6_1 ++ [t141]) := ⟨_, rfl⟩
              replace H : (frame_Scan.l0 k1 l0 a1 y146 (wrap64 (x7_1 + t142))) = some (r1, r2) := by first | (rw [hy146]; with_reducible exact H) | (have H2_ := (Option.bind_some _ _).symm.trans H; rw [hy146]; with_reducible exact H2_) | (have H2_ := (Option.bind_some _ _).symm.trans H; with_reducible exact H2_) | with_reducible exact H | (rw [hy146]; exact H) | exact H
              have Ny146 := Aside0.mk hy146
              clear hy146
              have H' := Aside0.mk H
              clear H
              obtain ⟨i08, hi08, _, hsz8, _⟩ := info_parts info5
              obtain ⟨A8, hcut8, hA8, hC8⟩ := print_drop_of (P := Try.prog) (Value.int .u8) 0 22 5 .i64 Try.underlying22 hi08 hsz8 A0 c0 l0 x7_1 (of_decide_eq_true (by first | (with_reducible assumption) | assumption)) (of_decide_eq_true (by first | (with_reducible assumption) | assumption)) HC0.out
              have HR140 := Aside0.mk (Kd.C_of_reads (h1 := fun _ => rfl) (hA8 _ (Kd.reads_of_C HR0.out)))
              have HC140 := Aside0.mk hC8
              clear hA8 hC8 hi08 hsz8
              obtain ⟨Ao9, co9, eo9⟩ := Kd.S_slice HO_6.out
              subst eo9
              go_wp2_with (first | ((with_reducible refine gate_callee (f := 19) rfl ?_); refine goesL_ (some 19) rfl rfl Try.func19 (by kernel_rfl) rfl #[.slice A8 (l0.drop (x7_1 : Int).toNat).length (c0 - x7_1.toNat), .int .u32 a1, .int .u32 (((x6_1.length : Int)) % 4294967296)] rfl (by (try simp only [List.map_toArray, List.map_cons, List.map_nil]); first | done | (rw [show (l0.drop (x7_1 : Int).toNat).length = (l0.length - x7_1.toNat) from List.length_drop] <;> rfl) | rfl | (simp only [List.length_drop, List.length_take]; rfl)) ?_; (with_reducible refine (frame_Read.calls k1 _ _ (l0.drop (x7_1 : Int).toNat) a1 (((x6_1.length : Int)) % 4294967296) t141 t142 true _ ?side1 ?side2 A5.out).mono ?_); (case side1 => repeat (first | exact (Kd.C_below HR140.out HB.out) | (with_reducible refine Kd.C_alloc ?_ _) | (with_reducible refine Kd.C_drewN ?_ _) | (with_reducible refine Kd.C_drew ?_))); (case side2 => exact HC140.out); rintro e w10 ⟨v144, rfl, ho0, hb⟩; refine ⟨_, rfl, ?_⟩; have n0_ := Aside0.mk (Kd.S_elder' (by (with_reducible repeat (first | apply Kd.S_alloc | apply Kd.S_drewN | apply Kd.S_drew)); exact HO_6.out) (Kd.R_base ho0) hb); have n1_ := Aside0.mk (Kd.R_lower ho0 (below_size (by repeat (first | (with_reducible first | exact HB.out | apply below_alloc | apply pw_below_drewN | apply below_drew1) | exact HB.out)))); have n2_ := Aside0.mk (below_step (by repeat (first | (with_reducible first | exact HB.out | apply below_alloc | apply pw_below_drewN | apply below_drew1) | exact HB.out)) hb); clear HO_6; clear HB; have HO_6 := n0_; have HO145 := n1_; have HB := n2_; clear n0_ n1_ n2_; (try clear hb); (try clear hb2); (try clear hk); (try clear hi); (try clear ho0); obtain ⟨Ao12, co12, eo12⟩ := Kd.R_slice HO145.out; subst eo12) | ((with_reducible refine gate_builtin (b := .append) (xs := #[.tmp 27, .tmp 29]) rfl ?_); at_builtin; refine Kd.S_append (Kd.slice 5 (Kd.int .u8)) (w0 := w) w.heap.size rfl (.tmp 27) (.tmp 29) 25 22 (.slice none 0 0) 24 rfl Try.underlying25 info22 rfl (by decide) (by omega) (.slice Ao9 x6_1.length co9) x6_1 t141 [.slice Ao12 t141.length co12] (fun _ => True) (fun k_ => some k_ = (.slice Ao12 t141.length co12 : Value).ownBlock) rfl rfl ?aP (fun k_ hk_ => ((Kd.R_mono (ok' := fun k_ => ((fun _ => True)) k_ ∧ some k_ ≠ (.slice Ao9 x6_1.length co9 : Value).ownBlock) (Kd.R_apart' (HO145.out) (Kd.S_typed HO_6.out) (by decide)) (fun k_ hk => ⟨trivial, hk.2⟩))).1 k_ hk_.symm) ?aF ?aO ?aB ?aS ?aL ?_; (case aP => exact Kd.M_row (Kd.R_mono (Kd.R_tight rfl (Kd.R_mono (ok' := fun k_ => ((fun _ => True)) k_ ∧ some k_ ≠ (.slice Ao9 x6_1.length co9 : Value).ownBlock) (Kd.R_apart' (HO145.out) (Kd.S_typed HO_6.out) (by decide)) (fun k_ hk => ⟨trivial, hk.2⟩))) (fun _ h_ => h_))); (case aB => exact (by repeat (first | (with_reducible first | exact HB.out | apply below_alloc | apply pw_below_drewN | apply below_drew1) | exact HB.out))); (case aF => exact (fun _ _ => trivial)); (case aO => exact (by (with_reducible repeat (first | apply Kd.S_alloc | apply Kd.S_drewN | apply Kd.S_drew)); exact Kd.S_mono HO_6.out (fun k_ hk => ⟨trivial, fun e_ => hk.2 e_⟩))); (case aS => exact (below_size (by repeat (first | (with_reducible first | exact HB.out | apply below_alloc | apply pw_below_drewN | apply below_drew1) | exact HB.out)))); (case aL => have := LMc7.out; omega); intro v147 w11 ho hb hg hat; rw [← Ny146.out] at ho; have n0_ := Aside0.mk (hb); have n1_ := Aside0.mk (ho); clear HB; clear HO_6; clear HO145; have HB := n0_; have HO148 := n1_; clear n0_ n1_; clear ho hb hg hat))
              go_roundg k1
              case measure => have := HK1.out; omega
              case rel => exact ⟨(y146), (wrap64 (x7_1 + t142)), (by first | rfl | (simp; done) | (simp [*]; done)), H', ⟨by have := HK1.out; omega⟩, ⟨by (with_reducible repeat (first | apply Kd.S_alloc | apply Kd.S_drewN | apply Kd.S_drew)); exact HO148.out⟩, ⟨by repeat (first | (with_reducible first | exact HB.out | apply below_alloc | apply pw_below_drewN | apply below_drew1) | exact HB.out)⟩⟩
            · rw [if_neg c7] at H
              exact absurd H (by simp)
          · replace c6 := Bool.eq_false_iff.mpr c6
            subst c6
            have H1 : (some (x6_1, x7_1)) = some (r1, r2) := by rw [if_neg (show ¬ (false = true) by decide)] at H; exact H
            clear H
            have H := H1
            clear H1
            simp only [Option.some.injEq, Prod.mk.injEq] at H
            obtain ⟨rfl, rfl⟩ := H
            obtain ⟨i013, hi013, _, hsz13, _⟩ := info_parts info5
            obtain ⟨A13, hcut13, hA13, hC13⟩ := print_drop_of (P := Try.prog) (Value.int .u8) 0 22 5 .i64 Try.underlying22 hi013 hsz13 A0 c0 l0 x7_1 (of_decide_eq_true (by first | (with_reducible assumption) | assumption)) (of_decide_eq_true (by first | (with_reducible assumption) | assumption)) HC0.out
            have HR140 := Aside0.mk (Kd.C_of_reads (h1 := fun _ => rfl) (hA13 _ (Kd.reads_of_C HR0.out)))
            have HC140 := Aside0.mk hC13
            clear hA13 hC13 hi013 hsz13
            obtain ⟨Ao14, co14, eo14⟩ := Kd.S_slice HO_6.out
            subst eo14
            go_wp2_with (first | ((with_reducible refine gate_callee (f := 19) rfl ?_); refine goesL_ (some 19) rfl rfl Try.func19 (by kernel_rfl) rfl #[.slice A13 (l0.drop (x7_1 : Int).toNat).length (c0 - x7_1.toNat), .int .u32 a1, .int .u32 (((x6_1.length : Int)) % 4294967296)] rfl (by (try simp only [List.map_toArray, List.map_cons, List.map_nil]); first | done | (rw [show (l0.drop (x7_1 : Int).toNat).length = (l0.length - x7_1.toNat) from List.length_drop] <;> rfl) | rfl | (simp only [List.length_drop, List.length_take]; rfl)) ?_; (with_reducible refine (frame_Read.calls k1 _ _ (l0.drop (x7_1 : Int).toNat) a1 (((x6_1.length : Int)) % 4294967296) t141 t142 false _ ?side1 ?side2 A5.out).mono ?_); (case side1 => repeat (first | exact (Kd.C_below HR140.out HB.out) | (with_reducible refine Kd.C_alloc ?_ _) | (with_reducible refine Kd.C_drewN ?_ _) | (with_reducible refine Kd.C_drew ?_))); (case side2 => exact HC140.out); rintro e w15 ⟨v144, rfl, ho0, hb⟩; refine ⟨_, rfl, ?_⟩; have n0_ := Aside0.mk (Kd.S_elder' (by (with_reducible repeat (first | apply Kd.S_alloc | apply Kd.S_drewN | apply Kd.S_drew)); exact HO_6.out) (Kd.R_base ho0) hb); have n1_ := Aside0.mk (Kd.R_lower ho0 (below_size (by repeat (first | (with_reducible first | exact HB.out | apply below_alloc | apply pw_below_drewN | apply below_drew1) | exact HB.out)))); have n2_ := Aside0.mk (below_step (by repeat (first | (with_reducible first | exact HB.out | apply below_alloc | apply pw_below_drewN | apply below_drew1) | exact HB.out)) hb); clear HO_6; clear HB; have HO_6 := n0_; have HO145 := n1_; have HB := n2_; clear n0_ n1_ n2_; (try clear hb); (try clear hb2); (try clear hk); (try clear hi); (try clear ho0)))
            go_ret2
            exact ⟨_, by first | rfl | (simp [errW_none, errW_some] <;> rfl) | (simp [*, errW_none, errW_some] <;> rfl), by (with_reducible repeat (first | apply Kd.S_alloc | apply Kd.S_drewN | apply Kd.S_drew)); exact Kd.S_mono HO_6.out (fun _ hk => trivial), by repeat (first | (with_reducible first | exact HB.out | apply below_alloc | apply pw_below_drewN | apply below_drew1) | exact HB.out)⟩
        · rw [if_neg c4] at H
          exact absurd H (by simp)
      · rw [if_neg c3] at H
        exact absurd H (by simp)

/-! ### engramlaw3_known: function 16 -/
/-- A literal's row, in the block that it was laid into (whatever its mark): it reads as its numbers. -/
theorem lit_C (w : World) (k : IntKind) (C : Array Value) (t : TypeId) (fr : Nat × Nat) (xs : List Int) (hC : C = (xs.map (Value.int k)).toArray) (hn : xs.length ≤ 9223372036854775807) :
    Kd.C (Kd.int k) (w.alloc (.cells C t fr)) (some ⟨w.heap.size, 0, none⟩) xs.length xs := by
  subst hC
  refine Kd.C_of_reads (enc := Value.int k) (d := 0) (h1 := fun _ => rfl) ⟨rfl, hn, fun _ => ⟨_, rfl, fun j hj => ?_⟩⟩
  rw [add_plain, World.cell?_alloc_mark]
  simp [List.getD_eq_getElem?_getD, hj]
def engramlaw3_known.f : Option (Bool) := some true
set_option maxHeartbeats 1000000 in
set_option maxRecDepth 100000 in
theorem engramlaw3_known.calls (r : Bool) (w : World) (h : engramlaw3_known.f = some r) : Calls Try.prog 16 #[] w fun e w' => e = .returned (.bool r) ∧ Below w.heap.size w w' := by
  obtain rfl : true = r := Option.some.inj h
  clear h
  have A1 := Aside0.mk (show frame_Bytes.f 50 3 0 [97, 98] = some [0, 0, 0, 3, 0, 0, 0, 0, 0, 0, 0, 2, 97, 98, 71, 227, 130, 97] by kernel_rfl)
  have A2 := Aside0.mk (show frame_Bytes.f 50 3 1 [] = some [0, 0, 0, 3, 0, 0, 0, 1, 0, 0, 0, 0, 197, 9, 103, 159] by kernel_rfl)
  have A4 := Aside0.mk (show frame_Scan.f 50 [0, 0, 0, 3, 0, 0, 0, 0, 0, 0, 0, 2, 97, 98, 71, 227, 130, 97, 0, 0, 0, 3, 0, 0, 0, 1, 0, 0, 0, 0, 197, 9, 103, 159] 3 = some ([[97, 98], []], 34) by kernel_rfl)
  have A5 := Aside0.mk (show frame_Read.f 50 [0, 0, 0, 3, 0, 0, 0, 0, 0, 0, 0, 2, 97, 98, 71, 227, 130, 97, 0, 0, 0, 3, 0, 0, 0, 1, 0, 0, 0, 0, 197, 9, 103, 159] 4 0 = some ([], 0, false) by kernel_rfl)
  have A6 := Aside0.mk (show frame_Bytes.f 50 0 0 [] = some [0, 0, 0, 0, 0, 0, 0, 0, 0, 0, 0, 0, 226, 60, 98, 181] by kernel_rfl)
  have kc := fun (w : World) (C : Array Value) (n c : Nat) => Lib.run_convert_bytes_const (P := Try.prog) w 22 5 C n c Try.underlying22 Try.underlying5
  go_enter Try.func16, Try.ntmps16
  go_wp2_with fail
  refine (frame_Bytes.calls 50 3 0 _ _ [97, 98] _ _ ?s1 ?s2 A1.out).mono ?_
  case s1 => exact lit_C _ _ _ _ _ _ rfl (by decide)
  case s2 => exact Nat.le_refl _
  rintro e w1 ⟨v1, rfl, ho1, hb1⟩
  clear kc
  go_wp2_with fail
  refine (frame_Bytes.calls 50 3 1 none 0 [] _ _ ?s1 ?s2 A2.out).mono ?_
  case s1 => exact Kd.C_nil _ _
  case s2 => exact Nat.le_refl _
  rintro e w2 ⟨v2, rfl, ho2, hb2⟩
  obtain ⟨Ao2, co2, eo2⟩ := Kd.R_slice ho2
  subst eo2
  have hb02 : Below w.heap.size w w2 := ((((Below.refl _ _).alloc (Nat.le_refl _) _).trans (hb1.mono (by simp))).trans (hb2.mono (by have := hb1.size; simp at this; omega)))
  have ho12 := Kd.R_lower (Kd.R_below ho1 hb2) (base' := w.heap.size) (by simp)
  have HR2 := Aside0.mk (Kd.R_reads' ho2).2.2
  have HO12 := Aside0.mk ho12
  have HB02 := Aside0.mk hb02
  clear ho1 ho12 ho2 hb02 hb1 hb2
  go_wp2_with ((with_reducible refine gate_builtin (b := .append) (xs := #[.tmp 9, .tmp 10]) rfl ?_); at_builtin; refine Kd.R_append_rows (Kd.int .u8) (w0 := w) w.heap.size rfl (.tmp 9) (.tmp 10) 22 5 (.int .u8 0) 1 rfl Try.underlying22 info5 rfl (by decide) (by omega) v1 _ _ _ _ _ (fun _ => True) (fun _ => False) rfl rfl HO12.out HR2.out (fun _ _ h => h) (fun _ h => h.elim) (fun _ _ => trivial) HB02.out HB02.out.size (by simp) ?_; intro v3 w3 ho3 hb3 hg3 hat3; have HO3 := Aside0.mk ho3; have HB3 := Aside0.mk hb3; clear ho3 hb3 hg3 hat3)
  obtain ⟨A3, c3, e3⟩ := Kd.R_slice HO3.out
  subst e3
  have HR3 := Aside0.mk (Kd.R_reads' HO3.out)
  refine (frame_Scan.calls 50 A3 c3 _ 3 _ _ _ ?s1 ?s2 A4.out).mono ?_
  case s1 => exact HR3.out.2.2
  case s2 => exact HR3.out.2.1
  rintro e w4 ⟨v4, rfl, ho4, hb4⟩
  obtain ⟨A7, c7, e7⟩ := Kd.V_slice (Kd.S_V (base' := 0) ho4)
  subst e7
  have HR4 := Aside0.mk (Kd.S_reads' ho4)
  have HR5 := Aside0.mk (Kd.C_below HR3.out.2.2 hb4)
  have HB4 := Aside0.mk (below_step HB3.out hb4)
  clear ho4 hb4
  go_wp2_with fail
  refine (frame_Read.calls 50 A3 c3 _ 4 0 _ _ _ _ ?s1 ?s2 A5.out).mono ?_
  case s1 => exact HR5.out
  case s2 => exact HR3.out.2.1
  rintro e w5 ⟨v5, rfl, ho5, hb5⟩
  obtain ⟨A8, c8, e8⟩ := Kd.R_slice ho5
  subst e8
  have HB5 := Aside0.mk (below_step HB4.out hb5)
  have hC := Kd.C_below HR4.out.2.2 hb5
  obtain ⟨ad, A9, c9, rfl, hcell, h9, hC9⟩ := at_L1 hC 0 (by decide) (by decide)
  have hs := Kd.C_string (P := Try.prog) (c := c9) Try.underlying22 Try.underlying5 Try.underlying9 hC9
  have hcell' : w5.cell? (ad.add 0) = some (.slice A9 2 c9) := hcell
  have hcell2 : w5.cell? ad = some (.slice A9 2 c9) := by
    have e0 : ad.add 0 = ad := by unfold Addr.add; split <;> simp_all
    rw [← e0]; exact hcell
  have hs' : (convert 22 9 (.slice A9 2 c9)).run Try.prog w5 = .ok (.string (strOfNums [97, 98])) w5 := hs
  have hstr : (strOfNums [97, 98]).toList = ([97, 98] : List UInt8) := by kernel_rfl
  clear ho5 hb5 hC hcell hs h9 hC9
  go_wp2_with fail
  clear hcell2 hcell' hs' hstr
  refine (frame_Bytes.calls 50 0 0 none 0 [] _ _ ?s1 ?s2 A6.out).mono ?_
  case s1 => exact Kd.C_nil _ _
  case s2 => exact Nat.le_refl _
  rintro e w6 ⟨v6, rfl, ho6, hb6⟩
  obtain ⟨A10, c10, e10⟩ := Kd.R_slice ho6
  subst e10
  have HB6 := Aside0.mk (below_step HB5.out hb6)
  clear ho6 hb6
  go_wp2_with fail
  go_ret
  exact ⟨by first | rfl | (simp; done), HB6.out⟩

/-! ### engrambook_Within: function 17 -/
def engrambook_Within.j0 : Nat → Int → Int → Int → Bool → Option (Int)
  | 0, _, _, _, _ => none
  | k + 1, x0, x1, x2, x14 => if x14 = true then (some x0) else (if (wrap64 ((wrap64 (x2 - x1)) + 1)) = 0 then (none) else (if (Int.tmod x0 (wrap64 ((wrap64 (x2 - x1)) + 1))) < 0 then (some (wrap64 (x1 + (wrap64 ((wrap64 ((wrap64 ((Int.tmod x0 (wrap64 ((wrap64 (x2 - x1)) + 1))) + x2)) - x1)) + 1))))) else (some (wrap64 (x1 + (Int.tmod x0 (wrap64 ((wrap64 (x2 - x1)) + 1))))))))
def engrambook_Within.f (k : Nat) (a0 : Int) (a1 : Int) (a2 : Int) : Option (Int) := if a0 ≥ a1 then (engrambook_Within.j0 k a0 a1 a2 (decide (a0 ≤ a2))) else (engrambook_Within.j0 k a0 a1 a2 false)
theorem engrambook_Within.mono_l : ∀ k, (∀ y0 y1 y2 y3, LeO (engrambook_Within.j0 k y0 y1 y2 y3) (engrambook_Within.j0 (k + 1) y0 y1 y2 y3))
  | 0 => fun _ _ _ _ r h => by simp [engrambook_Within.j0] at h
  | k + 1 => by
    have ih0 := engrambook_Within.mono_l k
    · intro y0 y1 y2 y3
      unfold engrambook_Within.j0
      repeat' first
      | (with_reducible exact ih0 _ _ _ _)
      | (with_reducible exact LeO.refl _)
      | (with_reducible exact LeO.none _)
      | (with_reducible refine LeO.ite ?_ ?_)
      | (with_reducible refine LeO.bind ?_ (fun _ => ?_))
      | exact ih0 _ _ _ _
      | exact LeO.none _
      | refine LeO.ite ?_ ?_
      | refine LeO.bind ?_ (fun _ => ?_)
theorem engrambook_Within.mono : ∀ a0 a1 a2 k, LeO (engrambook_Within.f k a0 a1 a2) (engrambook_Within.f (k + 1) a0 a1 a2) := by
  intro a0 a1 a2 k
  have ih0 := engrambook_Within.mono_l k
  unfold engrambook_Within.f
  repeat' first
      | (with_reducible exact ih0 _ _ _ _)
      | (with_reducible exact LeO.refl _)
      | (with_reducible exact LeO.none _)
      | (with_reducible refine LeO.ite ?_ ?_)
      | (with_reducible refine LeO.bind ?_ (fun _ => ?_))
      | exact ih0 _ _ _ _
      | exact LeO.none _
      | refine LeO.ite ?_ ?_
      | refine LeO.bind ?_ (fun _ => ?_)
set_option maxHeartbeats 8000000 in
set_option maxRecDepth 100000 in
theorem engrambook_Within.calls (k : Nat) (a0 : Int) (a1 : Int) (a2 : Int) (r : Int) (w : World) (h : engrambook_Within.f k a0 a1 a2 = some r) :
    Calls Try.prog 17 #[.int .i64 a0, .int .i64 a1, .int .i64 a2] w fun e w' => e = .returned (.int .i64 r) ∧ Drawn0 w w' := by
  have H : (if a0 ≥ a1 then (engrambook_Within.j0 k a0 a1 a2 (decide (a0 ≤ a2))) else (engrambook_Within.j0 k a0 a1 a2 false)) = some r := h
  clear h
  have HC4 := Aside0.mk H
  clear H
  go_enter Try.func17, Try.ntmps17
  go_upto_region 1 with (fail)
  go_cut [14] (fun v14 wc => ∃ (kq : Nat) (x14_3 : Bool), v14 = .bool x14_3 ∧ Aside0 (engrambook_Within.j0 kq a0 a1 a2 x14_3 = some r) ∧ Aside0 (kq ≤ k) ∧ Drawn0 w wc)
  case first =>
    have H := HC4.out
    clear HC4
    by_cases c5 : a0 ≥ a1
    · rw [if_pos c5] at H
      have c5b0 : decide (a1 ≤ a0) = true := decide_eq_true c5
      clear c5
      (first | rw [c5b0] | (simp only [i64_w, i32_w]; rw [c5b0]) | skip)
      have H' := Aside0.mk H
      clear H
      go_wp2
      go_meet
      case rel => exact ⟨_, (decide (a0 ≤ a2)), (by first | rfl | (simp; done) | (simp [*]; done)), H', ⟨by first | omega | exact Nat.le_refl _⟩, by repeat (first | exact Drawn0.refl _ | apply Drawn0.step)⟩
    · rw [if_neg c5] at H
      have c5b0 : decide (a1 ≤ a0) = false := decide_eq_false c5
      clear c5
      (first | rw [c5b0] | (simp only [i64_w, i32_w]; rw [c5b0]) | skip)
      have H' := Aside0.mk H
      clear H
      go_wp2
      go_meet
      case rel => exact ⟨_, (false), (by first | rfl | (simp; done) | (simp [*]; done)), H', ⟨by first | omega | exact Nat.le_refl _⟩, by repeat (first | exact Drawn0.refl _ | apply Drawn0.step)⟩
  case rest =>
    clear HC4
    try clear c1
    try clear p2
    try clear c5
    try clear c5b0
    obtain ⟨kq, x14_3, rfl, HA, HJ3, ⟨mc3, rfl⟩⟩ := hcut
    cases kq with
    | zero => exact absurd HA.out (by simp [engrambook_Within.j0])
    | succ kj3 =>
      have H := HA.out
      clear HA
      simp only [engrambook_Within.j0] at H
      by_cases c6 : x14_3 = true
      · subst c6
        have H1 : (some a0) = some r := by rw [if_pos rfl] at H; exact H
        clear H
        have H := H1
        clear H1
        obtain rfl := Option.some.inj H
        go_wp2
        go_ret
        exact ⟨by first | rfl | (simp; done) | (simp [*]; done), by repeat (first | exact Drawn0.refl _ | apply Drawn0.step)⟩
      · replace c6 := Bool.eq_false_iff.mpr c6
        subst c6
        have H1 : (if (wrap64 ((wrap64 (a2 - a1)) + 1)) = 0 then (none) else (if (Int.tmod a0 (wrap64 ((wrap64 (a2 - a1)) + 1))) < 0 then (some (wrap64 (a1 + (wrap64 ((wrap64 ((wrap64 ((Int.tmod a0 (wrap64 ((wrap64 (a2 - a1)) + 1))) + a2)) - a1)) + 1))))) else (some (wrap64 (a1 + (Int.tmod a0 (wrap64 ((wrap64 (a2 - a1)) + 1)))))))) = some r := by rw [if_neg (show ¬ (false = true) by decide)] at H; exact H
        clear H
        have H := H1
        clear H1
        by_cases c7 : (wrap64 ((wrap64 (a2 - a1)) + 1)) = 0
        · rw [if_pos c7] at H
          exact absurd H (by simp)
        · rw [if_neg c7] at H
          have c7b0 : ((wrap64 ((wrap64 (a2 - a1)) + 1)) == 0) = false := beq_eq_false_iff_ne.mpr c7
          have c7b1 : ((wrap64 ((wrap64 (a2 - a1)) + 1)) != 0) = true := bne_iff_ne.mpr c7
          by_cases c8 : (Int.tmod a0 (wrap64 ((wrap64 (a2 - a1)) + 1))) < 0
          · rw [if_pos c8] at H
            have c8b0 : decide ((Int.tmod a0 (wrap64 ((wrap64 (a2 - a1)) + 1))) < 0) = true := decide_eq_true c8
            clear c8
            obtain rfl := Option.some.inj H
            go_wp2
            go_ret
            exact ⟨by first | rfl | (simp; done) | (simp [*]; done), by repeat (first | exact Drawn0.refl _ | apply Drawn0.step)⟩
          · rw [if_neg c8] at H
            have c8b0 : decide ((Int.tmod a0 (wrap64 ((wrap64 (a2 - a1)) + 1))) < 0) = false := decide_eq_false c8
            clear c8
            obtain rfl := Option.some.inj H
            go_wp2
            go_ret
            exact ⟨by first | rfl | (simp; done) | (simp [*]; done), by repeat (first | exact Drawn0.refl _ | apply Drawn0.step)⟩

/-! ### engramlaw3_FrameScans: function 6 -/
mutual
def engramlaw3_FrameScans.l0 : Nat → Int → Int → Int → List Int → Int → Int → Option (Bool)
  | 0, _, _, _, _, _, _ => none
  | k + 1, x2, x7, x8, x9, x10, x11 => if x11 < x7 then (if x11 = x8 then ((frame_Bytes.f k ((x2 + 1) % 4294967296) ((x11) % 4294967296) (([(x11) % 256] : List Int))).bind fun t154 => (if x9.length + t154.length < 140737488355328 then (engramlaw3_FrameScans.l0 k x2 x7 x8 (x9 ++ t154) x10 (wrap64 (x11 + 1))) else (none))) else ((frame_Bytes.f k x2 ((x11) % 4294967296) (([(x11) % 256] : List Int))).bind fun t163 => (if x9.length + t163.length < 140737488355328 then ((some (x9 ++ t163 : List Int)).bind fun y166 => (if x11 < x8 then (engramlaw3_FrameScans.l0 k x2 x7 x8 y166 (wrap64 (x10 + 1)) (wrap64 (x11 + 1))) else (engramlaw3_FrameScans.l0 k x2 x7 x8 y166 x10 (wrap64 (x11 + 1))))) else (none)))) else ((frame_Scan.f k x9 x2).bind fun bt169 => (if (bt169.1.length : Int) = x10 then (engramlaw3_FrameScans.j1 k bt169.1 (bt169.2 != (wrap64 (x10 * 17)))) else (engramlaw3_FrameScans.j1 k bt169.1 true)))
def engramlaw3_FrameScans.j1 : Nat → List (List Int) → Bool → Option (Bool)
  | 0, _, _ => none
  | k + 1, x12, x66 => if x66 = true then (some false) else (engramlaw3_FrameScans.l1 k x12 (x12.length : Int) 0)
def engramlaw3_FrameScans.l1 : Nat → List (List Int) → Int → Int → Option (Bool)
  | 0, _, _, _ => none
  | k + 1, x12, x68, x69 => if x69 < x68 then (if 0 ≤ x69 then (if x69 < (x12.length : Int) then (if ((rd_L1 x12 x69).length : Int) = 1 then (if 0 < ((rd_L1 x12 x69).length : Int) then (if (rd (rd_L1 x12 x69) 0) = ((x69) % 256) then (engramlaw3_FrameScans.l1 k x12 x68 (wrap64 (x69 + 1))) else (some false)) else (none)) else (some false)) else (none)) else (none)) else ((engramlaw3_known.f).bind fun t176 => (some t176))
end
def engramlaw3_FrameScans.f (k : Nat) (a0 : Int) (a1 : Int) (a2 : Int) : Option (Bool) := (engrambook_Within.f k a0 0 9).bind fun t149 => ((engrambook_Within.f k a1 0 9).bind fun t150 => (engramlaw3_FrameScans.l0 k a2 t149 t150 ([] : List Int) 0 0))
theorem engramlaw3_FrameScans.mono_l : ∀ k, (∀ y0 y1 y2 y3 y4 y5, LeO (engramlaw3_FrameScans.l0 k y0 y1 y2 y3 y4 y5) (engramlaw3_FrameScans.l0 (k + 1) y0 y1 y2 y3 y4 y5)) ∧ (∀ y0 y1, LeO (engramlaw3_FrameScans.j1 k y0 y1) (engramlaw3_FrameScans.j1 (k + 1) y0 y1)) ∧ (∀ y0 y1 y2, LeO (engramlaw3_FrameScans.l1 k y0 y1 y2) (engramlaw3_FrameScans.l1 (k + 1) y0 y1 y2))
  | 0 => ⟨fun _ _ _ _ _ _ r h => by simp [engramlaw3_FrameScans.l0] at h, fun _ _ r h => by simp [engramlaw3_FrameScans.j1] at h, fun _ _ _ r h => by simp [engramlaw3_FrameScans.l1] at h⟩
  | k + 1 => by
    obtain ⟨ih0, ih1, ih2⟩ := engramlaw3_FrameScans.mono_l k
    refine ⟨?_, ?_, ?_⟩
    · intro y0 y1 y2 y3 y4 y5
      unfold engramlaw3_FrameScans.l0
      repeat' first
      | (with_reducible exact ih0 _ _ _ _ _ _)
      | (with_reducible exact ih1 _ _)
      | (with_reducible exact ih2 _ _ _)
      | (with_reducible exact engrambook_Within.mono _ _ _ _)
      | (with_reducible exact frame_Bytes.mono _ _ _ _)
      | (with_reducible exact frame_Scan.mono _ _ _)
      | (with_reducible exact LeO.refl _)
      | (with_reducible exact LeO.none _)
      | (with_reducible refine LeO.ite ?_ ?_)
      | (with_reducible refine LeO.bind ?_ (fun _ => ?_))
      | exact ih0 _ _ _ _ _ _
      | exact ih1 _ _
      | exact ih2 _ _ _
      | exact engrambook_Within.mono _ _ _ _
      | exact frame_Bytes.mono _ _ _ _
      | exact frame_Scan.mono _ _ _
      | exact LeO.none _
      | refine LeO.ite ?_ ?_
      | refine LeO.bind ?_ (fun _ => ?_)
    · intro y0 y1
      unfold engramlaw3_FrameScans.j1
      repeat' first
      | (with_reducible exact ih0 _ _ _ _ _ _)
      | (with_reducible exact ih1 _ _)
      | (with_reducible exact ih2 _ _ _)
      | (with_reducible exact engrambook_Within.mono _ _ _ _)
      | (with_reducible exact frame_Bytes.mono _ _ _ _)
      | (with_reducible exact frame_Scan.mono _ _ _)
      | (with_reducible exact LeO.refl _)
      | (with_reducible exact LeO.none _)
      | (with_reducible refine LeO.ite ?_ ?_)
      | (with_reducible refine LeO.bind ?_ (fun _ => ?_))
      | exact ih0 _ _ _ _ _ _
      | exact ih1 _ _
      | exact ih2 _ _ _
      | exact engrambook_Within.mono _ _ _ _
      | exact frame_Bytes.mono _ _ _ _
      | exact frame_Scan.mono _ _ _
      | exact LeO.none _
      | refine LeO.ite ?_ ?_
      | refine LeO.bind ?_ (fun _ => ?_)
    · intro y0 y1 y2
      unfold engramlaw3_FrameScans.l1
      repeat' first
      | (with_reducible exact ih0 _ _ _ _ _ _)
      | (with_reducible exact ih1 _ _)
      | (with_reducible exact ih2 _ _ _)
      | (with_reducible exact engrambook_Within.mono _ _ _ _)
      | (with_reducible exact frame_Bytes.mono _ _ _ _)
      | (with_reducible exact frame_Scan.mono _ _ _)
      | (with_reducible exact LeO.refl _)
      | (with_reducible exact LeO.none _)
      | (with_reducible refine LeO.ite ?_ ?_)
      | (with_reducible refine LeO.bind ?_ (fun _ => ?_))
      | exact ih0 _ _ _ _ _ _
      | exact ih1 _ _
      | exact ih2 _ _ _
      | exact engrambook_Within.mono _ _ _ _
      | exact frame_Bytes.mono _ _ _ _
      | exact frame_Scan.mono _ _ _
      | exact LeO.none _
      | refine LeO.ite ?_ ?_
      | refine LeO.bind ?_ (fun _ => ?_)
theorem engramlaw3_FrameScans.mono : ∀ a0 a1 a2 k, LeO (engramlaw3_FrameScans.f k a0 a1 a2) (engramlaw3_FrameScans.f (k + 1) a0 a1 a2) := by
  intro a0 a1 a2 k
  obtain ⟨ih0, ih1, ih2⟩ := engramlaw3_FrameScans.mono_l k
  unfold engramlaw3_FrameScans.f
  repeat' first
      | (with_reducible exact ih0 _ _ _ _ _ _)
      | (with_reducible exact ih1 _ _)
      | (with_reducible exact ih2 _ _ _)
      | (with_reducible exact engrambook_Within.mono _ _ _ _)
      | (with_reducible exact frame_Bytes.mono _ _ _ _)
      | (with_reducible exact frame_Scan.mono _ _ _)
      | (with_reducible exact LeO.refl _)
      | (with_reducible exact LeO.none _)
      | (with_reducible refine LeO.ite ?_ ?_)
      | (with_reducible refine LeO.bind ?_ (fun _ => ?_))
      | exact ih0 _ _ _ _ _ _
      | exact ih1 _ _
      | exact ih2 _ _ _
      | exact engrambook_Within.mono _ _ _ _
      | exact frame_Bytes.mono _ _ _ _
      | exact frame_Scan.mono _ _ _
      | exact LeO.none _
      | refine LeO.ite ?_ ?_
      | refine LeO.bind ?_ (fun _ => ?_)
set_option maxHeartbeats 8000000 in
set_option maxRecDepth 100000 in
theorem engramlaw3_FrameScans.calls (k : Nat) (a0 : Int) (a1 : Int) (a2 : Int) (r : Bool) (w : World) (h : engramlaw3_FrameScans.f k a0 a1 a2 = some r) :
    Calls Try.prog 6 #[.int .i64 a0, .int .i64 a1, .int .u32 a2] w fun e w' => e = .returned (.bool r) ∧ Below w.heap.size w w' := by
  have HB := Aside0.mk (Below.refl w.heap.size w)
  have H : ((engrambook_Within.f k a0 0 9).bind fun t149 => ((engrambook_Within.f k a1 0 9).bind fun t150 => (engramlaw3_FrameScans.l0 k a2 t149 t150 ([] : List Int) 0 0))) = some r := h
  clear h
  replace H := Option.bind_eq_some_iff.mp H
  obtain ⟨t149, A40, H⟩ := H
  replace H : ((engrambook_Within.f k a1 0 9).bind fun t150 => (engramlaw3_FrameScans.l0 k a2 t149 t150 ([] : List Int) 0 0)) = some r := H
  have A4 := Aside0.mk A40
  clear A40
  replace H := Option.bind_eq_some_iff.mp H
  obtain ⟨t150, A50, H⟩ := H
  replace H : (engramlaw3_FrameScans.l0 k a2 t149 t150 ([] : List Int) 0 0) = some r := H
  have A5 := Aside0.mk A50
  clear A50
  have H' := Aside0.mk H
  clear H
  go_enter Try.func6, Try.ntmps6
  go_wp2_with (first | ((with_reducible refine gate_callee (f := 17) rfl ?_); refine goesL_ (some 16) rfl rfl Try.func17 (by kernel_rfl) rfl #[.int .i64 a0, .int .i64 0, .int .i64 9] rfl (by (try simp only [List.map_toArray, List.map_cons, List.map_nil]); first | done | rfl | (simp only [List.length_drop, List.length_take]; rfl)) ?_; (with_reducible refine (engrambook_Within.calls k a0 0 9 t149 _ A4.out).mono ?_); rintro e w' ⟨rfl, ⟨nd, rfl⟩⟩; refine ⟨_, rfl, ?_⟩) | ((with_reducible refine gate_callee (f := 17) rfl ?_); refine goesL_ (some 18) rfl rfl Try.func17 (by kernel_rfl) rfl #[.int .i64 a1, .int .i64 0, .int .i64 9] rfl (by (try simp only [List.map_toArray, List.map_cons, List.map_nil]); first | done | rfl | (simp only [List.length_drop, List.length_take]; rfl)) ?_; (with_reducible refine (engrambook_Within.calls k a1 0 9 t150 _ A5.out).mono ?_); rintro e w' ⟨rfl, ⟨nd, rfl⟩⟩; refine ⟨_, rfl, ?_⟩))
  go_loopg [9, 10, 11] k (fun kq v9 v10 v11 w' => ∃ (x9_1 : List Int) (x10_1 : Int) (x11_1 : Int), v10 = .int .i64 x10_1 ∧ v11 = .int .i64 x11_1 ∧ Aside0 (engramlaw3_FrameScans.l0 kq a2 t149 t150 x9_1 x10_1 x11_1 = some r) ∧ Aside0 (kq ≤ k) ∧ Aside0 (Kd.R (Kd.int .u8) 5 w' w.heap.size (fun _ => True) v9 x9_1) ∧ Aside0 (Below w.heap.size w w'))
  case atStart => exact ⟨(([] : List Int)), (0), (0), (by first | rfl | (simp; done) | (simp [*]; done)), (by first | rfl | (simp; done) | (simp [*]; done)), H', ⟨Nat.le_refl _⟩, ⟨by first | exact Kd.R_nil _ _ _ _ _ | exact Kd.N_nil _ _ _ _ _ | exact Kd.V_nil _ _ _ _ _ | exact Kd.Q_nil _ _ _ _ _ | exact Kd.S_nil _ _ _ _ _⟩, ⟨by repeat (first | (with_reducible first | exact HB.out | apply below_alloc | apply pw_below_drewN | apply below_drew1) | exact HB.out)⟩⟩
  case round =>
    clear H'
    try clear c1
    try clear p2
    obtain ⟨x9_1, x10_1, x11_1, rfl, rfl, HA, HK1, HO_9, HB⟩ := hrel
    cases gk with
    | zero => exact absurd HA.out (by simp [engramlaw3_FrameScans.l0])
    | succ k1 =>
      have H := HA.out
      clear HA
      simp only [engramlaw3_FrameScans.l0] at H
      by_cases c6 : x11_1 < t149
      · rw [if_pos c6] at H
        have c6b0 : decide (x11_1 < t149) = true := decide_eq_true c6
        clear c6
        by_cases c7 : x11_1 = t150
        · rw [if_pos c7] at H
          have c7b0 : (x11_1 == t150) = true := beq_iff_eq.mpr c7
          have c7b1 : (x11_1 != t150) = false := bne_eq_false_iff_eq.mpr c7
          clear c7
          obtain ⟨y151, hy151⟩ : ∃ y_ : List Int, y_ = (([(x11_1) % 256] : List Int)) := ⟨_, rfl⟩
          replace H : ((frame_Bytes.f k1 ((a2 + 1) % 4294967296) ((x11_1) % 4294967296) y151).bind fun t154 => (if x9_1.length + t154.length < 140737488355328 then (engramlaw3_FrameScans.l0 k1 a2 t149 t150 (x9_1 ++ t154) x10_1 (wrap64 (x11_1 + 1))) else (none))) = some r := by first | (rw [hy151]; with_reducible exact H) | (have H2_ := (Option.bind_some _ _).symm.trans H; rw [hy151]; with_reducible exact H2_) | (have H2_ := (Option.bind_some _ _).symm.trans H; with_reducible exact H2_) | with_reducible exact H | (rw [hy151]; exact H) | exact H
          have Ny151 := Aside0.mk hy151
          clear hy151
          replace H := Option.bind_eq_some_iff.mp H
          obtain ⟨t154, A80, H⟩ := H
          replace H : (if x9_1.length + t154.length < 140737488355328 then (engramlaw3_FrameScans.l0 k1 a2 t149 t150 (x9_1 ++ t154) x10_1 (wrap64 (x11_1 + 1))) else (none)) = some r := H
          have A8 := Aside0.mk A80
          clear A80
          by_cases c9 : x9_1.length + t154.length < 140737488355328
          · rw [if_pos c9] at H
            have LMc9 := Aside0.mk c9
            clear c9
            obtain ⟨y157, hy157⟩ : ∃ y_ : List Int, y_ = (x9_1 ++ t154) := ⟨_, rfl⟩
            replace H : (engramlaw3_FrameScans.l0 k1 a2 t149 t150 y157 x10_1 (wrap64 (x11_1 + 1))) = some r := by first | (rw [hy157]; with_reducible exact H) | (have H2_ := (Option.bind_some _ _).symm.trans H; rw [hy157]; with_reducible exact H2_) | (have H2_ := (Option.bind_some _ _).symm.trans H; with_reducible exact H2_) | with_reducible exact H | (rw [hy157]; exact H) | exact H
            have Ny157 := Aside0.mk hy157
            clear hy157
            have H' := Aside0.mk H
            clear H
            go_wp2_with (first | ((with_reducible refine gate_dst (N := 34) rfl ?_); refine Kd.R_lit (Kd.int .u8) _ 5 ?hg (N := 34) ?hd (xs := ([(x11_1) % 256] : List Int)) (inner := [.int .u8 ((x11_1) % 256)]) (ok := fun _ => True) (okp := fun _ => True) ?hr ?hp (fun _ hk => hk) trivial (Below.refl _ _) (Nat.le_refl _) (by simp) ?_; (case hd => rfl); (case hg => rfl); (case hr => first | (go_simp; done) | (go_simp; rfl)); (case hp => exact (Reps.one (show Kd.M (Kd.int .u8) _ _ _ ((x11_1) % 256) [.int .u8 ((x11_1) % 256)] from rfl) (Reps.none _ _))); intro v152 w10 ho11 hb hg_ hnew_; clear hg_ hnew_; (first | rw [← Ny151.out] at ho11 | (simp only [Int.reduceToNat] at ho11; rw [← Ny151.out] at ho11)); have n0_ := Aside0.mk (Kd.R_elder' (by (with_reducible repeat (first | apply Kd.R_alloc | apply Kd.R_drewN | apply Kd.R_drew)); exact HO_9.out) (Kd.R_base ho11) hb); have n1_ := Aside0.mk (Kd.R_lower (Kd.R_new' ho11 (Kd.R_lt (by (with_reducible repeat (first | apply Kd.R_alloc | apply Kd.R_drewN | apply Kd.R_drew)); exact HO_9.out))) (below_size (by repeat (first | (with_reducible first | exact HB.out | apply below_alloc | apply pw_below_drewN | apply below_drew1) | exact HB.out)))); have n2_ := Aside0.mk (below_step (by repeat (first | (with_reducible first | exact HB.out | apply below_alloc | apply pw_below_drewN | apply below_drew1) | exact HB.out)) hb); clear HO_9; clear HB; have HO_9 := n0_; have HO153 := n1_; have HB := n2_; clear n0_ n1_ n2_; clear hb ho11; obtain ⟨Ao12, co12, eo12⟩ := Kd.R_slice HO153.out; subst eo12) | ((with_reducible refine gate_callee (f := 18) rfl ?_); refine goesL_ (some 35) rfl rfl Try.func18 (by kernel_rfl) rfl #[.int .u32 ((a2 + 1) % 4294967296), .int .u32 ((x11_1) % 4294967296), .slice Ao12 y151.length co12] rfl (by (try simp only [List.map_toArray, List.map_cons, List.map_nil]); first | done | rfl | (simp only [List.length_drop, List.length_take]; rfl)) ?_; (with_reducible refine (frame_Bytes.calls k1 ((a2 + 1) % 4294967296) ((x11_1) % 4294967296) _ _ y151 t154 _ ?side1 ?side2 A8.out).mono ?_); (case side1 => repeat (first | exact (Kd.R_reads' HO153.out).2.2 | (with_reducible refine Kd.C_alloc ?_ _) | (with_reducible refine Kd.C_drewN ?_ _) | (with_reducible refine Kd.C_drew ?_))); (case side2 => exact (Kd.R_reads' HO153.out).2.1); rintro e w13 ⟨v155, rfl, ho0, hb⟩; refine ⟨_, rfl, ?_⟩; have n0_ := Aside0.mk (Kd.R_elder' (by (with_reducible repeat (first | apply Kd.R_alloc | apply Kd.R_drewN | apply Kd.R_drew)); exact HO_9.out) (Kd.R_base ho0) hb); have n1_ := Aside0.mk (Kd.R_elder' (by (with_reducible repeat (first | apply Kd.R_alloc | apply Kd.R_drewN | apply Kd.R_drew)); exact HO153.out) (Kd.R_base ho0) hb); have n2_ := Aside0.mk (Kd.R_lower (Kd.R_new' (Kd.R_new' ho0 (Kd.R_lt (by (with_reducible repeat (first | apply Kd.R_alloc | apply Kd.R_drewN | apply Kd.R_drew)); exact HO_9.out))) (Kd.R_lt (by (with_reducible repeat (first | apply Kd.R_alloc | apply Kd.R_drewN | apply Kd.R_drew)); exact HO153.out))) (below_size (by repeat (first | (with_reducible first | exact HB.out | apply below_alloc | apply pw_below_drewN | apply below_drew1) | exact HB.out)))); have n3_ := Aside0.mk (below_step (by repeat (first | (with_reducible first | exact HB.out | apply below_alloc | apply pw_below_drewN | apply below_drew1) | exact HB.out)) hb); clear HO_9; clear HO153; clear HB; have HO_9 := n0_; have HO153 := n1_; have HO156 := n2_; have HB := n3_; clear n0_ n1_ n2_ n3_; (try clear hb); (try clear hb2); (try clear hk); (try clear hi); (try clear ho0); obtain ⟨Ao15, co15, eo15⟩ := Kd.R_slice HO156.out; subst eo15) | ((with_reducible refine gate_builtin (b := .append) (xs := #[.tmp 27, .tmp 35]) rfl ?_); at_builtin; refine Kd.R_append_rows (Kd.int .u8) (w0 := w) w.heap.size rfl (.tmp 27) (.tmp 35) 22 5 (.int .u8 0) 1 rfl Try.underlying22 info5 rfl (by decide) (by omega) u9 x9_1 t154 _ _ _ (fun k_ => some k_ ≠ (.slice Ao12 y151.length co12 : Value).ownBlock ∧ some k_ ≠ (.slice Ao15 t154.length co15 : Value).ownBlock) (fun _ => False) rfl rfl ?aO ?aR (fun _ _ h => h) (fun _ h => h.elim) ?aF ?aB ?aS ?aL ?_; (case aR => repeat (first | exact (Kd.R_reads' HO156.out).2.2 | (with_reducible refine Kd.C_alloc ?_ _) | (with_reducible refine Kd.C_drewN ?_ _) | (with_reducible refine Kd.C_drew ?_))); (case aB => exact (by repeat (first | (with_reducible first | exact HB.out | apply below_alloc | apply pw_below_drewN | apply below_drew1) | exact HB.out))); (case aF => exact (fun k_ hk => ⟨Kd.fresh' (Kd.R_lt (by (with_reducible repeat (first | apply Kd.R_alloc | apply Kd.R_drewN | apply Kd.R_drew)); exact HO153.out)) k_ hk, Kd.fresh' (Kd.R_lt (by (with_reducible repeat (first | apply Kd.R_alloc | apply Kd.R_drewN | apply Kd.R_drew)); exact HO156.out)) k_ hk⟩)); (case aO => exact (by (with_reducible repeat (first | apply Kd.R_alloc | apply Kd.R_drewN | apply Kd.R_drew)); exact Kd.R_mono HO_9.out (fun _ hk => ⟨hk.1.2, hk.2⟩))); (case aS => exact (below_size (by repeat (first | (with_reducible first | exact HB.out | apply below_alloc | apply pw_below_drewN | apply below_drew1) | exact HB.out)))); (case aL => have := LMc9.out; omega); intro v158 w14 ho hb hg hat; rw [← Ny157.out] at ho; have n0_ := Aside0.mk (Kd.R_after (ok := (fun k_ => some k_ ≠ (.slice Ao15 t154.length co15 : Value).ownBlock)) (by (with_reducible repeat (first | apply Kd.R_alloc | apply Kd.R_drewN | apply Kd.R_drew)); exact Kd.R_mono HO153.out (fun _ hk => ⟨hk.2, hk.1.2⟩)) hg hat); have n1_ := Aside0.mk (Kd.R_after (ok := (fun k_ => some k_ ≠ (.slice Ao12 y151.length co12 : Value).ownBlock)) (by (with_reducible repeat (first | apply Kd.R_alloc | apply Kd.R_drewN | apply Kd.R_drew)); exact Kd.R_mono HO156.out (fun _ hk => ⟨hk.2, hk.1.2⟩)) hg hat); have n2_ := Aside0.mk (hb); have n3_ := Aside0.mk (ho); clear HO153; clear HO156; clear HB; clear HO_9; have HO153 := n0_; have HO156 := n1_; have HB := n2_; have HO159 := n3_; clear n0_ n1_ n2_ n3_; clear ho hb hg hat))
            go_roundg k1
            case measure => have := HK1.out; omega
            case rel => exact ⟨(y157), (x10_1), (wrap64 (x11_1 + 1)), (by first | rfl | (simp; done) | (simp [*]; done)), (by first | rfl | (simp; done) | (simp [*]; done)), H', ⟨by have := HK1.out; omega⟩, ⟨by (with_reducible repeat (first | apply Kd.R_alloc | apply Kd.R_drewN | apply Kd.R_drew)); exact Kd.R_mono HO159.out (fun _ hk => trivial)⟩, ⟨by repeat (first | (with_reducible first | exact HB.out | apply below_alloc | apply pw_below_drewN | apply below_drew1) | exact HB.out)⟩⟩
          · rw [if_neg c9] at H
            exact absurd H (by simp)
        · rw [if_neg c7] at H
          have c7b0 : (x11_1 == t150) = false := beq_eq_false_iff_ne.mpr c7
          have c7b1 : (x11_1 != t150) = true := bne_iff_ne.mpr c7
          obtain ⟨y160, hy160⟩ : ∃ y_ : List Int, y_ = (([(x11_1) % 256] : List Int)) := ⟨_, rfl⟩
          replace H : ((frame_Bytes.f k1 a2 ((x11_1) % 4294967296) y160).bind fun t163 => (if x9_1.length + t163.length < 140737488355328 then ((some (x9_1 ++ t163 : List Int)).bind fun y166 => (if x11_1 < t150 then (engramlaw3_FrameScans.l0 k1 a2 t149 t150 y166 (wrap64 (x10_1 + 1)) (wrap64 (x11_1 + 1))) else (engramlaw3_FrameScans.l0 k1 a2 t149 t150 y166 x10_1 (wrap64 (x11_1 + 1))))) else (none))) = some r := by first | (rw [hy160]; with_reducible exact H) | (have H2_ := (Option.bind_some _ _).symm.trans H; rw [hy160]; with_reducible exact H2_) | (have H2_ := (Option.bind_some _ _).symm.trans H; with_reducible exact H2_) | with_reducible exact H | (rw [hy160]; exact H) | exact H
          have Ny160 := Aside0.mk hy160
          clear hy160
          replace H := Option.bind_eq_some_iff.mp H
          obtain ⟨t163, A160, H⟩ := H
          replace H : (if x9_1.length + t163.length < 140737488355328 then ((some (x9_1 ++ t163 : List Int)).bind fun y166 => (if x11_1 < t150 then (engramlaw3_FrameScans.l0 k1 a2 t149 t150 y166 (wrap64 (x10_1 + 1)) (wrap64 (x11_1 + 1))) else (engramlaw3_FrameScans.l0 k1 a2 t149 t150 y166 x10_1 (wrap64 (x11_1 + 1))))) else (none)) = some r := H
          have A16 := Aside0.mk A160
          clear A160
          by_cases c17 : x9_1.length + t163.length < 140737488355328
          · rw [if_pos c17] at H
            have LMc17 := Aside0.mk c17
            clear c17
            obtain ⟨y166, hy166⟩ : ∃ y_ : List Int, y_ = (x9_1 ++ t163) := ⟨_, rfl⟩
            replace H : (if x11_1 < t150 then (engramlaw3_FrameScans.l0 k1 a2 t149 t150 y166 (wrap64 (x10_1 + 1)) (wrap64 (x11_1 + 1))) else (engramlaw3_FrameScans.l0 k1 a2 t149 t150 y166 x10_1 (wrap64 (x11_1 + 1)))) = some r := by first | (rw [hy166]; with_reducible exact H) | (have H2_ := (Option.bind_some _ _).symm.trans H; rw [hy166]; with_reducible exact H2_) | (have H2_ := (Option.bind_some _ _).symm.trans H; with_reducible exact H2_) | with_reducible exact H | (rw [hy166]; exact H) | exact H
            have Ny166 := Aside0.mk hy166
            clear hy166
            by_cases c18 : x11_1 < t150
            · rw [if_pos c18] at H
              have c18b0 : decide (x11_1 < t150) = true := decide_eq_true c18
              clear c18
              have H' := Aside0.mk H
              clear H
              go_wp2_with (first | ((with_reducible refine gate_dst (N := 43) rfl ?_); refine Kd.R_lit (Kd.int .u8) _ 5 ?hg (N := 43) ?hd (xs := ([(x11_1) % 256] : List Int)) (inner := [.int .u8 ((x11_1) % 256)]) (ok := fun _ => True) (okp := fun _ => True) ?hr ?hp (fun _ hk => hk) trivial (Below.refl _ _) (Nat.le_refl _) (by simp) ?_; (case hd => rfl); (case hg => rfl); (case hr => first | (go_simp; done) | (go_simp; rfl)); (case hp => exact (Reps.one (show Kd.M (Kd.int .u8) _ _ _ ((x11_1) % 256) [.int .u8 ((x11_1) % 256)] from rfl) (Reps.none _ _))); intro v161 w19 ho20 hb hg_ hnew_; clear hg_ hnew_; (first | rw [← Ny160.out] at ho20 | (simp only [Int.reduceToNat] at ho20; rw [← Ny160.out] at ho20)); have n0_ := Aside0.mk (Kd.R_elder' (by (with_reducible repeat (first | apply Kd.R_alloc | apply Kd.R_drewN | apply Kd.R_drew)); exact HO_9.out) (Kd.R_base ho20) hb); have n1_ := Aside0.mk (Kd.R_lower (Kd.R_new' ho20 (Kd.R_lt (by (with_reducible repeat (first | apply Kd.R_alloc | apply Kd.R_drewN | apply Kd.R_drew)); exact HO_9.out))) (below_size (by repeat (first | (with_reducible first | exact HB.out | apply below_alloc | apply pw_below_drewN | apply below_drew1) | exact HB.out)))); have n2_ := Aside0.mk (below_step (by repeat (first | (with_reducible first | exact HB.out | apply below_alloc | apply pw_below_drewN | apply below_drew1) | exact HB.out)) hb); clear HO_9; clear HB; have HO_9 := n0_; have HO162 := n1_; have HB := n2_; clear n0_ n1_ n2_; clear hb ho20; obtain ⟨Ao21, co21, eo21⟩ := Kd.R_slice HO162.out; subst eo21) | ((with_reducible refine gate_callee (f := 18) rfl ?_); refine goesL_ (some 44) rfl rfl Try.func18 (by kernel_rfl) rfl #[.int .u32 a2, .int .u32 ((x11_1) % 4294967296), .slice Ao21 y160.length co21] rfl (by (try simp only [List.map_toArray, List.map_cons, List.map_nil]); first | done | rfl | (simp only [List.length_drop, List.length_take]; rfl)) ?_; (with_reducible refine (frame_Bytes.calls k1 a2 ((x11_1) % 4294967296) _ _ y160 t163 _ ?side1 ?side2 A16.out).mono ?_); (case side1 => repeat (first | exact (Kd.R_reads' HO162.out).2.2 | (with_reducible refine Kd.C_alloc ?_ _) | (with_reducible refine Kd.C_drewN ?_ _) | (with_reducible refine Kd.C_drew ?_))); (case side2 => exact (Kd.R_reads' HO162.out).2.1); rintro e w22 ⟨v164, rfl, ho0, hb⟩; refine ⟨_, rfl, ?_⟩; have n0_ := Aside0.mk (Kd.R_elder' (by (with_reducible repeat (first | apply Kd.R_alloc | apply Kd.R_drewN | apply Kd.R_drew)); exact HO_9.out) (Kd.R_base ho0) hb); have n1_ := Aside0.mk (Kd.R_elder' (by (with_reducible repeat (first | apply Kd.R_alloc | apply Kd.R_drewN | apply Kd.R_drew)); exact HO162.out) (Kd.R_base ho0) hb); have n2_ := Aside0.mk (Kd.R_lower (Kd.R_new' (Kd.R_new' ho0 (Kd.R_lt (by (with_reducible repeat (first | apply Kd.R_alloc | apply Kd.R_drewN | apply Kd.R_drew)); exact HO_9.out))) (Kd.R_lt (by (with_reducible repeat (first | apply Kd.R_alloc | apply Kd.R_drewN | apply Kd.R_drew)); exact HO162.out))) (below_size (by repeat (first | (with_reducible first | exact HB.out | apply below_alloc | apply pw_below_drewN | apply below_drew1) | exact HB.out)))); have n3_ := Aside0.mk (below_step (by repeat (first | (with_reducible first | exact HB.out | apply below_alloc | apply pw_below_drewN | apply below_drew1) | exact HB.out)) hb); clear HO_9; clear HO162; clear HB; have HO_9 := n0_; have HO162 := n1_; have HO165 := n2_; have HB := n3_; clear n0_ n1_ n2_ n3_; (try clear hb); (try clear hb2); (try clear hk); (try clear hi); (try clear ho0); obtain ⟨Ao24, co24, eo24⟩ := Kd.R_slice HO165.out; subst eo24) | ((with_reducible refine gate_builtin (b := .append) (xs := #[.tmp 37, .tmp 44]) rfl ?_); at_builtin; refine Kd.R_append_rows (Kd.int .u8) (w0 := w) w.heap.size rfl (.tmp 37) (.tmp 44) 22 5 (.int .u8 0) 1 rfl Try.underlying22 info5 rfl (by decide) (by omega) u9 x9_1 t163 _ _ _ (fun k_ => some k_ ≠ (.slice Ao21 y160.length co21 : Value).ownBlock ∧ some k_ ≠ (.slice Ao24 t163.length co24 : Value).ownBlock) (fun _ => False) rfl rfl ?aO ?aR (fun _ _ h => h) (fun _ h => h.elim) ?aF ?aB ?aS ?aL ?_; (case aR => repeat (first | exact (Kd.R_reads' HO165.out).2.2 | (with_reducible refine Kd.C_alloc ?_ _) | (with_reducible refine Kd.C_drewN ?_ _) | (with_reducible refine Kd.C_drew ?_))); (case aB => exact (by repeat (first | (with_reducible first | exact HB.out | apply below_alloc | apply pw_below_drewN | apply below_drew1) | exact HB.out))); (case aF => exact (fun k_ hk => ⟨Kd.fresh' (Kd.R_lt (by (with_reducible repeat (first | apply Kd.R_alloc | apply Kd.R_drewN | apply Kd.R_drew)); exact HO162.out)) k_ hk, Kd.fresh' (Kd.R_lt (by (with_reducible repeat (first | apply Kd.R_alloc | apply Kd.R_drewN | apply Kd.R_drew)); exact HO165.out)) k_ hk⟩)); (case aO => exact (by (with_reducible repeat (first | apply Kd.R_alloc | apply Kd.R_drewN | apply Kd.R_drew)); exact Kd.R_mono HO_9.out (fun _ hk => ⟨hk.1.2, hk.2⟩))); (case aS => exact (below_size (by repeat (first | (with_reducible first | exact HB.out | apply below_alloc | apply pw_below_drewN | apply below_drew1) | exact HB.out)))); (case aL => have := LMc17.out; omega); intro v167 w23 ho hb hg hat; rw [← Ny166.out] at ho; have n0_ := Aside0.mk (Kd.R_after (ok := (fun k_ => some k_ ≠ (.slice Ao24 t163.length co24 : Value).ownBlock)) (by (with_reducible repeat (first | apply Kd.R_alloc | apply Kd.R_drewN | apply Kd.R_drew)); exact Kd.R_mono HO162.out (fun _ hk => ⟨hk.2, hk.1.2⟩)) hg hat); have n1_ := Aside0.mk (Kd.R_after (ok := (fun k_ => some k_ ≠ (.slice Ao21 y160.length co21 : Value).ownBlock)) (by (with_reducible repeat (first | apply Kd.R_alloc | apply Kd.R_drewN | apply Kd.R_drew)); exact Kd.R_mono HO165.out (fun _ hk => ⟨hk.2, hk.1.2⟩)) hg hat); have n2_ := Aside0.mk (hb); have n3_ := Aside0.mk (ho); clear HO162; clear HO165; clear HB; clear HO_9; have HO162 := n0_; have HO165 := n1_; have HB := n2_; have HO168 := n3_; clear n0_ n1_ n2_ n3_; clear ho hb hg hat))
              go_roundg k1
              case measure => have := HK1.out; omega
              case rel => exact ⟨(y166), (wrap64 (x10_1 + 1)), (wrap64 (x11_1 + 1)), (by first | rfl | (simp; done) | (simp [*]; done)), (by first | rfl | (simp; done) | (simp [*]; done)), H', ⟨by have := HK1.out; omega⟩, ⟨by (with_reducible repeat (first | apply Kd.R_alloc | apply Kd.R_drewN | apply Kd.R_drew)); exact Kd.R_mono HO168.out (fun _ hk => trivial)⟩, ⟨by repeat (first | (with_reducible first | exact HB.out | apply below_alloc | apply pw_below_drewN | apply below_drew1) | exact HB.out)⟩⟩
            · rw [if_neg c18] at H
              have c18b0 : decide (x11_1 < t150) = false := decide_eq_false c18
              clear c18
              have H' := Aside0.mk H
              clear H
              go_wp2_with (first | ((with_reducible refine gate_dst (N := 43) rfl ?_); refine Kd.R_lit (Kd.int .u8) _ 5 ?hg (N := 43) ?hd (xs := ([(x11_1) % 256] : List Int)) (inner := [.int .u8 ((x11_1) % 256)]) (ok := fun _ => True) (okp := fun _ => True) ?hr ?hp (fun _ hk => hk) trivial (Below.refl _ _) (Nat.le_refl _) (by simp) ?_; (case hd => rfl); (case hg => rfl); (case hr => first | (go_simp; done) | (go_simp; rfl)); (case hp => exact (Reps.one (show Kd.M (Kd.int .u8) _ _ _ ((x11_1) % 256) [.int .u8 ((x11_1) % 256)] from rfl) (Reps.none _ _))); intro v161 w25 ho26 hb hg_ hnew_; clear hg_ hnew_; (first | rw [← Ny160.out] at ho26 | (simp only [Int.reduceToNat] at ho26; rw [← Ny160.out] at ho26)); have n0_ := Aside0.mk (Kd.R_elder' (by (with_reducible repeat (first | apply Kd.R_alloc | apply Kd.R_drewN | apply Kd.R_drew)); exact HO_9.out) (Kd.R_base ho26) hb); have n1_ := Aside0.mk (Kd.R_lower (Kd.R_new' ho26 (Kd.R_lt (by (with_reducible repeat (first | apply Kd.R_alloc | apply Kd.R_drewN | apply Kd.R_drew)); exact HO_9.out))) (below_size (by repeat (first | (with_reducible first | exact HB.out | apply below_alloc | apply pw_below_drewN | apply below_drew1) | exact HB.out)))); have n2_ := Aside0.mk (below_step (by repeat (first | (with_reducible first | exact HB.out | apply below_alloc | apply pw_below_drewN | apply below_drew1) | exact HB.out)) hb); clear HO_9; clear HB; have HO_9 := n0_; have HO162 := n1_; have HB := n2_; clear n0_ n1_ n2_; clear hb ho26; obtain ⟨Ao27, co27, eo27⟩ := Kd.R_slice HO162.out; subst eo27) | ((with_reducible refine gate_callee (f := 18) rfl ?_); refine goesL_ (some 44) rfl rfl Try.func18 (by kernel_rfl) rfl #[.int .u32 a2, .int .u32 ((x11_1) % 4294967296), .slice Ao27 y160.length co27] rfl (by (try simp only [List.map_toArray, List.map_cons, List.map_nil]); first | done | rfl | (simp only [List.length_drop, List.length_take]; rfl)) ?_; (with_reducible refine (frame_Bytes.calls k1 a2 ((x11_1) % 4294967296) _ _ y160 t163 _ ?side1 ?side2 A16.out).mono ?_); (case side1 => repeat (first | exact (Kd.R_reads' HO162.out).2.2 | (with_reducible refine Kd.C_alloc ?_ _) | (with_reducible refine Kd.C_drewN ?_ _) | (with_reducible refine Kd.C_drew ?_))); (case side2 => exact (Kd.R_reads' HO162.out).2.1); rintro e w28 ⟨v164, rfl, ho0, hb⟩; refine ⟨_, rfl, ?_⟩; have n0_ := Aside0.mk (Kd.R_elder' (by (with_reducible repeat (first | apply Kd.R_alloc | apply Kd.R_drewN | apply Kd.R_drew)); exact HO_9.out) (Kd.R_base ho0) hb); have n1_ := Aside0.mk (Kd.R_elder' (by (with_reducible repeat (first | apply Kd.R_alloc | apply Kd.R_drewN | apply Kd.R_drew)); exact HO162.out) (Kd.R_base ho0) hb); have n2_ := Aside0.mk (Kd.R_lower (Kd.R_new' (Kd.R_new' ho0 (Kd.R_lt (by (with_reducible repeat (first | apply Kd.R_alloc | apply Kd.R_drewN | apply Kd.R_drew)); exact HO_9.out))) (Kd.R_lt (by (with_reducible repeat (first | apply Kd.R_alloc | apply Kd.R_drewN | apply Kd.R_drew)); exact HO162.out))) (below_size (by repeat (first | (with_reducible first | exact HB.out | apply below_alloc | apply pw_below_drewN | apply below_drew1) | exact HB.out)))); have n3_ := Aside0.mk (below_step (by repeat (first | (with_reducible first | exact HB.out | apply below_alloc | apply pw_below_drewN | apply below_drew1) | exact HB.out)) hb); clear HO_9; clear HO162; clear HB; have HO_9 := n0_; have HO162 := n1_; have HO165 := n2_; have HB := n3_; clear n0_ n1_ n2_ n3_; (try clear hb); (try clear hb2); (try clear hk); (try clear hi); (try clear ho0); obtain ⟨Ao30, co30, eo30⟩ := Kd.R_slice HO165.out; subst eo30) | ((with_reducible refine gate_builtin (b := .append) (xs := #[.tmp 37, .tmp 44]) rfl ?_); at_builtin; refine Kd.R_append_rows (Kd.int .u8) (w0 := w) w.heap.size rfl (.tmp 37) (.tmp 44) 22 5 (.int .u8 0) 1 rfl Try.underlying22 info5 rfl (by decide) (by omega) u9 x9_1 t163 _ _ _ (fun k_ => some k_ ≠ (.slice Ao27 y160.length co27 : Value).ownBlock ∧ some k_ ≠ (.slice Ao30 t163.length co30 : Value).ownBlock) (fun _ => False) rfl rfl ?aO ?aR (fun _ _ h => h) (fun _ h => h.elim) ?aF ?aB ?aS ?aL ?_; (case aR => repeat (first | exact (Kd.R_reads' HO165.out).2.2 | (with_reducible refine Kd.C_alloc ?_ _) | (with_reducible refine Kd.C_drewN ?_ _) | (with_reducible refine Kd.C_drew ?_))); (case aB => exact (by repeat (first | (with_reducible first | exact HB.out | apply below_alloc | apply pw_below_drewN | apply below_drew1) | exact HB.out))); (case aF => exact (fun k_ hk => ⟨Kd.fresh' (Kd.R_lt (by (with_reducible repeat (first | apply Kd.R_alloc | apply Kd.R_drewN | apply Kd.R_drew)); exact HO162.out)) k_ hk, Kd.fresh' (Kd.R_lt (by (with_reducible repeat (first | apply Kd.R_alloc | apply Kd.R_drewN | apply Kd.R_drew)); exact HO165.out)) k_ hk⟩)); (case aO => exact (by (with_reducible repeat (first | apply Kd.R_alloc | apply Kd.R_drewN | apply Kd.R_drew)); exact Kd.R_mono HO_9.out (fun _ hk => ⟨hk.1.2, hk.2⟩))); (case aS => exact (below_size (by repeat (first | (with_reducible first | exact HB.out | apply below_alloc | apply pw_below_drewN | apply below_drew1) | exact HB.out)))); (case aL => have := LMc17.out; omega); intro v167 w29 ho hb hg hat; rw [← Ny166.out] at ho; have n0_ := Aside0.mk (Kd.R_after (ok := (fun k_ => some k_ ≠ (.slice Ao30 t163.length co30 : Value).ownBlock)) (by (with_reducible repeat (first | apply Kd.R_alloc | apply Kd.R_drewN | apply Kd.R_drew)); exact Kd.R_mono HO162.out (fun _ hk => ⟨hk.2, hk.1.2⟩)) hg hat); have n1_ := Aside0.mk (Kd.R_after (ok := (fun k_ => some k_ ≠ (.slice Ao27 y160.length co27 : Value).ownBlock)) (by (with_reducible repeat (first | apply Kd.R_alloc | apply Kd.R_drewN | apply Kd.R_drew)); exact Kd.R_mono HO165.out (fun _ hk => ⟨hk.2, hk.1.2⟩)) hg hat); have n2_ := Aside0.mk (hb); have n3_ := Aside0.mk (ho); clear HO162; clear HO165; clear HB; clear HO_9; have HO162 := n0_; have HO165 := n1_; have HB := n2_; have HO168 := n3_; clear n0_ n1_ n2_ n3_; clear ho hb hg hat))
              go_roundg k1
              case measure => have := HK1.out; omega
              case rel => exact ⟨(y166), (x10_1), (wrap64 (x11_1 + 1)), (by first | rfl | (simp; done) | (simp [*]; done)), (by first | rfl | (simp; done) | (simp [*]; done)), H', ⟨by have := HK1.out; omega⟩, ⟨by (with_reducible repeat (first | apply Kd.R_alloc | apply Kd.R_drewN | apply Kd.R_drew)); exact Kd.R_mono HO168.out (fun _ hk => trivial)⟩, ⟨by repeat (first | (with_reducible first | exact HB.out | apply below_alloc | apply pw_below_drewN | apply below_drew1) | exact HB.out)⟩⟩
          · rw [if_neg c17] at H
            exact absurd H (by simp)
      · rw [if_neg c6] at H
        have c6b0 : decide (x11_1 < t149) = false := decide_eq_false c6
        clear c6
        replace H := Option.bind_eq_some_iff.mp H
        obtain ⟨⟨t169, t170⟩, A310, H⟩ := H
        replace H : (if (t169.length : Int) = x10_1 then (engramlaw3_FrameScans.j1 k1 t169 (t170 != (wrap64 (x10_1 * 17)))) else (engramlaw3_FrameScans.j1 k1 t169 true)) = some r := H
        have A31 := Aside0.mk A310
        clear A310
        have HC32 := Aside0.mk H
        clear H
        obtain ⟨Ao33, co33, eo33⟩ := Kd.R_slice HO_9.out
        subst eo33
        go_upto_region 13 with (first | ((with_reducible refine gate_callee (f := 20) rfl ?_); refine goesL_ (some 54) rfl rfl Try.func20 (by kernel_rfl) rfl #[.slice Ao33 x9_1.length co33, .int .u32 a2] rfl (by (try simp only [List.map_toArray, List.map_cons, List.map_nil]); first | done | rfl | (simp only [List.length_drop, List.length_take]; rfl)) ?_; (with_reducible refine (frame_Scan.calls k1 _ _ x9_1 a2 t169 t170 _ ?side1 ?side2 A31.out).mono ?_); (case side1 => repeat (first | exact (Kd.R_reads' HO_9.out).2.2 | (with_reducible refine Kd.C_alloc ?_ _) | (with_reducible refine Kd.C_drewN ?_ _) | (with_reducible refine Kd.C_drew ?_))); (case side2 => exact (Kd.R_reads' HO_9.out).2.1); rintro e w34 ⟨v171, rfl, ho0, hb⟩; refine ⟨_, rfl, ?_⟩; have n0_ := Aside0.mk (Kd.R_below (by (with_reducible repeat (first | apply Kd.R_alloc | apply Kd.R_drewN | apply Kd.R_drew)); exact HO_9.out) hb); have n1_ := Aside0.mk (Kd.S_lower (Kd.S_new' ho0 (Kd.R_lt (by (with_reducible repeat (first | apply Kd.R_alloc | apply Kd.R_drewN | apply Kd.R_drew)); exact HO_9.out))) (below_size (by repeat (first | (with_reducible first | exact HB.out | apply below_alloc | apply pw_below_drewN | apply below_drew1) | exact HB.out)))); have n2_ := Aside0.mk (below_step (by repeat (first | (with_reducible first | exact HB.out | apply below_alloc | apply pw_below_drewN | apply below_drew1) | exact HB.out)) hb); clear HO_9; clear HB; have HO_9 := n0_; have HO172 := n1_; have HB := n2_; clear n0_ n1_ n2_; (try clear hb); (try clear hb2); (try clear hk); (try clear hi); (try clear ho0)))
        (try simp only [Act.put, List.setIfInBounds_toArray, List.set_cons_zero, List.set_cons_succ])
        go_cut [66] (fun v66 wc => ∃ (kq : Nat) (x66_31 : Bool), v66 = .bool x66_31 ∧ Aside0 (engramlaw3_FrameScans.j1 kq t169 x66_31 = some r) ∧ Aside0 (kq ≤ k1) ∧ Aside0 (Kd.S (Kd.slice 5 (Kd.int .u8)) 22 wc w.heap.size (fun _ => True) v171 t169) ∧ Aside0 (Below w.heap.size w wc))
        case first =>
          have H := HC32.out
          clear HC32
          by_cases c35 : (t169.length : Int) = x10_1
          · rw [if_pos c35] at H
            have c35b0 : ((t169.length : Int) == x10_1) = true := beq_iff_eq.mpr c35
            have c35b1 : ((t169.length : Int) != x10_1) = false := bne_eq_false_iff_eq.mpr c35
            clear c35
            (first | rw [c35b0] | (simp only [i64_w, i32_w]; rw [c35b0]) | skip)
            have H' := Aside0.mk H
            clear H
            obtain ⟨Ao36, co36, eo36⟩ := Kd.S_slice HO172.out
            subst eo36
            go_wp2
            go_meet
            case rel => exact ⟨_, ((t170 != (wrap64 (x10_1 * 17)))), (by first | rfl | (simp; done) | (simp [*]; done)), H', ⟨by have := HK1.out; first | omega | exact Nat.le_refl _⟩, ⟨by (with_reducible repeat (first | apply Kd.S_alloc | apply Kd.S_drewN | apply Kd.S_drew)); exact Kd.S_mono HO172.out (fun _ hk => trivial)⟩, ⟨by repeat (first | (with_reducible first | exact HB.out | apply below_alloc | apply pw_below_drewN | apply below_drew1) | exact HB.out)⟩⟩
          · rw [if_neg c35] at H
            have c35b0 : ((t169.length : Int) == x10_1) = false := beq_eq_false_iff_ne.mpr c35
            have c35b1 : ((t169.length : Int) != x10_1) = true := bne_iff_ne.mpr c35
            (first | rw [c35b0] | (simp only [i64_w, i32_w]; rw [c35b0]) | skip)
            have H' := Aside0.mk H
            clear H
            obtain ⟨Ao37, co37, eo37⟩ := Kd.S_slice HO172.out
            subst eo37
            go_wp2
            go_meet
            case rel => exact ⟨_, (true), (by first | rfl | (simp; done) | (simp [*]; done)), H', ⟨by have := HK1.out; first | omega | exact Nat.le_refl _⟩, ⟨by (with_reducible repeat (first | apply Kd.S_alloc | apply Kd.S_drewN | apply Kd.S_drew)); exact Kd.S_mono HO172.out (fun _ hk => trivial)⟩, ⟨by repeat (first | (with_reducible first | exact HB.out | apply below_alloc | apply pw_below_drewN | apply below_drew1) | exact HB.out)⟩⟩
        case rest =>
          clear HC32
          try clear c1
          try clear c2
          try clear p2
          try clear c3
          try clear c6
          try clear c6b0
          try clear p6
          try clear c7
          try clear c7b0
          try clear c7b1
          try clear c9
          try clear c17
          try clear c18
          try clear c18b0
          try clear c20
          try clear c35
          try clear c35b0
          try clear c35b1
          try clear p2
          obtain ⟨kq, x66_31, rfl, HA, HJ31, HO_12, HB⟩ := hcut
          cases kq with
          | zero => exact absurd HA.out (by simp [engramlaw3_FrameScans.j1])
          | succ kj31 =>
            have H := HA.out
            clear HA
            simp only [engramlaw3_FrameScans.j1] at H
            by_cases c38 : x66_31 = true
            · subst c38
              have H1 : (some false) = some r := by rw [if_pos rfl] at H; exact H
              clear H
              have H := H1
              clear H1
              obtain rfl := Option.some.inj H
              go_wp2
              go_ret
              exact ⟨by first | rfl | (simp [errW_none, errW_some] <;> rfl) | (simp [*, errW_none, errW_some] <;> rfl), by repeat (first | (with_reducible first | exact HB.out | apply below_alloc | apply pw_below_drewN | apply below_drew1) | exact HB.out)⟩
            · replace c38 := Bool.eq_false_iff.mpr c38
              subst c38
              have H1 : (engramlaw3_FrameScans.l1 kj31 t169 (t169.length : Int) 0) = some r := by rw [if_neg (show ¬ (false = true) by decide)] at H; exact H
              clear H
              have H := H1
              clear H1
              have H' := Aside0.mk H
              clear H
              obtain ⟨Ao39, co39, eo39⟩ := Kd.S_slice HO_12.out
              subst eo39
              go_wp2
              go_loopg [69] kj31 (fun kq v69 w' => ∃ (x69_3 : Int), v69 = .int .i64 x69_3 ∧ Aside0 (engramlaw3_FrameScans.l1 kq t169 (t169.length : Int) x69_3 = some r) ∧ Aside0 (kq ≤ kj31) ∧ Aside0 (Kd.S (Kd.slice 5 (Kd.int .u8)) 22 w' w.heap.size (fun _ => True) (.slice Ao39 t169.length co39) t169) ∧ Aside0 (Below w.heap.size w w'))
              case atStart => exact ⟨(0), (by first | rfl | (simp; done) | (simp [*]; done)), H', ⟨Nat.le_refl _⟩, ⟨by (with_reducible repeat (first | apply Kd.S_alloc | apply Kd.S_drewN | apply Kd.S_drew)); exact HO_12.out⟩, ⟨by repeat (first | (with_reducible first | exact HB.out | apply below_alloc | apply pw_below_drewN | apply below_drew1) | exact HB.out)⟩⟩
              case round =>
                clear H'
                try clear c1
                try clear c2
                try clear p2
                try clear c3
                try clear c6
                try clear c6b0
                try clear p6
                try clear c7
                try clear c7b0
                try clear c7b1
                try clear c9
                try clear c17
                try clear c18
                try clear c18b0
                try clear c20
                try clear c35
                try clear c35b0
                try clear c35b1
                try clear c38
                try clear p2
                try clear p6
                obtain ⟨x69_3, rfl, HA, HK3, HO_12, HB⟩ := hrel
                cases gk with
                | zero => exact absurd HA.out (by simp [engramlaw3_FrameScans.l1])
                | succ k3 =>
                  have H := HA.out
                  clear HA
                  simp only [engramlaw3_FrameScans.l1] at H
                  by_cases c40 : x69_3 < (t169.length : Int)
                  · rw [if_pos c40] at H
                    have c40b0 : decide (x69_3 < (t169.length : Int)) = true := decide_eq_true c40
                    clear c40
                    by_cases c41 : 0 ≤ x69_3
                    · rw [if_pos c41] at H
                      have c41b0 : decide (0 ≤ x69_3) = true := decide_eq_true c41
                      clear c41
                      by_cases c42 : x69_3 < (t169.length : Int)
                      · rw [if_pos c42] at H
                        have c42b0 : decide (x69_3 < (t169.length : Int)) = true := decide_eq_true c42
                        clear c42
                        by_cases c43 : ((rd_L1 t169 x69_3).length : Int) = 1
                        · rw [if_pos c43] at H
                          have c43b0 : (((rd_L1 t169 x69_3).length : Int) == 1) = true := beq_iff_eq.mpr c43
                          have c43b1 : (((rd_L1 t169 x69_3).length : Int) != 1) = false := bne_eq_false_iff_eq.mpr c43
                          clear c43
                          by_cases c44 : 0 < ((rd_L1 t169 x69_3).length : Int)
                          · rw [if_pos c44] at H
                            have c44b0 : decide (0 < ((rd_L1 t169 x69_3).length : Int)) = true := decide_eq_true c44
                            have c44b1 : decide (0 < (rd_L1 t169 x69_3).length) = true := decide_eq_true (by omega)
                            clear c44
                            by_cases c45 : (rd (rd_L1 t169 x69_3) 0) = ((x69_3) % 256)
                            · rw [if_pos c45] at H
                              have c45b0 : ((rd (rd_L1 t169 x69_3) 0) == ((x69_3) % 256)) = true := beq_iff_eq.mpr c45
                              have c45b1 : ((rd (rd_L1 t169 x69_3) 0) != ((x69_3) % 256)) = false := bne_eq_false_iff_eq.mpr c45
                              clear c45
                              have H' := Aside0.mk H
                              clear H
                              have p173 : 0 ≤ (x69_3 : Int) := of_decide_eq_true (by first | (with_reducible assumption) | assumption)
                              have q173 : x69_3 < (t169.length : Int) := of_decide_eq_true (by first | (with_reducible assumption) | assumption)
                              obtain ⟨ad173, A173_0, c173_0, e173, hx173_0, hl173_0, hi173_0⟩ := at_L1 (Kd.S_reads' HO_12.out).2.2 x69_3 p173 q173
                              cases e173
                              obtain ⟨ce173, hce173, hMe173, hcc173⟩ := Kd.S_get HO_12.out [] x69_3 p173 (by first | exact q173 | exact of_decide_eq_true (by first | (with_reducible assumption) | assumption) | (have e_ := (Kd.S_reads' HO_12.out).1; omega))
                              obtain ⟨ve173_0, rfl, ge173_0⟩ := hMe173
                              have hv173_0 := hcc173 0 _ rfl
                              rw [Nat.add_zero, show ((Kd.slice 5 (Kd.int .u8))).sz = 1 from rfl, Nat.mul_one] at hv173_0
                              replace hv173_0 := Option.some.inj (hv173_0.symm.trans hx173_0)
                              rw [hv173_0] at ge173_0
                              have HL173_0 := Aside0.mk (show Kd.R (Kd.int .u8) 5 _ _ _ _ (rd_L1 t169 x69_3) from ge173_0)
                              clear hv173_0 ge173_0
                              clear hcc173 hce173
                              have HR173_0 := Aside0.mk hi173_0
                              have HC173_0 := Aside0.mk hl173_0
                              clear hi173_0 hl173_0
                              replace p173 := eq_true p173
                              replace q173 := eq_true q173
                              have p174 : 0 ≤ (x69_3 : Int) := of_decide_eq_true (by first | (with_reducible assumption) | assumption)
                              have q174 : x69_3 < (t169.length : Int) := of_decide_eq_true (by first | (with_reducible assumption) | assumption)
                              obtain ⟨ad174, A174_0, c174_0, e174, hx174_0, hl174_0, hi174_0⟩ := at_L1 (Kd.S_reads' HO_12.out).2.2 x69_3 p174 q174
                              obtain rfl : ad173 = ad174 := (by injection e174)
                              obtain ⟨ce174, hce174, hMe174, hcc174⟩ := Kd.S_get HO_12.out [] x69_3 p174 (by first | exact q174 | exact of_decide_eq_true (by first | (with_reducible assumption) | assumption) | (have e_ := (Kd.S_reads' HO_12.out).1; omega))
                              obtain ⟨ve174_0, rfl, ge174_0⟩ := hMe174
                              have hv174_0 := hcc174 0 _ rfl
                              rw [Nat.add_zero, show ((Kd.slice 5 (Kd.int .u8))).sz = 1 from rfl, Nat.mul_one] at hv174_0
                              replace hv174_0 := Option.some.inj (hv174_0.symm.trans hx174_0)
                              rw [hv174_0] at ge174_0
                              have HL174_0 := Aside0.mk (show Kd.R (Kd.int .u8) 5 _ _ _ _ (rd_L1 t169 x69_3) from ge174_0)
                              clear hv174_0 ge174_0
                              clear hcc174 hce174
                              have HR174_0 := Aside0.mk hi174_0
                              have HC174_0 := Aside0.mk hl174_0
                              clear hi174_0 hl174_0
                              replace p174 := eq_true p174
                              replace q174 := eq_true q174
                              have ea_ := Option.some.inj (hx173_0.symm.trans hx174_0)
                              injection ea_ with ea_ en_ ec_
                              subst ea_
                              subst ec_
                              clear en_
                              have p175 : 0 ≤ (0 : Int) := (by omega)
                              have q175 : 0 < ((rd_L1 t169 x69_3).length : Int) := of_decide_eq_true (by first | (with_reducible assumption) | assumption)
                              obtain ⟨ad175, e175, hx175_0⟩ := Kd.at_int (by repeat (first | (with_reducible exact HR174_0.out) | (with_reducible refine Kd.C_alloc ?_ _) | (with_reducible refine Kd.C_drewN ?_ _) | (with_reducible refine Kd.C_drew ?_) | exact HR174_0.out)) 0 p175 q175
                              cases e175
                              have qi175 : (0 < (rd_L1 t169 x69_3).length) = True := eq_true (by omega)
                              (try rw [show ((0 : Int)).toNat = 0 from rfl] at hx175_0)
                              (try rw [Addr.add_zero'] at hx175_0)
                              replace p175 := eq_true p175
                              replace q175 := eq_true q175
                              go_wp2
                              go_roundg k3
                              case measure => have := HK1.out; have := HJ31.out; have := HK3.out; omega
                              case rel => exact ⟨(wrap64 (x69_3 + 1)), (by first | rfl | (simp; done) | (simp [*]; done)), H', ⟨by have := HK1.out; have := HJ31.out; have := HK3.out; omega⟩, ⟨by (with_reducible repeat (first | apply Kd.S_alloc | apply Kd.S_drewN | apply Kd.S_drew)); exact HO_12.out⟩, ⟨by repeat (first | (with_reducible first | exact HB.out | apply below_alloc | apply pw_below_drewN | apply below_drew1) | exact HB.out)⟩⟩
                            · rw [if_neg c45] at H
                              have c45b0 : ((rd (rd_L1 t169 x69_3) 0) == ((x69_3) % 256)) = false := beq_eq_false_iff_ne.mpr c45
                              have c45b1 : ((rd (rd_L1 t169 x69_3) 0) != ((x69_3) % 256)) = true := bne_iff_ne.mpr c45
                              obtain rfl := Option.some.inj H
                              have p173 : 0 ≤ (x69_3 : Int) := of_decide_eq_true (by first | (with_reducible assumption) | assumption)
                              have q173 : x69_3 < (t169.length : Int) := of_decide_eq_true (by first | (with_reducible assumption) | assumption)
                              obtain ⟨ad173, A173_0, c173_0, e173, hx173_0, hl173_0, hi173_0⟩ := at_L1 (Kd.S_reads' HO_12.out).2.2 x69_3 p173 q173
                              cases e173
                              obtain ⟨ce173, hce173, hMe173, hcc173⟩ := Kd.S_get HO_12.out [] x69_3 p173 (by first | exact q173 | exact of_decide_eq_true (by first | (with_reducible assumption) | assumption) | (have e_ := (Kd.S_reads' HO_12.out).1; omega))
                              obtain ⟨ve173_0, rfl, ge173_0⟩ := hMe173
                              have hv173_0 := hcc173 0 _ rfl
                              rw [Nat.add_zero, show ((Kd.slice 5 (Kd.int .u8))).sz = 1 from rfl, Nat.mul_one] at hv173_0
                              replace hv173_0 := Option.some.inj (hv173_0.symm.trans hx173_0)
                              rw [hv173_0] at ge173_0
                              have HL173_0 := Aside0.mk (show Kd.R (Kd.int .u8) 5 _ _ _ _ (rd_L1 t169 x69_3) from ge173_0)
                              clear hv173_0 ge173_0
                              clear hcc173 hce173
                              have HR173_0 := Aside0.mk hi173_0
                              have HC173_0 := Aside0.mk hl173_0
                              clear hi173_0 hl173_0
                              replace p173 := eq_true p173
                              replace q173 := eq_true q173
                              have p174 : 0 ≤ (x69_3 : Int) := of_decide_eq_true (by first | (with_reducible assumption) | assumption)
                              have q174 : x69_3 < (t169.length : Int) := of_decide_eq_true (by first | (with_reducible assumption) | assumption)
                              obtain ⟨ad174, A174_0, c174_0, e174, hx174_0, hl174_0, hi174_0⟩ := at_L1 (Kd.S_reads' HO_12.out).2.2 x69_3 p174 q174
                              obtain rfl : ad173 = ad174 := (by injection e174)
                              obtain ⟨ce174, hce174, hMe174, hcc174⟩ := Kd.S_get HO_12.out [] x69_3 p174 (by first | exact q174 | exact of_decide_eq_true (by first | (with_reducible assumption) | assumption) | (have e_ := (Kd.S_reads' HO_12.out).1; omega))
                              obtain ⟨ve174_0, rfl, ge174_0⟩ := hMe174
                              have hv174_0 := hcc174 0 _ rfl
                              rw [Nat.add_zero, show ((Kd.slice 5 (Kd.int .u8))).sz = 1 from rfl, Nat.mul_one] at hv174_0
                              replace hv174_0 := Option.some.inj (hv174_0.symm.trans hx174_0)
                              rw [hv174_0] at ge174_0
                              have HL174_0 := Aside0.mk (show Kd.R (Kd.int .u8) 5 _ _ _ _ (rd_L1 t169 x69_3) from ge174_0)
                              clear hv174_0 ge174_0
                              clear hcc174 hce174
                              have HR174_0 := Aside0.mk hi174_0
                              have HC174_0 := Aside0.mk hl174_0
                              clear hi174_0 hl174_0
                              replace p174 := eq_true p174
                              replace q174 := eq_true q174
                              have ea_ := Option.some.inj (hx173_0.symm.trans hx174_0)
                              injection ea_ with ea_ en_ ec_
                              subst ea_
                              subst ec_
                              clear en_
                              have p175 : 0 ≤ (0 : Int) := (by omega)
                              have q175 : 0 < ((rd_L1 t169 x69_3).length : Int) := of_decide_eq_true (by first | (with_reducible assumption) | assumption)
                              obtain ⟨ad175, e175, hx175_0⟩ := Kd.at_int (by repeat (first | (with_reducible exact HR174_0.out) | (with_reducible refine Kd.C_alloc ?_ _) | (with_reducible refine Kd.C_drewN ?_ _) | (with_reducible refine Kd.C_drew ?_) | exact HR174_0.out)) 0 p175 q175
                              cases e175
                              have qi175 : (0 < (rd_L1 t169 x69_3).length) = True := eq_true (by omega)
                              (try rw [show ((0 : Int)).toNat = 0 from rfl] at hx175_0)
                              (try rw [Addr.add_zero'] at hx175_0)
                              replace p175 := eq_true p175
                              replace q175 := eq_true q175
                              go_wp2
                              go_ret
                              exact ⟨by first | rfl | (simp [errW_none, errW_some] <;> rfl) | (simp [*, errW_none, errW_some] <;> rfl), by repeat (first | (with_reducible first | exact HB.out | apply below_alloc | apply pw_below_drewN | apply below_drew1) | exact HB.out)⟩
                          · rw [if_neg c44] at H
                            exact absurd H (by simp)
                        · rw [if_neg c43] at H
                          have c43b0 : (((rd_L1 t169 x69_3).length : Int) == 1) = false := beq_eq_false_iff_ne.mpr c43
                          have c43b1 : (((rd_L1 t169 x69_3).length : Int) != 1) = true := bne_iff_ne.mpr c43
                          obtain rfl := Option.some.inj H
                          have p173 : 0 ≤ (x69_3 : Int) := of_decide_eq_true (by first | (with_reducible assumption) | assumption)
                          have q173 : x69_3 < (t169.length : Int) := of_decide_eq_true (by first | (with_reducible assumption) | assumption)
                          obtain ⟨ad173, A173_0, c173_0, e173, hx173_0, hl173_0, hi173_0⟩ := at_L1 (Kd.S_reads' HO_12.out).2.2 x69_3 p173 q173
                          cases e173
                          obtain ⟨ce173, hce173, hMe173, hcc173⟩ := Kd.S_get HO_12.out [] x69_3 p173 (by first | exact q173 | exact of_decide_eq_true (by first | (with_reducible assumption) | assumption) | (have e_ := (Kd.S_reads' HO_12.out).1; omega))
                          obtain ⟨ve173_0, rfl, ge173_0⟩ := hMe173
                          have hv173_0 := hcc173 0 _ rfl
                          rw [Nat.add_zero, show ((Kd.slice 5 (Kd.int .u8))).sz = 1 from rfl, Nat.mul_one] at hv173_0
                          replace hv173_0 := Option.some.inj (hv173_0.symm.trans hx173_0)
                          rw [hv173_0] at ge173_0
                          have HL173_0 := Aside0.mk (show Kd.R (Kd.int .u8) 5 _ _ _ _ (rd_L1 t169 x69_3) from ge173_0)
                          clear hv173_0 ge173_0
                          clear hcc173 hce173
                          have HR173_0 := Aside0.mk hi173_0
                          have HC173_0 := Aside0.mk hl173_0
                          clear hi173_0 hl173_0
                          replace p173 := eq_true p173
                          replace q173 := eq_true q173
                          go_wp2
                          go_ret
                          exact ⟨by first | rfl | (simp [errW_none, errW_some] <;> rfl) | (simp [*, errW_none, errW_some] <;> rfl), by repeat (first | (with_reducible first | exact HB.out | apply below_alloc | apply pw_below_drewN | apply below_drew1) | exact HB.out)⟩
                      · rw [if_neg c42] at H
                        exact absurd H (by simp)
                    · rw [if_neg c41] at H
                      exact absurd H (by simp)
                  · rw [if_neg c40] at H
                    have c40b0 : decide (x69_3 < (t169.length : Int)) = false := decide_eq_false c40
                    clear c40
                    replace H := Option.bind_eq_some_iff.mp H
                    obtain ⟨t176, A460, H⟩ := H
                    replace H : (some t176) = some r := H
                    have A46 := Aside0.mk A460
                    clear A460
                    obtain rfl := Option.some.inj H
                    go_wp2_with (first | ((with_reducible refine gate_callee (f := 16) rfl ?_); refine goesL_ (some 90) rfl rfl Try.func16 (by kernel_rfl) rfl #[] rfl (by (try simp only [List.map_toArray, List.map_cons, List.map_nil]); first | done | rfl | (simp only [List.length_drop, List.length_take]; rfl)) ?_; (with_reducible refine (engramlaw3_known.calls  t176 _ A46.out).mono ?_); rintro e w47 ⟨rfl, hb⟩; refine ⟨_, rfl, ?_⟩; have n0_ := Aside0.mk (Kd.S_below (by (with_reducible repeat (first | apply Kd.S_alloc | apply Kd.S_drewN | apply Kd.S_drew)); exact HO_12.out) hb); have n1_ := Aside0.mk (below_step (by repeat (first | (with_reducible first | exact HB.out | apply below_alloc | apply pw_below_drewN | apply below_drew1) | exact HB.out)) hb); clear HO_12; clear HB; have HO_12 := n0_; have HB := n1_; clear n0_ n1_; (try clear hb); (try clear hb2); (try clear hk); (try clear hi)))
                    go_ret
                    exact ⟨by first | rfl | (simp [errW_none, errW_some] <;> rfl) | (simp [*, errW_none, errW_some] <;> rfl), by repeat (first | (with_reducible first | exact HB.out | apply below_alloc | apply pw_below_drewN | apply below_drew1) | exact HB.out)⟩

/-- THE ONE PURE STATEMENT of engramlaw3_FrameScans: yours. -/
def engramlaw3_FrameScans.Pure : Prop := ∀ (a0 : Int) (a1 : Int) (a2 : Int), (Lit.int .i64 a0).wf = true → (Lit.int .i64 a1).wf = true → (Lit.int .u32 a2).wf = true → ∃ k, engramlaw3_FrameScans.f k a0 a1 a2 = some true
theorem engramlaw3_FrameScans.walk (P : engramlaw3_FrameScans.Pure) (a0 : Int) (a1 : Int) (a2 : Int) (w : World) (w0 : (Lit.int .i64 a0).wf = true) (w1 : (Lit.int .i64 a1).wf = true) (w2 : (Lit.int .u32 a2).wf = true) :
    Calls Try.prog 6 #[.int .i64 a0, .int .i64 a1, .int .u32 a2] w fun e w' => e = .returned (.bool true) ∧ Below w.heap.size w w' := by
  obtain ⟨k, h⟩ := P a0 a1 a2 w0 w1 w2
  refine (engramlaw3_FrameScans.calls k a0 a1 a2 true w h).mono ?_
  rintro e w' ⟨rfl, hd⟩
  exact ⟨rfl, hd⟩

end Go.Proofs.Ytkcinjimjehcnaa.OFrameScans
