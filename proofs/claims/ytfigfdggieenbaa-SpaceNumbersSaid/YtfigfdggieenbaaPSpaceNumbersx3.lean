-- PRINTED BY print.sh 35421559b90ae4d0a3588c463048766b98c2df88dd9212a6774a882060cdf62d: not written by this session
import Derived.Test.YtfigfdggieenbaaPSpaceNumbersx0
import Derived.Test.YtfigfdggieenbaaPSpaceNumbersx1
import Derived.Test.YtfigfdggieenbaaPSpaceNumbersx2
namespace Go.Proofs.Ytfigfdggieenbaa.PSpaceNumbers
open Go.RowKit Go.Proofs.YtfigfdggieenbaaW.PrintWords Go.Proofs.YtfigfdggieenbaaW.PrintLast Go.Proofs.YtfigfdggieenbaaW.PrintMore
attribute [local go_sem] max2_int min2_int max_two min_two max_three min_three max_four min_four   -- for this text's walks alone
set_option linter.unusedVariables false
set_option linter.unusedSimpArgs false

/-! ### engramlaw6_known: function 16 -/
def engramlaw6_known.f (k : Nat)  : Option (Bool) := (space_Most.f k 1 5 0).bind fun t128 => (if t128 = 0 then ((space_Size.f 1 5 0).bind fun t129 => (if t129 = 64 then ((space_Fits.f 1 5 0 0 0).bind fun t130 => (if t130 = true then ((space_Fits.f 1 5 0 0 1).bind fun t131 => (if t131 = true then (some false) else ((space_Left.f 1 5 0 99).bind fun t132 => (if t132 = 0 then ((space_Left.f 1 5 0 (-5)).bind fun t133 => (if t133 = 64 then ((space_Most.f k 0 0 0).bind fun t134 => (some (t134 == (-1)))) else (some false))) else (some false))))) else (some false))) else (some false))) else (some false))
theorem engramlaw6_known.mono : ∀ k, LeO (engramlaw6_known.f k ) (engramlaw6_known.f (k + 1) ) := by
  intro  k
  unfold engramlaw6_known.f
  repeat' first
      | (with_reducible exact space_Most.mono _ _ _ _)
      | (with_reducible exact LeO.refl _)
      | (with_reducible exact LeO.none _)
      | (with_reducible refine LeO.ite ?_ ?_)
      | (with_reducible refine LeO.bind ?_ (fun _ => ?_))
      | exact space_Most.mono _ _ _ _
      | exact LeO.none _
      | refine LeO.ite ?_ ?_
      | refine LeO.bind ?_ (fun _ => ?_)
set_option maxHeartbeats 8000000 in
set_option maxRecDepth 100000 in
theorem engramlaw6_known.calls (k : Nat)  (r : Bool) (w : World) (h : engramlaw6_known.f k  = some r) :
    Calls Try.prog 16 #[] w fun e w' => e = .returned (.bool r) ∧ Below w.heap.size w w' := by
  have hu24 := Try.underlying24
  have HB := Aside0.mk (Below.refl w.heap.size w)
  have H : ((space_Most.f k 1 5 0).bind fun t128 => (if t128 = 0 then ((space_Size.f 1 5 0).bind fun t129 => (if t129 = 64 then ((space_Fits.f 1 5 0 0 0).bind fun t130 => (if t130 = true then ((space_Fits.f 1 5 0 0 1).bind fun t131 => (if t131 = true then (some false) else ((space_Left.f 1 5 0 99).bind fun t132 => (if t132 = 0 then ((space_Left.f 1 5 0 (-5)).bind fun t133 => (if t133 = 64 then ((space_Most.f k 0 0 0).bind fun t134 => (some (t134 == (-1)))) else (some false))) else (some false))))) else (some false))) else (some false))) else (some false))) = some r := h
  clear h
  replace H := Option.bind_eq_some_iff.mp H
  obtain ⟨t128, A10, H⟩ := H
  replace H : (if t128 = 0 then ((space_Size.f 1 5 0).bind fun t129 => (if t129 = 64 then ((space_Fits.f 1 5 0 0 0).bind fun t130 => (if t130 = true then ((space_Fits.f 1 5 0 0 1).bind fun t131 => (if t131 = true then (some false) else ((space_Left.f 1 5 0 99).bind fun t132 => (if t132 = 0 then ((space_Left.f 1 5 0 (-5)).bind fun t133 => (if t133 = 64 then ((space_Most.f k 0 0 0).bind fun t134 => (some (t134 == (-1)))) else (some false))) else (some false))))) else (some false))) else (some false))) else (some false)) = some r := H
  have A1 := Aside0.mk A10
  clear A10
  by_cases c2 : t128 = 0
  · rw [if_pos c2] at H
    have c2b0 : (t128 == 0) = true := beq_iff_eq.mpr c2
    have c2b1 : (t128 != 0) = false := bne_eq_false_iff_eq.mpr c2
    clear c2
    replace H := Option.bind_eq_some_iff.mp H
    obtain ⟨t129, A30, H⟩ := H
    replace H : (if t129 = 64 then ((space_Fits.f 1 5 0 0 0).bind fun t130 => (if t130 = true then ((space_Fits.f 1 5 0 0 1).bind fun t131 => (if t131 = true then (some false) else ((space_Left.f 1 5 0 99).bind fun t132 => (if t132 = 0 then ((space_Left.f 1 5 0 (-5)).bind fun t133 => (if t133 = 64 then ((space_Most.f k 0 0 0).bind fun t134 => (some (t134 == (-1)))) else (some false))) else (some false))))) else (some false))) else (some false)) = some r := H
    have A3 := Aside0.mk A30
    clear A30
    by_cases c4 : t129 = 64
    · rw [if_pos c4] at H
      have c4b0 : (t129 == 64) = true := beq_iff_eq.mpr c4
      have c4b1 : (t129 != 64) = false := bne_eq_false_iff_eq.mpr c4
      clear c4
      replace H := Option.bind_eq_some_iff.mp H
      obtain ⟨t130, A50, H⟩ := H
      replace H : (if t130 = true then ((space_Fits.f 1 5 0 0 1).bind fun t131 => (if t131 = true then (some false) else ((space_Left.f 1 5 0 99).bind fun t132 => (if t132 = 0 then ((space_Left.f 1 5 0 (-5)).bind fun t133 => (if t133 = 64 then ((space_Most.f k 0 0 0).bind fun t134 => (some (t134 == (-1)))) else (some false))) else (some false))))) else (some false)) = some r := H
      have A5 := Aside0.mk A50
      clear A50
      by_cases c6 : t130 = true
      · subst c6
        have H1 : ((space_Fits.f 1 5 0 0 1).bind fun t131 => (if t131 = true then (some false) else ((space_Left.f 1 5 0 99).bind fun t132 => (if t132 = 0 then ((space_Left.f 1 5 0 (-5)).bind fun t133 => (if t133 = 64 then ((space_Most.f k 0 0 0).bind fun t134 => (some (t134 == (-1)))) else (some false))) else (some false))))) = some r := by rw [if_pos rfl] at H; exact H
        clear H
        have H := H1
        clear H1
        replace H := Option.bind_eq_some_iff.mp H
        obtain ⟨t131, A70, H⟩ := H
        replace H : (if t131 = true then (some false) else ((space_Left.f 1 5 0 99).bind fun t132 => (if t132 = 0 then ((space_Left.f 1 5 0 (-5)).bind fun t133 => (if t133 = 64 then ((space_Most.f k 0 0 0).bind fun t134 => (some (t134 == (-1)))) else (some false))) else (some false)))) = some r := H
        have A7 := Aside0.mk A70
        clear A70
        by_cases c8 : t131 = true
        · subst c8
          have H1 : (some false) = some r := by rw [if_pos rfl] at H; exact H
          clear H
          have H := H1
          clear H1
          obtain rfl := Option.some.inj H
          go_enter Try.func16, Try.ntmps16
          go_wp2_with (first | ((with_reducible refine gate_dst (N := 1) rfl ?_); refine box_event ?hg (N := 1) ?hd (cs := #[.int .i64 0, .int .i64 0, .int .u32 0]) (t := 24) ?hr ?_; (case hd => rfl); (case hg => rfl); (case hr => first | (go_simp; done) | (go_simp; rfl)); intro gb127 hg w9 hbox hb; have n0_ := Aside0.mk (below_step (by repeat (first | (with_reducible first | exact HB.out | apply below_alloc | apply pw_below_drewN | apply below_drew1) | exact HB.out)) hb); have n1_ := Aside0.mk (hbox); have n2_ := Aside0.mk ((by rw [hg]; exact (below_size (by repeat (first | (with_reducible first | exact HB.out | apply below_alloc | apply pw_below_drewN | apply below_drew1) | exact HB.out))) : w.heap.size ≤ gb127)); have n3_ := Aside0.mk ((by rw [hg]; exact (below_size (by repeat (first | (with_reducible first | exact HB.out | apply below_alloc | apply pw_below_drewN | apply below_drew1) | exact HB.out))) : w.heap.size ≤ gb127)); clear HB; have HB := n0_; have BK127 := n1_; have GW127 := n2_; have GE127 := n3_; clear n0_ n1_ n2_ n3_; clear hb hbox hg; have hcz10_0 : w9.cell? ⟨gb127, 0, none⟩ = some (.int .i64 0) := (blk_cell BK127.out 0).trans rfl; have hcz10_1 : w9.cell? ⟨gb127, 1, none⟩ = some (.int .i64 0) := (blk_cell BK127.out 1).trans rfl; have hcz10_2 : w9.cell? ⟨gb127, 2, none⟩ = some (.int .u32 0) := (blk_cell BK127.out 2).trans rfl; have hfz10_0 := blk_frozen BK127.out 0; have hfz10_1 := blk_frozen BK127.out 1; have hfz10_2 := blk_frozen BK127.out 2) | ((with_reducible refine gate_callee (f := 18) rfl ?_); refine goesL_ (some 4) rfl rfl Try.func18 (by kernel_rfl) rfl #[.agg #[.int .i64 1, .int .i64 5, .int .u32 0]] rfl (by (try simp only [List.map_toArray, List.map_cons, List.map_nil]); first | done | rfl | (simp only [List.length_drop, List.length_take]; rfl)) ?_; (with_reducible refine (space_Most.calls k 1 5 0 t128 _ A1.out).mono ?_); rintro e w11 ⟨rfl, hb⟩; refine ⟨_, rfl, ?_⟩; have n0_ := Aside0.mk (blk_below (g := gb127) (o := .cells #[.int .i64 1, .int .i64 5, .int .u32 0] 24 (0, 0)) (by (with_reducible repeat (first | refine blk_drewN ?_ _ | refine blk_drew ?_ | refine blk_alloc ?_ _)); refine blk_put (cs := #[.int .i64 1, .int .i64 5, .int .u32 0]) ?_ 2 _ rfl; (with_reducible repeat (first | refine blk_drewN ?_ _ | refine blk_drew ?_ | refine blk_alloc ?_ _)); refine blk_put (cs := #[.int .i64 1, .int .i64 0, .int .u32 0]) ?_ 1 _ rfl; (with_reducible repeat (first | refine blk_drewN ?_ _ | refine blk_drew ?_ | refine blk_alloc ?_ _)); refine blk_put (cs := #[.int .i64 0, .int .i64 0, .int .u32 0]) ?_ 0 _ rfl; (with_reducible repeat (first | refine blk_drewN ?_ _ | refine blk_drew ?_ | refine blk_alloc ?_ _)); exact BK127.out) hb); have n1_ := Aside0.mk (below_step (by repeat (first | (with_reducible first | exact HB.out | apply below_alloc | apply pw_below_drewN | apply below_drew1 | refine below_set ?_ GE127.out) | exact HB.out)) hb); clear BK127; clear HB; have BK127 := n0_; have HB := n1_; clear n0_ n1_; (try clear hb); (try clear hb2); (try clear hk); (try clear hi); have hcz12_0 : w11.cell? ⟨gb127, 0, none⟩ = some (.int .i64 1) := (blk_cell BK127.out 0).trans rfl; have hcz12_1 : w11.cell? ⟨gb127, 1, none⟩ = some (.int .i64 5) := (blk_cell BK127.out 1).trans rfl; have hcz12_2 : w11.cell? ⟨gb127, 2, none⟩ = some (.int .u32 0) := (blk_cell BK127.out 2).trans rfl; have hfz12_0 := blk_frozen BK127.out 0; have hfz12_1 := blk_frozen BK127.out 1; have hfz12_2 := blk_frozen BK127.out 2) | (go_at_call 21; (with_reducible refine (space_Size.calls 1 5 0 t129 _ A3.out).mono ?_); rintro e w13 ⟨rfl, hb⟩; have n0_ := Aside0.mk (blk_below (g := gb127) (o := .cells #[.int .i64 1, .int .i64 5, .int .u32 0] 24 (0, 0)) (by (with_reducible repeat (first | refine blk_drewN ?_ _ | refine blk_drew ?_ | refine blk_alloc ?_ _)); exact BK127.out) hb); have n1_ := Aside0.mk (below_step (by repeat (first | (with_reducible first | exact HB.out | apply below_alloc | apply pw_below_drewN | apply below_drew1 | refine below_set ?_ GE127.out) | exact HB.out)) hb); clear BK127; clear HB; have BK127 := n0_; have HB := n1_; clear n0_ n1_; (try clear hb); (try clear hb2); (try clear hk); (try clear hi); have hcz14_0 : w13.cell? ⟨gb127, 0, none⟩ = some (.int .i64 1) := (blk_cell BK127.out 0).trans rfl; have hcz14_1 : w13.cell? ⟨gb127, 1, none⟩ = some (.int .i64 5) := (blk_cell BK127.out 1).trans rfl; have hcz14_2 : w13.cell? ⟨gb127, 2, none⟩ = some (.int .u32 0) := (blk_cell BK127.out 2).trans rfl; have hfz14_0 := blk_frozen BK127.out 0; have hfz14_1 := blk_frozen BK127.out 1; have hfz14_2 := blk_frozen BK127.out 2) | (go_at_call 19; (with_reducible refine (space_Fits.calls 1 5 0 0 0 true _ A5.out).mono ?_); rintro e w15 ⟨rfl, hb⟩; have n0_ := Aside0.mk (blk_below (g := gb127) (o := .cells #[.int .i64 1, .int .i64 5, .int .u32 0] 24 (0, 0)) (by (with_reducible repeat (first | refine blk_drewN ?_ _ | refine blk_drew ?_ | refine blk_alloc ?_ _)); exact BK127.out) hb); have n1_ := Aside0.mk (below_step (by repeat (first | (with_reducible first | exact HB.out | apply below_alloc | apply pw_below_drewN | apply below_drew1 | refine below_set ?_ GE127.out) | exact HB.out)) hb); clear BK127; clear HB; have BK127 := n0_; have HB := n1_; clear n0_ n1_; (try clear hb); (try clear hb2); (try clear hk); (try clear hi); have hcz16_0 : w15.cell? ⟨gb127, 0, none⟩ = some (.int .i64 1) := (blk_cell BK127.out 0).trans rfl; have hcz16_1 : w15.cell? ⟨gb127, 1, none⟩ = some (.int .i64 5) := (blk_cell BK127.out 1).trans rfl; have hcz16_2 : w15.cell? ⟨gb127, 2, none⟩ = some (.int .u32 0) := (blk_cell BK127.out 2).trans rfl; have hfz16_0 := blk_frozen BK127.out 0; have hfz16_1 := blk_frozen BK127.out 1; have hfz16_2 := blk_frozen BK127.out 2) | (go_at_call 19; (with_reducible refine (space_Fits.calls 1 5 0 0 1 true _ A7.out).mono ?_); rintro e w17 ⟨rfl, hb⟩; have n0_ := Aside0.mk (blk_below (g := gb127) (o := .cells #[.int .i64 1, .int .i64 5, .int .u32 0] 24 (0, 0)) (by (with_reducible repeat (first | refine blk_drewN ?_ _ | refine blk_drew ?_ | refine blk_alloc ?_ _)); exact BK127.out) hb); have n1_ := Aside0.mk (below_step (by repeat (first | (with_reducible first | exact HB.out | apply below_alloc | apply pw_below_drewN | apply below_drew1 | refine below_set ?_ GE127.out) | exact HB.out)) hb); clear BK127; clear HB; have BK127 := n0_; have HB := n1_; clear n0_ n1_; (try clear hb); (try clear hb2); (try clear hk); (try clear hi)))
          go_ret
          exact ⟨by first | rfl | (simp [errW_none, errW_some] <;> rfl) | (simp [*, errW_none, errW_some] <;> rfl), by repeat (first | (with_reducible first | exact HB.out | apply below_alloc | apply pw_below_drewN | apply below_drew1 | refine below_set ?_ GE127.out) | exact HB.out)⟩
        · replace c8 := Bool.eq_false_iff.mpr c8
          subst c8
          have H1 : ((space_Left.f 1 5 0 99).bind fun t132 => (if t132 = 0 then ((space_Left.f 1 5 0 (-5)).bind fun t133 => (if t133 = 64 then ((space_Most.f k 0 0 0).bind fun t134 => (some (t134 == (-1)))) else (some false))) else (some false))) = some r := by rw [if_neg (show ¬ (false = true) by decide)] at H; exact H
          clear H
          have H := H1
          clear H1
          replace H := Option.bind_eq_some_iff.mp H
          obtain ⟨t132, A180, H⟩ := H
          replace H : (if t132 = 0 then ((space_Left.f 1 5 0 (-5)).bind fun t133 => (if t133 = 64 then ((space_Most.f k 0 0 0).bind fun t134 => (some (t134 == (-1)))) else (some false))) else (some false)) = some r := H
          have A18 := Aside0.mk A180
          clear A180
          by_cases c19 : t132 = 0
          · rw [if_pos c19] at H
            have c19b0 : (t132 == 0) = true := beq_iff_eq.mpr c19
            have c19b1 : (t132 != 0) = false := bne_eq_false_iff_eq.mpr c19
            clear c19
            replace H := Option.bind_eq_some_iff.mp H
            obtain ⟨t133, A200, H⟩ := H
            replace H : (if t133 = 64 then ((space_Most.f k 0 0 0).bind fun t134 => (some (t134 == (-1)))) else (some false)) = some r := H
            have A20 := Aside0.mk A200
            clear A200
            by_cases c21 : t133 = 64
            · rw [if_pos c21] at H
              have c21b0 : (t133 == 64) = true := beq_iff_eq.mpr c21
              have c21b1 : (t133 != 64) = false := bne_eq_false_iff_eq.mpr c21
              clear c21
              replace H := Option.bind_eq_some_iff.mp H
              obtain ⟨t134, A220, H⟩ := H
              replace H : (some (t134 == (-1))) = some r := H
              have A22 := Aside0.mk A220
              clear A220
              obtain rfl := Option.some.inj H
              go_enter Try.func16, Try.ntmps16
              go_wp2_with (first | ((with_reducible refine gate_dst (N := 1) rfl ?_); refine box_event ?hg (N := 1) ?hd (cs := #[.int .i64 0, .int .i64 0, .int .u32 0]) (t := 24) ?hr ?_; (case hd => rfl); (case hg => rfl); (case hr => first | (go_simp; done) | (go_simp; rfl)); intro gb127 hg w23 hbox hb; have n0_ := Aside0.mk (below_step (by repeat (first | (with_reducible first | exact HB.out | apply below_alloc | apply pw_below_drewN | apply below_drew1) | exact HB.out)) hb); have n1_ := Aside0.mk (hbox); have n2_ := Aside0.mk ((by rw [hg]; exact (below_size (by repeat (first | (with_reducible first | exact HB.out | apply below_alloc | apply pw_below_drewN | apply below_drew1) | exact HB.out))) : w.heap.size ≤ gb127)); have n3_ := Aside0.mk ((by rw [hg]; exact (below_size (by repeat (first | (with_reducible first | exact HB.out | apply below_alloc | apply pw_below_drewN | apply below_drew1) | exact HB.out))) : w.heap.size ≤ gb127)); clear HB; have HB := n0_; have BK127 := n1_; have GW127 := n2_; have GE127 := n3_; clear n0_ n1_ n2_ n3_; clear hb hbox hg; have hcz24_0 : w23.cell? ⟨gb127, 0, none⟩ = some (.int .i64 0) := (blk_cell BK127.out 0).trans rfl; have hcz24_1 : w23.cell? ⟨gb127, 1, none⟩ = some (.int .i64 0) := (blk_cell BK127.out 1).trans rfl; have hcz24_2 : w23.cell? ⟨gb127, 2, none⟩ = some (.int .u32 0) := (blk_cell BK127.out 2).trans rfl; have hfz24_0 := blk_frozen BK127.out 0; have hfz24_1 := blk_frozen BK127.out 1; have hfz24_2 := blk_frozen BK127.out 2) | ((with_reducible refine gate_callee (f := 18) rfl ?_); refine goesL_ (some 4) rfl rfl Try.func18 (by kernel_rfl) rfl #[.agg #[.int .i64 1, .int .i64 5, .int .u32 0]] rfl (by (try simp only [List.map_toArray, List.map_cons, List.map_nil]); first | done | rfl | (simp only [List.length_drop, List.length_take]; rfl)) ?_; (with_reducible refine (space_Most.calls k 1 5 0 t128 _ A1.out).mono ?_); rintro e w25 ⟨rfl, hb⟩; refine ⟨_, rfl, ?_⟩; have n0_ := Aside0.mk (blk_below (g := gb127) (o := .cells #[.int .i64 1, .int .i64 5, .int .u32 0] 24 (0, 0)) (by (with_reducible repeat (first | refine blk_drewN ?_ _ | refine blk_drew ?_ | refine blk_alloc ?_ _)); refine blk_put (cs := #[.int .i64 1, .int .i64 5, .int .u32 0]) ?_ 2 _ rfl; (with_reducible repeat (first | refine blk_drewN ?_ _ | refine blk_drew ?_ | refine blk_alloc ?_ _)); refine blk_put (cs := #[.int .i64 1, .int .i64 0, .int .u32 0]) ?_ 1 _ rfl; (with_reducible repeat (first | refine blk_drewN ?_ _ | refine blk_drew ?_ | refine blk_alloc ?_ _)); refine blk_put (cs := #[.int .i64 0, .int .i64 0, .int .u32 0]) ?_ 0 _ rfl; (with_reducible repeat (first | refine blk_drewN ?_ _ | refine blk_drew ?_ | refine blk_alloc ?_ _)); exact BK127.out) hb); have n1_ := Aside0.mk (below_step (by repeat (first | (with_reducible first | exact HB.out | apply below_alloc | apply pw_below_drewN | apply below_drew1 | refine below_set ?_ GE127.out) | exact HB.out)) hb); clear BK127; clear HB; have BK127 := n0_; have HB := n1_; clear n0_ n1_; (try clear hb); (try clear hb2); (try clear hk); (try clear hi); have hcz26_0 : w25.cell? ⟨gb127, 0, none⟩ = some (.int .i64 1) := (blk_cell BK127.out 0).trans rfl; have hcz26_1 : w25.cell? ⟨gb127, 1, none⟩ = some (.int .i64 5) := (blk_cell BK127.out 1).trans rfl; have hcz26_2 : w25.cell? ⟨gb127, 2, none⟩ = some (.int .u32 0) := (blk_cell BK127.out 2).trans rfl; have hfz26_0 := blk_frozen BK127.out 0; have hfz26_1 := blk_frozen BK127.out 1; have hfz26_2 := blk_frozen BK127.out 2) | (go_at_call 21; (with_reducible refine (space_Size.calls 1 5 0 t129 _ A3.out).mono ?_); rintro e w27 ⟨rfl, hb⟩; have n0_ := Aside0.mk (blk_below (g := gb127) (o := .cells #[.int .i64 1, .int .i64 5, .int .u32 0] 24 (0, 0)) (by (with_reducible repeat (first | refine blk_drewN ?_ _ | refine blk_drew ?_ | refine blk_alloc ?_ _)); exact BK127.out) hb); have n1_ := Aside0.mk (below_step (by repeat (first | (with_reducible first | exact HB.out | apply below_alloc | apply pw_below_drewN | apply below_drew1 | refine below_set ?_ GE127.out) | exact HB.out)) hb); clear BK127; clear HB; have BK127 := n0_; have HB := n1_; clear n0_ n1_; (try clear hb); (try clear hb2); (try clear hk); (try clear hi); have hcz28_0 : w27.cell? ⟨gb127, 0, none⟩ = some (.int .i64 1) := (blk_cell BK127.out 0).trans rfl; have hcz28_1 : w27.cell? ⟨gb127, 1, none⟩ = some (.int .i64 5) := (blk_cell BK127.out 1).trans rfl; have hcz28_2 : w27.cell? ⟨gb127, 2, none⟩ = some (.int .u32 0) := (blk_cell BK127.out 2).trans rfl; have hfz28_0 := blk_frozen BK127.out 0; have hfz28_1 := blk_frozen BK127.out 1; have hfz28_2 := blk_frozen BK127.out 2) | (go_at_call 19; (with_reducible refine (space_Fits.calls 1 5 0 0 0 true _ A5.out).mono ?_); rintro e w29 ⟨rfl, hb⟩; have n0_ := Aside0.mk (blk_below (g := gb127) (o := .cells #[.int .i64 1, .int .i64 5, .int .u32 0] 24 (0, 0)) (by (with_reducible repeat (first | refine blk_drewN ?_ _ | refine blk_drew ?_ | refine blk_alloc ?_ _)); exact BK127.out) hb); have n1_ := Aside0.mk (below_step (by repeat (first | (with_reducible first | exact HB.out | apply below_alloc | apply pw_below_drewN | apply below_drew1 | refine below_set ?_ GE127.out) | exact HB.out)) hb); clear BK127; clear HB; have BK127 := n0_; have HB := n1_; clear n0_ n1_; (try clear hb); (try clear hb2); (try clear hk); (try clear hi); have hcz30_0 : w29.cell? ⟨gb127, 0, none⟩ = some (.int .i64 1) := (blk_cell BK127.out 0).trans rfl; have hcz30_1 : w29.cell? ⟨gb127, 1, none⟩ = some (.int .i64 5) := (blk_cell BK127.out 1).trans rfl; have hcz30_2 : w29.cell? ⟨gb127, 2, none⟩ = some (.int .u32 0) := (blk_cell BK127.out 2).trans rfl; have hfz30_0 := blk_frozen BK127.out 0; have hfz30_1 := blk_frozen BK127.out 1; have hfz30_2 := blk_frozen BK127.out 2) | (go_at_call 19; (with_reducible refine (space_Fits.calls 1 5 0 0 1 false _ A7.out).mono ?_); rintro e w31 ⟨rfl, hb⟩; have n0_ := Aside0.mk (blk_below (g := gb127) (o := .cells #[.int .i64 1, .int .i64 5, .int .u32 0] 24 (0, 0)) (by (with_reducible repeat (first | refine blk_drewN ?_ _ | refine blk_drew ?_ | refine blk_alloc ?_ _)); exact BK127.out) hb); have n1_ := Aside0.mk (below_step (by repeat (first | (with_reducible first | exact HB.out | apply below_alloc | apply pw_below_drewN | apply below_drew1 | refine below_set ?_ GE127.out) | exact HB.out)) hb); clear BK127; clear HB; have BK127 := n0_; have HB := n1_; clear n0_ n1_; (try clear hb); (try clear hb2); (try clear hk); (try clear hi); have hcz32_0 : w31.cell? ⟨gb127, 0, none⟩ = some (.int .i64 1) := (blk_cell BK127.out 0).trans rfl; have hcz32_1 : w31.cell? ⟨gb127, 1, none⟩ = some (.int .i64 5) := (blk_cell BK127.out 1).trans rfl; have hcz32_2 : w31.cell? ⟨gb127, 2, none⟩ = some (.int .u32 0) := (blk_cell BK127.out 2).trans rfl; have hfz32_0 := blk_frozen BK127.out 0; have hfz32_1 := blk_frozen BK127.out 1; have hfz32_2 := blk_frozen BK127.out 2) | (go_at_call 22; (with_reducible refine (space_Left.calls 1 5 0 99 t132 _ A18.out).mono ?_); rintro e w33 ⟨rfl, hb⟩; have n0_ := Aside0.mk (blk_below (g := gb127) (o := .cells #[.int .i64 1, .int .i64 5, .int .u32 0] 24 (0, 0)) (by (with_reducible repeat (first | refine blk_drewN ?_ _ | refine blk_drew ?_ | refine blk_alloc ?_ _)); exact BK127.out) hb); have n1_ := Aside0.mk (below_step (by repeat (first | (with_reducible first | exact HB.out | apply below_alloc | apply pw_below_drewN | apply below_drew1 | refine below_set ?_ GE127.out) | exact HB.out)) hb); clear BK127; clear HB; have BK127 := n0_; have HB := n1_; clear n0_ n1_; (try clear hb); (try clear hb2); (try clear hk); (try clear hi); have hcz34_0 : w33.cell? ⟨gb127, 0, none⟩ = some (.int .i64 1) := (blk_cell BK127.out 0).trans rfl; have hcz34_1 : w33.cell? ⟨gb127, 1, none⟩ = some (.int .i64 5) := (blk_cell BK127.out 1).trans rfl; have hcz34_2 : w33.cell? ⟨gb127, 2, none⟩ = some (.int .u32 0) := (blk_cell BK127.out 2).trans rfl; have hfz34_0 := blk_frozen BK127.out 0; have hfz34_1 := blk_frozen BK127.out 1; have hfz34_2 := blk_frozen BK127.out 2) | (go_at_call 22; (with_reducible refine (space_Left.calls 1 5 0 (-5) t133 _ A20.out).mono ?_); rintro e w35 ⟨rfl, hb⟩; have n0_ := Aside0.mk (blk_below (g := gb127) (o := .cells #[.int .i64 1, .int .i64 5, .int .u32 0] 24 (0, 0)) (by (with_reducible repeat (first | refine blk_drewN ?_ _ | refine blk_drew ?_ | refine blk_alloc ?_ _)); exact BK127.out) hb); have n1_ := Aside0.mk (below_step (by repeat (first | (with_reducible first | exact HB.out | apply below_alloc | apply pw_below_drewN | apply below_drew1 | refine below_set ?_ GE127.out) | exact HB.out)) hb); clear BK127; clear HB; have BK127 := n0_; have HB := n1_; clear n0_ n1_; (try clear hb); (try clear hb2); (try clear hk); (try clear hi)) | (go_at_call 18; (with_reducible refine (space_Most.calls k 0 0 0 t134 _ A22.out).mono ?_); rintro e w36 ⟨rfl, hb⟩; have n0_ := Aside0.mk (blk_below (g := gb127) (o := .cells #[.int .i64 1, .int .i64 5, .int .u32 0] 24 (0, 0)) (by (with_reducible repeat (first | refine blk_drewN ?_ _ | refine blk_drew ?_ | refine blk_alloc ?_ _)); exact BK127.out) hb); have n1_ := Aside0.mk (below_step (by repeat (first | (with_reducible first | exact HB.out | apply below_alloc | apply pw_below_drewN | apply below_drew1 | refine below_set ?_ GE127.out) | exact HB.out)) hb); clear BK127; clear HB; have BK127 := n0_; have HB := n1_; clear n0_ n1_; (try clear hb); (try clear hb2); (try clear hk); (try clear hi)))
              go_ret
              exact ⟨by first | rfl | (simp [errW_none, errW_some] <;> rfl) | (simp [*, errW_none, errW_some] <;> rfl), by repeat (first | (with_reducible first | exact HB.out | apply below_alloc | apply pw_below_drewN | apply below_drew1 | refine below_set ?_ GE127.out) | exact HB.out)⟩
            · rw [if_neg c21] at H
              have c21b0 : (t133 == 64) = false := beq_eq_false_iff_ne.mpr c21
              have c21b1 : (t133 != 64) = true := bne_iff_ne.mpr c21
              obtain rfl := Option.some.inj H
              go_enter Try.func16, Try.ntmps16
              go_wp2_with (first | ((with_reducible refine gate_dst (N := 1) rfl ?_); refine box_event ?hg (N := 1) ?hd (cs := #[.int .i64 0, .int .i64 0, .int .u32 0]) (t := 24) ?hr ?_; (case hd => rfl); (case hg => rfl); (case hr => first | (go_simp; done) | (go_simp; rfl)); intro gb127 hg w37 hbox hb; have n0_ := Aside0.mk (below_step (by repeat (first | (with_reducible first | exact HB.out | apply below_alloc | apply pw_below_drewN | apply below_drew1) | exact HB.out)) hb); have n1_ := Aside0.mk (hbox); have n2_ := Aside0.mk ((by rw [hg]; exact (below_size (by repeat (first | (with_reducible first | exact HB.out | apply below_alloc | apply pw_below_drewN | apply below_drew1) | exact HB.out))) : w.heap.size ≤ gb127)); have n3_ := Aside0.mk ((by rw [hg]; exact (below_size (by repeat (first | (with_reducible first | exact HB.out | apply below_alloc | apply pw_below_drewN | apply below_drew1) | exact HB.out))) : w.heap.size ≤ gb127)); clear HB; have HB := n0_; have BK127 := n1_; have GW127 := n2_; have GE127 := n3_; clear n0_ n1_ n2_ n3_; clear hb hbox hg; have hcz38_0 : w37.cell? ⟨gb127, 0, none⟩ = some (.int .i64 0) := (blk_cell BK127.out 0).trans rfl; have hcz38_1 : w37.cell? ⟨gb127, 1, none⟩ = some (.int .i64 0) := (blk_cell BK127.out 1).trans rfl; have hcz38_2 : w37.cell? ⟨gb127, 2, none⟩ = some (.int .u32 0) := (blk_cell BK127.out 2).trans rfl; have hfz38_0 := blk_frozen BK127.out 0; have hfz38_1 := blk_frozen BK127.out 1; have hfz38_2 := blk_frozen BK127.out 2) | ((with_reducible refine gate_callee (f := 18) rfl ?_); refine goesL_ (some 4) rfl rfl Try.func18 (by kernel_rfl) rfl #[.agg #[.int .i64 1, .int .i64 5, .int .u32 0]] rfl (by (try simp only [List.map_toArray, List.map_cons, List.map_nil]); first | done | rfl | (simp only [List.length_drop, List.length_take]; rfl)) ?_; (with_reducible refine (space_Most.calls k 1 5 0 t128 _ A1.out).mono ?_); rintro e w39 ⟨rfl, hb⟩; refine ⟨_, rfl, ?_⟩; have n0_ := Aside0.mk (blk_below (g := gb127) (o := .cells #[.int .i64 1, .int .i64 5, .int .u32 0] 24 (0, 0)) (by (with_reducible repeat (first | refine blk_drewN ?_ _ | refine blk_drew ?_ | refine blk_alloc ?_ _)); refine blk_put (cs := #[.int .i64 1, .int .i64 5, .int .u32 0]) ?_ 2 _ rfl; (with_reducible repeat (first | refine blk_drewN ?_ _ | refine blk_drew ?_ | refine blk_alloc ?_ _)); refine blk_put (cs := #[.int .i64 1, .int .i64 0, .int .u32 0]) ?_ 1 _ rfl; (with_reducible repeat (first | refine blk_drewN ?_ _ | refine blk_drew ?_ | refine blk_alloc ?_ _)); refine blk_put (cs := #[.int .i64 0, .int .i64 0, .int .u32 0]) ?_ 0 _ rfl; (with_reducible repeat (first | refine blk_drewN ?_ _ | refine blk_drew ?_ | refine blk_alloc ?_ _)); exact BK127.out) hb); have n1_ := Aside0.mk (below_step (by repeat (first | (with_reducible first | exact HB.out | apply below_alloc | apply pw_below_drewN | apply below_drew1 | refine below_set ?_ GE127.out) | exact HB.out)) hb); clear BK127; clear HB; have BK127 := n0_; have HB := n1_; clear n0_ n1_; (try clear hb); (try clear hb2); (try clear hk); (try clear hi); have hcz40_0 : w39.cell? ⟨gb127, 0, none⟩ = some (.int .i64 1) := (blk_cell BK127.out 0).trans rfl; have hcz40_1 : w39.cell? ⟨gb127, 1, none⟩ = some (.int .i64 5) := (blk_cell BK127.out 1).trans rfl; have hcz40_2 : w39.cell? ⟨gb127, 2, none⟩ = some (.int .u32 0) := (blk_cell BK127.out 2).trans rfl; have hfz40_0 := blk_frozen BK127.out 0; have hfz40_1 := blk_frozen BK127.out 1; have hfz40_2 := blk_frozen BK127.out 2) | (go_at_call 21; (with_reducible refine (space_Size.calls 1 5 0 t129 _ A3.out).mono ?_); rintro e w41 ⟨rfl, hb⟩; have n0_ := Aside0.mk (blk_below (g := gb127) (o := .cells #[.int .i64 1, .int .i64 5, .int .u32 0] 24 (0, 0)) (by (with_reducible repeat (first | refine blk_drewN ?_ _ | refine blk_drew ?_ | refine blk_alloc ?_ _)); exact BK127.out) hb); have n1_ := Aside0.mk (below_step (by repeat (first | (with_reducible first | exact HB.out | apply below_alloc | apply pw_below_drewN | apply below_drew1 | refine below_set ?_ GE127.out) | exact HB.out)) hb); clear BK127; clear HB; have BK127 := n0_; have HB := n1_; clear n0_ n1_; (try clear hb); (try clear hb2); (try clear hk); (try clear hi); have hcz42_0 : w41.cell? ⟨gb127, 0, none⟩ = some (.int .i64 1) := (blk_cell BK127.out 0).trans rfl; have hcz42_1 : w41.cell? ⟨gb127, 1, none⟩ = some (.int .i64 5) := (blk_cell BK127.out 1).trans rfl; have hcz42_2 : w41.cell? ⟨gb127, 2, none⟩ = some (.int .u32 0) := (blk_cell BK127.out 2).trans rfl; have hfz42_0 := blk_frozen BK127.out 0; have hfz42_1 := blk_frozen BK127.out 1; have hfz42_2 := blk_frozen BK127.out 2) | (go_at_call 19; (with_reducible refine (space_Fits.calls 1 5 0 0 0 true _ A5.out).mono ?_); rintro e w43 ⟨rfl, hb⟩; have n0_ := Aside0.mk (blk_below (g := gb127) (o := .cells #[.int .i64 1, .int .i64 5, .int .u32 0] 24 (0, 0)) (by (with_reducible repeat (first | refine blk_drewN ?_ _ | refine blk_drew ?_ | refine blk_alloc ?_ _)); exact BK127.out) hb); have n1_ := Aside0.mk (below_step (by repeat (first | (with_reducible first | exact HB.out | apply below_alloc | apply pw_below_drewN | apply below_drew1 | refine below_set ?_ GE127.out) | exact HB.out)) hb); clear BK127; clear HB; have BK127 := n0_; have HB := n1_; clear n0_ n1_; (try clear hb); (try clear hb2); (try clear hk); (try clear hi); have hcz44_0 : w43.cell? ⟨gb127, 0, none⟩ = some (.int .i64 1) := (blk_cell BK127.out 0).trans rfl; have hcz44_1 : w43.cell? ⟨gb127, 1, none⟩ = some (.int .i64 5) := (blk_cell BK127.out 1).trans rfl; have hcz44_2 : w43.cell? ⟨gb127, 2, none⟩ = some (.int .u32 0) := (blk_cell BK127.out 2).trans rfl; have hfz44_0 := blk_frozen BK127.out 0; have hfz44_1 := blk_frozen BK127.out 1; have hfz44_2 := blk_frozen BK127.out 2) | (go_at_call 19; (with_reducible refine (space_Fits.calls 1 5 0 0 1 false _ A7.out).mono ?_); rintro e w45 ⟨rfl, hb⟩; have n0_ := Aside0.mk (blk_below (g := gb127) (o := .cells #[.int .i64 1, .int .i64 5, .int .u32 0] 24 (0, 0)) (by (with_reducible repeat (first | refine blk_drewN ?_ _ | refine blk_drew ?_ | refine blk_alloc ?_ _)); exact BK127.out) hb); have n1_ := Aside0.mk (below_step (by repeat (first | (with_reducible first | exact HB.out | apply below_alloc | apply pw_below_drewN | apply below_drew1 | refine below_set ?_ GE127.out) | exact HB.out)) hb); clear BK127; clear HB; have BK127 := n0_; have HB := n1_; clear n0_ n1_; (try clear hb); (try clear hb2); (try clear hk); (try clear hi); have hcz46_0 : w45.cell? ⟨gb127, 0, none⟩ = some (.int .i64 1) := (blk_cell BK127.out 0).trans rfl; have hcz46_1 : w45.cell? ⟨gb127, 1, none⟩ = some (.int .i64 5) := (blk_cell BK127.out 1).trans rfl; have hcz46_2 : w45.cell? ⟨gb127, 2, none⟩ = some (.int .u32 0) := (blk_cell BK127.out 2).trans rfl; have hfz46_0 := blk_frozen BK127.out 0; have hfz46_1 := blk_frozen BK127.out 1; have hfz46_2 := blk_frozen BK127.out 2) | (go_at_call 22; (with_reducible refine (space_Left.calls 1 5 0 99 t132 _ A18.out).mono ?_); rintro e w47 ⟨rfl, hb⟩; have n0_ := Aside0.mk (blk_below (g := gb127) (o := .cells #[.int .i64 1, .int .i64 5, .int .u32 0] 24 (0, 0)) (by (with_reducible repeat (first | refine blk_drewN ?_ _ | refine blk_drew ?_ | refine blk_alloc ?_ _)); exact BK127.out) hb); have n1_ := Aside0.mk (below_step (by repeat (first | (with_reducible first | exact HB.out | apply below_alloc | apply pw_below_drewN | apply below_drew1 | refine below_set ?_ GE127.out) | exact HB.out)) hb); clear BK127; clear HB; have BK127 := n0_; have HB := n1_; clear n0_ n1_; (try clear hb); (try clear hb2); (try clear hk); (try clear hi); have hcz48_0 : w47.cell? ⟨gb127, 0, none⟩ = some (.int .i64 1) := (blk_cell BK127.out 0).trans rfl; have hcz48_1 : w47.cell? ⟨gb127, 1, none⟩ = some (.int .i64 5) := (blk_cell BK127.out 1).trans rfl; have hcz48_2 : w47.cell? ⟨gb127, 2, none⟩ = some (.int .u32 0) := (blk_cell BK127.out 2).trans rfl; have hfz48_0 := blk_frozen BK127.out 0; have hfz48_1 := blk_frozen BK127.out 1; have hfz48_2 := blk_frozen BK127.out 2) | (go_at_call 22; (with_reducible refine (space_Left.calls 1 5 0 (-5) t133 _ A20.out).mono ?_); rintro e w49 ⟨rfl, hb⟩; have n0_ := Aside0.mk (blk_below (g := gb127) (o := .cells #[.int .i64 1, .int .i64 5, .int .u32 0] 24 (0, 0)) (by (with_reducible repeat (first | refine blk_drewN ?_ _ | refine blk_drew ?_ | refine blk_alloc ?_ _)); exact BK127.out) hb); have n1_ := Aside0.mk (below_step (by repeat (first | (with_reducible first | exact HB.out | apply below_alloc | apply pw_below_drewN | apply below_drew1 | refine below_set ?_ GE127.out) | exact HB.out)) hb); clear BK127; clear HB; have BK127 := n0_; have HB := n1_; clear n0_ n1_; (try clear hb); (try clear hb2); (try clear hk); (try clear hi)))
              go_ret
              exact ⟨by first | rfl | (simp [errW_none, errW_some] <;> rfl) | (simp [*, errW_none, errW_some] <;> rfl), by repeat (first | (with_reducible first | exact HB.out | apply below_alloc | apply pw_below_drewN | apply below_drew1 | refine below_set ?_ GE127.out) | exact HB.out)⟩
          · rw [if_neg c19] at H
            have c19b0 : (t132 == 0) = false := beq_eq_false_iff_ne.mpr c19
            have c19b1 : (t132 != 0) = true := bne_iff_ne.mpr c19
            obtain rfl := Option.some.inj H
            go_enter Try.func16, Try.ntmps16
            go_wp2_with (first | ((with_reducible refine gate_dst (N := 1) rfl ?_); refine box_event ?hg (N := 1) ?hd (cs := #[.int .i64 0, .int .i64 0, .int .u32 0]) (t := 24) ?hr ?_; (case hd => rfl); (case hg => rfl); (case hr => first | (go_simp; done) | (go_simp; rfl)); intro gb127 hg w50 hbox hb; have n0_ := Aside0.mk (below_step (by repeat (first | (with_reducible first | exact HB.out | apply below_alloc | apply pw_below_drewN | apply below_drew1) | exact HB.out)) hb); have n1_ := Aside0.mk (hbox); have n2_ := Aside0.mk ((by rw [hg]; exact (below_size (by repeat (first | (with_reducible first | exact HB.out | apply below_alloc | apply pw_below_drewN | apply below_drew1) | exact HB.out))) : w.heap.size ≤ gb127)); have n3_ := Aside0.mk ((by rw [hg]; exact (below_size (by repeat (first | (with_reducible first | exact HB.out | apply below_alloc | apply pw_below_drewN | apply below_drew1) | exact HB.out))) : w.heap.size ≤ gb127)); clear HB; have HB := n0_; have BK127 := n1_; have GW127 := n2_; have GE127 := n3_; clear n0_ n1_ n2_ n3_; clear hb hbox hg; have hcz51_0 : w50.cell? ⟨gb127, 0, none⟩ = some (.int .i64 0) := (blk_cell BK127.out 0).trans rfl; have hcz51_1 : w50.cell? ⟨gb127, 1, none⟩ = some (.int .i64 0) := (blk_cell BK127.out 1).trans rfl; have hcz51_2 : w50.cell? ⟨gb127, 2, none⟩ = some (.int .u32 0) := (blk_cell BK127.out 2).trans rfl; have hfz51_0 := blk_frozen BK127.out 0; have hfz51_1 := blk_frozen BK127.out 1; have hfz51_2 := blk_frozen BK127.out 2) | ((with_reducible refine gate_callee (f := 18) rfl ?_); refine goesL_ (some 4) rfl rfl Try.func18 (by kernel_rfl) rfl #[.agg #[.int .i64 1, .int .i64 5, .int .u32 0]] rfl (by (try simp only [List.map_toArray, List.map_cons, List.map_nil]); first | done | rfl | (simp only [List.length_drop, List.length_take]; rfl)) ?_; (with_reducible refine (space_Most.calls k 1 5 0 t128 _ A1.out).mono ?_); rintro e w52 ⟨rfl, hb⟩; refine ⟨_, rfl, ?_⟩; have n0_ := Aside0.mk (blk_below (g := gb127) (o := .cells #[.int .i64 1, .int .i64 5, .int .u32 0] 24 (0, 0)) (by (with_reducible repeat (first | refine blk_drewN ?_ _ | refine blk_drew ?_ | refine blk_alloc ?_ _)); refine blk_put (cs := #[.int .i64 1, .int .i64 5, .int .u32 0]) ?_ 2 _ rfl; (with_reducible repeat (first | refine blk_drewN ?_ _ | refine blk_drew ?_ | refine blk_alloc ?_ _)); refine blk_put (cs := #[.int .i64 1, .int .i64 0, .int .u32 0]) ?_ 1 _ rfl; (with_reducible repeat (first | refine blk_drewN ?_ _ | refine blk_drew ?_ | refine blk_alloc ?_ _)); refine blk_put (cs := #[.int .i64 0, .int .i64 0, .int .u32 0]) ?_ 0 _ rfl; (with_reducible repeat (first | refine blk_drewN ?_ _ | refine blk_drew ?_ | refine blk_alloc ?_ _)); exact BK127.out) hb); have n1_ := Aside0.mk (below_step (by repeat (first | (with_reducible first | exact HB.out | apply below_alloc | apply pw_below_drewN | apply below_drew1 | refine below_set ?_ GE127.out) | exact HB.out)) hb); clear BK127; clear HB; have BK127 := n0_; have HB := n1_; clear n0_ n1_; (try clear hb); (try clear hb2); (try clear hk); (try clear hi); have hcz53_0 : w52.cell? ⟨gb127, 0, none⟩ = some (.int .i64 1) := (blk_cell BK127.out 0).trans rfl; have hcz53_1 : w52.cell? ⟨gb127, 1, none⟩ = some (.int .i64 5) := (blk_cell BK127.out 1).trans rfl; have hcz53_2 : w52.cell? ⟨gb127, 2, none⟩ = some (.int .u32 0) := (blk_cell BK127.out 2).trans rfl; have hfz53_0 := blk_frozen BK127.out 0; have hfz53_1 := blk_frozen BK127.out 1; have hfz53_2 := blk_frozen BK127.out 2) | (go_at_call 21; (with_reducible refine (space_Size.calls 1 5 0 t129 _ A3.out).mono ?_); rintro e w54 ⟨rfl, hb⟩; have n0_ := Aside0.mk (blk_below (g := gb127) (o := .cells #[.int .i64 1, .int .i64 5, .int .u32 0] 24 (0, 0)) (by (with_reducible repeat (first | refine blk_drewN ?_ _ | refine blk_drew ?_ | refine blk_alloc ?_ _)); exact BK127.out) hb); have n1_ := Aside0.mk (below_step (by repeat (first | (with_reducible first | exact HB.out | apply below_alloc | apply pw_below_drewN | apply below_drew1 | refine below_set ?_ GE127.out) | exact HB.out)) hb); clear BK127; clear HB; have BK127 := n0_; have HB := n1_; clear n0_ n1_; (try clear hb); (try clear hb2); (try clear hk); (try clear hi); have hcz55_0 : w54.cell? ⟨gb127, 0, none⟩ = some (.int .i64 1) := (blk_cell BK127.out 0).trans rfl; have hcz55_1 : w54.cell? ⟨gb127, 1, none⟩ = some (.int .i64 5) := (blk_cell BK127.out 1).trans rfl; have hcz55_2 : w54.cell? ⟨gb127, 2, none⟩ = some (.int .u32 0) := (blk_cell BK127.out 2).trans rfl; have hfz55_0 := blk_frozen BK127.out 0; have hfz55_1 := blk_frozen BK127.out 1; have hfz55_2 := blk_frozen BK127.out 2) | (go_at_call 19; (with_reducible refine (space_Fits.calls 1 5 0 0 0 true _ A5.out).mono ?_); rintro e w56 ⟨rfl, hb⟩; have n0_ := Aside0.mk (blk_below (g := gb127) (o := .cells #[.int .i64 1, .int .i64 5, .int .u32 0] 24 (0, 0)) (by (with_reducible repeat (first | refine blk_drewN ?_ _ | refine blk_drew ?_ | refine blk_alloc ?_ _)); exact BK127.out) hb); have n1_ := Aside0.mk (below_step (by repeat (first | (with_reducible first | exact HB.out | apply below_alloc | apply pw_below_drewN | apply below_drew1 | refine below_set ?_ GE127.out) | exact HB.out)) hb); clear BK127; clear HB; have BK127 := n0_; have HB := n1_; clear n0_ n1_; (try clear hb); (try clear hb2); (try clear hk); (try clear hi); have hcz57_0 : w56.cell? ⟨gb127, 0, none⟩ = some (.int .i64 1) := (blk_cell BK127.out 0).trans rfl; have hcz57_1 : w56.cell? ⟨gb127, 1, none⟩ = some (.int .i64 5) := (blk_cell BK127.out 1).trans rfl; have hcz57_2 : w56.cell? ⟨gb127, 2, none⟩ = some (.int .u32 0) := (blk_cell BK127.out 2).trans rfl; have hfz57_0 := blk_frozen BK127.out 0; have hfz57_1 := blk_frozen BK127.out 1; have hfz57_2 := blk_frozen BK127.out 2) | (go_at_call 19; (with_reducible refine (space_Fits.calls 1 5 0 0 1 false _ A7.out).mono ?_); rintro e w58 ⟨rfl, hb⟩; have n0_ := Aside0.mk (blk_below (g := gb127) (o := .cells #[.int .i64 1, .int .i64 5, .int .u32 0] 24 (0, 0)) (by (with_reducible repeat (first | refine blk_drewN ?_ _ | refine blk_drew ?_ | refine blk_alloc ?_ _)); exact BK127.out) hb); have n1_ := Aside0.mk (below_step (by repeat (first | (with_reducible first | exact HB.out | apply below_alloc | apply pw_below_drewN | apply below_drew1 | refine below_set ?_ GE127.out) | exact HB.out)) hb); clear BK127; clear HB; have BK127 := n0_; have HB := n1_; clear n0_ n1_; (try clear hb); (try clear hb2); (try clear hk); (try clear hi); have hcz59_0 : w58.cell? ⟨gb127, 0, none⟩ = some (.int .i64 1) := (blk_cell BK127.out 0).trans rfl; have hcz59_1 : w58.cell? ⟨gb127, 1, none⟩ = some (.int .i64 5) := (blk_cell BK127.out 1).trans rfl; have hcz59_2 : w58.cell? ⟨gb127, 2, none⟩ = some (.int .u32 0) := (blk_cell BK127.out 2).trans rfl; have hfz59_0 := blk_frozen BK127.out 0; have hfz59_1 := blk_frozen BK127.out 1; have hfz59_2 := blk_frozen BK127.out 2) | (go_at_call 22; (with_reducible refine (space_Left.calls 1 5 0 99 t132 _ A18.out).mono ?_); rintro e w60 ⟨rfl, hb⟩; have n0_ := Aside0.mk (blk_below (g := gb127) (o := .cells #[.int .i64 1, .int .i64 5, .int .u32 0] 24 (0, 0)) (by (with_reducible repeat (first | refine blk_drewN ?_ _ | refine blk_drew ?_ | refine blk_alloc ?_ _)); exact BK127.out) hb); have n1_ := Aside0.mk (below_step (by repeat (first | (with_reducible first | exact HB.out | apply below_alloc | apply pw_below_drewN | apply below_drew1 | refine below_set ?_ GE127.out) | exact HB.out)) hb); clear BK127; clear HB; have BK127 := n0_; have HB := n1_; clear n0_ n1_; (try clear hb); (try clear hb2); (try clear hk); (try clear hi)))
            go_ret
            exact ⟨by first | rfl | (simp [errW_none, errW_some] <;> rfl) | (simp [*, errW_none, errW_some] <;> rfl), by repeat (first | (with_reducible first | exact HB.out | apply below_alloc | apply pw_below_drewN | apply below_drew1 | refine below_set ?_ GE127.out) | exact HB.out)⟩
      · replace c6 := Bool.eq_false_iff.mpr c6
        subst c6
        have H1 : (some false) = some r := by rw [if_neg (show ¬ (false = true) by decide)] at H; exact H
        clear H
        have H := H1
        clear H1
        obtain rfl := Option.some.inj H
        go_enter Try.func16, Try.ntmps16
        go_wp2_with (first | ((with_reducible refine gate_dst (N := 1) rfl ?_); refine box_event ?hg (N := 1) ?hd (cs := #[.int .i64 0, .int .i64 0, .int .u32 0]) (t := 24) ?hr ?_; (case hd => rfl); (case hg => rfl); (case hr => first | (go_simp; done) | (go_simp; rfl)); intro gb127 hg w61 hbox hb; have n0_ := Aside0.mk (below_step (by repeat (first | (with_reducible first | exact HB.out | apply below_alloc | apply pw_below_drewN | apply below_drew1) | exact HB.out)) hb); have n1_ := Aside0.mk (hbox); have n2_ := Aside0.mk ((by rw [hg]; exact (below_size (by repeat (first | (with_reducible first | exact HB.out | apply below_alloc | apply pw_below_drewN | apply below_drew1) | exact HB.out))) : w.heap.size ≤ gb127)); have n3_ := Aside0.mk ((by rw [hg]; exact (below_size (by repeat (first | (with_reducible first | exact HB.out | apply below_alloc | apply pw_below_drewN | apply below_drew1) | exact HB.out))) : w.heap.size ≤ gb127)); clear HB; have HB := n0_; have BK127 := n1_; have GW127 := n2_; have GE127 := n3_; clear n0_ n1_ n2_ n3_; clear hb hbox hg; have hcz62_0 : w61.cell? ⟨gb127, 0, none⟩ = some (.int .i64 0) := (blk_cell BK127.out 0).trans rfl; have hcz62_1 : w61.cell? ⟨gb127, 1, none⟩ = some (.int .i64 0) := (blk_cell BK127.out 1).trans rfl; have hcz62_2 : w61.cell? ⟨gb127, 2, none⟩ = some (.int .u32 0) := (blk_cell BK127.out 2).trans rfl; have hfz62_0 := blk_frozen BK127.out 0; have hfz62_1 := blk_frozen BK127.out 1; have hfz62_2 := blk_frozen BK127.out 2) | ((with_reducible refine gate_callee (f := 18) rfl ?_); refine goesL_ (some 4) rfl rfl Try.func18 (by kernel_rfl) rfl #[.agg #[.int .i64 1, .int .i64 5, .int .u32 0]] rfl (by (try simp only [List.map_toArray, List.map_cons, List.map_nil]); first | done | rfl | (simp only [List.length_drop, List.length_take]; rfl)) ?_; (with_reducible refine (space_Most.calls k 1 5 0 t128 _ A1.out).mono ?_); rintro e w63 ⟨rfl, hb⟩; refine ⟨_, rfl, ?_⟩; have n0_ := Aside0.mk (blk_below (g := gb127) (o := .cells #[.int .i64 1, .int .i64 5, .int .u32 0] 24 (0, 0)) (by (with_reducible repeat (first | refine blk_drewN ?_ _ | refine blk_drew ?_ | refine blk_alloc ?_ _)); refine blk_put (cs := #[.int .i64 1, .int .i64 5, .int .u32 0]) ?_ 2 _ rfl; (with_reducible repeat (first | refine blk_drewN ?_ _ | refine blk_drew ?_ | refine blk_alloc ?_ _)); refine blk_put (cs := #[.int .i64 1, .int .i64 0, .int .u32 0]) ?_ 1 _ rfl; (with_reducible repeat (first | refine blk_drewN ?_ _ | refine blk_drew ?_ | refine blk_alloc ?_ _)); refine blk_put (cs := #[.int .i64 0, .int .i64 0, .int .u32 0]) ?_ 0 _ rfl; (with_reducible repeat (first | refine blk_drewN ?_ _ | refine blk_drew ?_ | refine blk_alloc ?_ _)); exact BK127.out) hb); have n1_ := Aside0.mk (below_step (by repeat (first | (with_reducible first | exact HB.out | apply below_alloc | apply pw_below_drewN | apply below_drew1 | refine below_set ?_ GE127.out) | exact HB.out)) hb); clear BK127; clear HB; have BK127 := n0_; have HB := n1_; clear n0_ n1_; (try clear hb); (try clear hb2); (try clear hk); (try clear hi); have hcz64_0 : w63.cell? ⟨gb127, 0, none⟩ = some (.int .i64 1) := (blk_cell BK127.out 0).trans rfl; have hcz64_1 : w63.cell? ⟨gb127, 1, none⟩ = some (.int .i64 5) := (blk_cell BK127.out 1).trans rfl; have hcz64_2 : w63.cell? ⟨gb127, 2, none⟩ = some (.int .u32 0) := (blk_cell BK127.out 2).trans rfl; have hfz64_0 := blk_frozen BK127.out 0; have hfz64_1 := blk_frozen BK127.out 1; have hfz64_2 := blk_frozen BK127.out 2) | (go_at_call 21; (with_reducible refine (space_Size.calls 1 5 0 t129 _ A3.out).mono ?_); rintro e w65 ⟨rfl, hb⟩; have n0_ := Aside0.mk (blk_below (g := gb127) (o := .cells #[.int .i64 1, .int .i64 5, .int .u32 0] 24 (0, 0)) (by (with_reducible repeat (first | refine blk_drewN ?_ _ | refine blk_drew ?_ | refine blk_alloc ?_ _)); exact BK127.out) hb); have n1_ := Aside0.mk (below_step (by repeat (first | (with_reducible first | exact HB.out | apply below_alloc | apply pw_below_drewN | apply below_drew1 | refine below_set ?_ GE127.out) | exact HB.out)) hb); clear BK127; clear HB; have BK127 := n0_; have HB := n1_; clear n0_ n1_; (try clear hb); (try clear hb2); (try clear hk); (try clear hi); have hcz66_0 : w65.cell? ⟨gb127, 0, none⟩ = some (.int .i64 1) := (blk_cell BK127.out 0).trans rfl; have hcz66_1 : w65.cell? ⟨gb127, 1, none⟩ = some (.int .i64 5) := (blk_cell BK127.out 1).trans rfl; have hcz66_2 : w65.cell? ⟨gb127, 2, none⟩ = some (.int .u32 0) := (blk_cell BK127.out 2).trans rfl; have hfz66_0 := blk_frozen BK127.out 0; have hfz66_1 := blk_frozen BK127.out 1; have hfz66_2 := blk_frozen BK127.out 2) | (go_at_call 19; (with_reducible refine (space_Fits.calls 1 5 0 0 0 false _ A5.out).mono ?_); rintro e w67 ⟨rfl, hb⟩; have n0_ := Aside0.mk (blk_below (g := gb127) (o := .cells #[.int .i64 1, .int .i64 5, .int .u32 0] 24 (0, 0)) (by (with_reducible repeat (first | refine blk_drewN ?_ _ | refine blk_drew ?_ | refine blk_alloc ?_ _)); exact BK127.out) hb); have n1_ := Aside0.mk (below_step (by repeat (first | (with_reducible first | exact HB.out | apply below_alloc | apply pw_below_drewN | apply below_drew1 | refine below_set ?_ GE127.out) | exact HB.out)) hb); clear BK127; clear HB; have BK127 := n0_; have HB := n1_; clear n0_ n1_; (try clear hb); (try clear hb2); (try clear hk); (try clear hi)))
        go_ret
        exact ⟨by first | rfl | (simp [errW_none, errW_some] <;> rfl) | (simp [*, errW_none, errW_some] <;> rfl), by repeat (first | (with_reducible first | exact HB.out | apply below_alloc | apply pw_below_drewN | apply below_drew1 | refine below_set ?_ GE127.out) | exact HB.out)⟩
    · rw [if_neg c4] at H
      have c4b0 : (t129 == 64) = false := beq_eq_false_iff_ne.mpr c4
      have c4b1 : (t129 != 64) = true := bne_iff_ne.mpr c4
      obtain rfl := Option.some.inj H
      go_enter Try.func16, Try.ntmps16
      go_wp2_with (first | ((with_reducible refine gate_dst (N := 1) rfl ?_); refine box_event ?hg (N := 1) ?hd (cs := #[.int .i64 0, .int .i64 0, .int .u32 0]) (t := 24) ?hr ?_; (case hd => rfl); (case hg => rfl); (case hr => first | (go_simp; done) | (go_simp; rfl)); intro gb127 hg w68 hbox hb; have n0_ := Aside0.mk (below_step (by repeat (first | (with_reducible first | exact HB.out | apply below_alloc | apply pw_below_drewN | apply below_drew1) | exact HB.out)) hb); have n1_ := Aside0.mk (hbox); have n2_ := Aside0.mk ((by rw [hg]; exact (below_size (by repeat (first | (with_reducible first | exact HB.out | apply below_alloc | apply pw_below_drewN | apply below_drew1) | exact HB.out))) : w.heap.size ≤ gb127)); have n3_ := Aside0.mk ((by rw [hg]; exact (below_size (by repeat (first | (with_reducible first | exact HB.out | apply below_alloc | apply pw_below_drewN | apply below_drew1) | exact HB.out))) : w.heap.size ≤ gb127)); clear HB; have HB := n0_; have BK127 := n1_; have GW127 := n2_; have GE127 := n3_; clear n0_ n1_ n2_ n3_; clear hb hbox hg; have hcz69_0 : w68.cell? ⟨gb127, 0, none⟩ = some (.int .i64 0) := (blk_cell BK127.out 0).trans rfl; have hcz69_1 : w68.cell? ⟨gb127, 1, none⟩ = some (.int .i64 0) := (blk_cell BK127.out 1).trans rfl; have hcz69_2 : w68.cell? ⟨gb127, 2, none⟩ = some (.int .u32 0) := (blk_cell BK127.out 2).trans rfl; have hfz69_0 := blk_frozen BK127.out 0; have hfz69_1 := blk_frozen BK127.out 1; have hfz69_2 := blk_frozen BK127.out 2) | ((with_reducible refine gate_callee (f := 18) rfl ?_); refine goesL_ (some 4) rfl rfl Try.func18 (by kernel_rfl) rfl #[.agg #[.int .i64 1, .int .i64 5, .int .u32 0]] rfl (by (try simp only [List.map_toArray, List.map_cons, List.map_nil]); first | done | rfl | (simp only [List.length_drop, List.length_take]; rfl)) ?_; (with_reducible refine (space_Most.calls k 1 5 0 t128 _ A1.out).mono ?_); rintro e w70 ⟨rfl, hb⟩; refine ⟨_, rfl, ?_⟩; have n0_ := Aside0.mk (blk_below (g := gb127) (o := .cells #[.int .i64 1, .int .i64 5, .int .u32 0] 24 (0, 0)) (by (with_reducible repeat (first | refine blk_drewN ?_ _ | refine blk_drew ?_ | refine blk_alloc ?_ _)); refine blk_put (cs := #[.int .i64 1, .int .i64 5, .int .u32 0]) ?_ 2 _ rfl; (with_reducible repeat (first | refine blk_drewN ?_ _ | refine blk_drew ?_ | refine blk_alloc ?_ _)); refine blk_put (cs := #[.int .i64 1, .int .i64 0, .int .u32 0]) ?_ 1 _ rfl; (with_reducible repeat (first | refine blk_drewN ?_ _ | refine blk_drew ?_ | refine blk_alloc ?_ _)); refine blk_put (cs := #[.int .i64 0, .int .i64 0, .int .u32 0]) ?_ 0 _ rfl; (with_reducible repeat (first | refine blk_drewN ?_ _ | refine blk_drew ?_ | refine blk_alloc ?_ _)); exact BK127.out) hb); have n1_ := Aside0.mk (below_step (by repeat (first | (with_reducible first | exact HB.out | apply below_alloc | apply pw_below_drewN | apply below_drew1 | refine below_set ?_ GE127.out) | exact HB.out)) hb); clear BK127; clear HB; have BK127 := n0_; have HB := n1_; clear n0_ n1_; (try clear hb); (try clear hb2); (try clear hk); (try clear hi); have hcz71_0 : w70.cell? ⟨gb127, 0, none⟩ = some (.int .i64 1) := (blk_cell BK127.out 0).trans rfl; have hcz71_1 : w70.cell? ⟨gb127, 1, none⟩ = some (.int .i64 5) := (blk_cell BK127.out 1).trans rfl; have hcz71_2 : w70.cell? ⟨gb127, 2, none⟩ = some (.int .u32 0) := (blk_cell BK127.out 2).trans rfl; have hfz71_0 := blk_frozen BK127.out 0; have hfz71_1 := blk_frozen BK127.out 1; have hfz71_2 := blk_frozen BK127.out 2) | (go_at_call 21; (with_reducible refine (space_Size.calls 1 5 0 t129 _ A3.out).mono ?_); rintro e w72 ⟨rfl, hb⟩; have n0_ := Aside0.mk (blk_below (g := gb127) (o := .cells #[.int .i64 1, .int .i64 5, .int .u32 0] 24 (0, 0)) (by (with_reducible repeat (first | refine blk_drewN ?_ _ | refine blk_drew ?_ | refine blk_alloc ?_ _)); exact BK127.out) hb); have n1_ := Aside0.mk (below_step (by repeat (first | (with_reducible first | exact HB.out | apply below_alloc | apply pw_below_drewN | apply below_drew1 | refine below_set ?_ GE127.out) | exact HB.out)) hb); clear BK127; clear HB; have BK127 := n0_; have HB := n1_; clear n0_ n1_; (try clear hb); (try clear hb2); (try clear hk); (try clear hi)))
      go_ret
      exact ⟨by first | rfl | (simp [errW_none, errW_some] <;> rfl) | (simp [*, errW_none, errW_some] <;> rfl), by repeat (first | (with_reducible first | exact HB.out | apply below_alloc | apply pw_below_drewN | apply below_drew1 | refine below_set ?_ GE127.out) | exact HB.out)⟩
  · rw [if_neg c2] at H
    have c2b0 : (t128 == 0) = false := beq_eq_false_iff_ne.mpr c2
    have c2b1 : (t128 != 0) = true := bne_iff_ne.mpr c2
    obtain rfl := Option.some.inj H
    go_enter Try.func16, Try.ntmps16
    go_wp2_with (first | ((with_reducible refine gate_dst (N := 1) rfl ?_); refine box_event ?hg (N := 1) ?hd (cs := #[.int .i64 0, .int .i64 0, .int .u32 0]) (t := 24) ?hr ?_; (case hd => rfl); (case hg => rfl); (case hr => first | (go_simp; done) | (go_simp; rfl)); intro gb127 hg w73 hbox hb; have n0_ := Aside0.mk (below_step (by repeat (first | (with_reducible first | exact HB.out | apply below_alloc | apply pw_below_drewN | apply below_drew1) | exact HB.out)) hb); have n1_ := Aside0.mk (hbox); have n2_ := Aside0.mk ((by rw [hg]; exact (below_size (by repeat (first | (with_reducible first | exact HB.out | apply below_alloc | apply pw_below_drewN | apply below_drew1) | exact HB.out))) : w.heap.size ≤ gb127)); have n3_ := Aside0.mk ((by rw [hg]; exact (below_size (by repeat (first | (with_reducible first | exact HB.out | apply below_alloc | apply pw_below_drewN | apply below_drew1) | exact HB.out))) : w.heap.size ≤ gb127)); clear HB; have HB := n0_; have BK127 := n1_; have GW127 := n2_; have GE127 := n3_; clear n0_ n1_ n2_ n3_; clear hb hbox hg; have hcz74_0 : w73.cell? ⟨gb127, 0, none⟩ = some (.int .i64 0) := (blk_cell BK127.out 0).trans rfl; have hcz74_1 : w73.cell? ⟨gb127, 1, none⟩ = some (.int .i64 0) := (blk_cell BK127.out 1).trans rfl; have hcz74_2 : w73.cell? ⟨gb127, 2, none⟩ = some (.int .u32 0) := (blk_cell BK127.out 2).trans rfl; have hfz74_0 := blk_frozen BK127.out 0; have hfz74_1 := blk_frozen BK127.out 1; have hfz74_2 := blk_frozen BK127.out 2) | ((with_reducible refine gate_callee (f := 18) rfl ?_); refine goesL_ (some 4) rfl rfl Try.func18 (by kernel_rfl) rfl #[.agg #[.int .i64 1, .int .i64 5, .int .u32 0]] rfl (by (try simp only [List.map_toArray, List.map_cons, List.map_nil]); first | done | rfl | (simp only [List.length_drop, List.length_take]; rfl)) ?_; (with_reducible refine (space_Most.calls k 1 5 0 t128 _ A1.out).mono ?_); rintro e w75 ⟨rfl, hb⟩; refine ⟨_, rfl, ?_⟩; have n0_ := Aside0.mk (blk_below (g := gb127) (o := .cells #[.int .i64 1, .int .i64 5, .int .u32 0] 24 (0, 0)) (by (with_reducible repeat (first | refine blk_drewN ?_ _ | refine blk_drew ?_ | refine blk_alloc ?_ _)); refine blk_put (cs := #[.int .i64 1, .int .i64 5, .int .u32 0]) ?_ 2 _ rfl; (with_reducible repeat (first | refine blk_drewN ?_ _ | refine blk_drew ?_ | refine blk_alloc ?_ _)); refine blk_put (cs := #[.int .i64 1, .int .i64 0, .int .u32 0]) ?_ 1 _ rfl; (with_reducible repeat (first | refine blk_drewN ?_ _ | refine blk_drew ?_ | refine blk_alloc ?_ _)); refine blk_put (cs := #[.int .i64 0, .int .i64 0, .int .u32 0]) ?_ 0 _ rfl; (with_reducible repeat (first | refine blk_drewN ?_ _ | refine blk_drew ?_ | refine blk_alloc ?_ _)); exact BK127.out) hb); have n1_ := Aside0.mk (below_step (by repeat (first | (with_reducible first | exact HB.out | apply below_alloc | apply pw_below_drewN | apply below_drew1 | refine below_set ?_ GE127.out) | exact HB.out)) hb); clear BK127; clear HB; have BK127 := n0_; have HB := n1_; clear n0_ n1_; (try clear hb); (try clear hb2); (try clear hk); (try clear hi)))
    go_ret
    exact ⟨by first | rfl | (simp [errW_none, errW_some] <;> rfl) | (simp [*, errW_none, errW_some] <;> rfl), by repeat (first | (with_reducible first | exact HB.out | apply below_alloc | apply pw_below_drewN | apply below_drew1 | refine below_set ?_ GE127.out) | exact HB.out)⟩

/-! ### engramlaw6_SpaceNumbers: function 3 -/
mutual
def engramlaw6_SpaceNumbers.l0 : Nat → Int → Option (Bool)
  | 0, _ => none
  | k + 1, x1 => if x1 < 67 then (engramlaw6_SpaceNumbers.l1 k x1 (-1)) else ((engramlaw6_same.f k 4611686018427387904 4611686018427387904 0 0 4611686018427387904).bind fun t135 => (if t135 = true then ((engramlaw6_known.f k).bind fun t136 => (some t136)) else (some false)))
def engramlaw6_SpaceNumbers.l1 : Nat → Int → Int → Option (Bool)
  | 0, _, _ => none
  | k + 1, x1, x2 => if x2 < 67 then ((some (([(-9223372036854775808), (-1), 0, 18, 64, wrap64 (x1 * 30), wrap64 (x1 * 64), wrap64 ((wrap64 (x1 * 64)) + 1), 9223372036854775807] : List Int) : List Int)).bind fun y138 => (engramlaw6_SpaceNumbers.l2 k x1 x2 y138 (y138.length : Int) 0 x1 x2 0)) else (engramlaw6_SpaceNumbers.l0 k (wrap64 (x1 + 1)))
def engramlaw6_SpaceNumbers.l2 : Nat → Int → Int → List Int → Int → Int → Int → Int → Int → Option (Bool)
  | 0, _, _, _, _, _, _, _, _ => none
  | k + 1, x1, x2, x24, x25, x26, x138000, x138001, x138002 => if x26 < x25 then (if 0 ≤ x26 then (if x26 < (x24.length : Int) then ((engramlaw6_same.f k x138000 x138001 x138002 (rd x24 x26) x2).bind fun t142 => (if t142 = true then ((engramlaw6_same.f k x138000 x138001 x138002 (rd x24 x26) x1).bind fun t143 => (if t143 = true then (engramlaw6_SpaceNumbers.l2 k x1 x2 x24 x25 (wrap64 (x26 + 1)) x138000 x138001 x138002) else (some false))) else (some false))) else (none)) else (none)) else (engramlaw6_SpaceNumbers.l1 k x1 (wrap64 (x2 + 3)))
end
def engramlaw6_SpaceNumbers.f (k : Nat)  : Option (Bool) := engramlaw6_SpaceNumbers.l0 k (-1)
theorem engramlaw6_SpaceNumbers.mono_l : ∀ k, (∀ y0, LeO (engramlaw6_SpaceNumbers.l0 k y0) (engramlaw6_SpaceNumbers.l0 (k + 1) y0)) ∧ (∀ y0 y1, LeO (engramlaw6_SpaceNumbers.l1 k y0 y1) (engramlaw6_SpaceNumbers.l1 (k + 1) y0 y1)) ∧ (∀ y0 y1 y2 y3 y4 y5 y6 y7, LeO (engramlaw6_SpaceNumbers.l2 k y0 y1 y2 y3 y4 y5 y6 y7) (engramlaw6_SpaceNumbers.l2 (k + 1) y0 y1 y2 y3 y4 y5 y6 y7))
  | 0 => ⟨fun _ r h => by simp [engramlaw6_SpaceNumbers.l0] at h, fun _ _ r h => by simp [engramlaw6_SpaceNumbers.l1] at h, fun _ _ _ _ _ _ _ _ r h => by simp [engramlaw6_SpaceNumbers.l2] at h⟩
  | k + 1 => by
    obtain ⟨ih0, ih1, ih2⟩ := engramlaw6_SpaceNumbers.mono_l k
    refine ⟨?_, ?_, ?_⟩
    · intro y0
      unfold engramlaw6_SpaceNumbers.l0
      repeat' first
      | (with_reducible exact ih0 _)
      | (with_reducible exact ih1 _ _)
      | (with_reducible exact ih2 _ _ _ _ _ _ _ _)
      | (with_reducible exact engramlaw6_known.mono _)
      | (with_reducible exact engramlaw6_same.mono _ _ _ _ _ _)
      | (with_reducible exact LeO.refl _)
      | (with_reducible exact LeO.none _)
      | (with_reducible refine LeO.ite ?_ ?_)
      | (with_reducible refine LeO.bind ?_ (fun _ => ?_))
      | exact ih0 _
      | exact ih1 _ _
      | exact ih2 _ _ _ _ _ _ _ _
      | exact engramlaw6_known.mono _
      | exact engramlaw6_same.mono _ _ _ _ _ _
      | exact LeO.none _
      | refine LeO.ite ?_ ?_
      | refine LeO.bind ?_ (fun _ => ?_)
    · intro y0 y1
      unfold engramlaw6_SpaceNumbers.l1
      repeat' first
      | (with_reducible exact ih0 _)
      | (with_reducible exact ih1 _ _)
      | (with_reducible exact ih2 _ _ _ _ _ _ _ _)
      | (with_reducible exact engramlaw6_known.mono _)
      | (with_reducible exact engramlaw6_same.mono _ _ _ _ _ _)
      | (with_reducible exact LeO.refl _)
      | (with_reducible exact LeO.none _)
      | (with_reducible refine LeO.ite ?_ ?_)
      | (with_reducible refine LeO.bind ?_ (fun _ => ?_))
      | exact ih0 _
      | exact ih1 _ _
      | exact ih2 _ _ _ _ _ _ _ _
      | exact engramlaw6_known.mono _
      | exact engramlaw6_same.mono _ _ _ _ _ _
      | exact LeO.none _
      | refine LeO.ite ?_ ?_
      | refine LeO.bind ?_ (fun _ => ?_)
    · intro y0 y1 y2 y3 y4 y5 y6 y7
      unfold engramlaw6_SpaceNumbers.l2
      repeat' first
      | (with_reducible exact ih0 _)
      | (with_reducible exact ih1 _ _)
      | (with_reducible exact ih2 _ _ _ _ _ _ _ _)
      | (with_reducible exact engramlaw6_known.mono _)
      | (with_reducible exact engramlaw6_same.mono _ _ _ _ _ _)
      | (with_reducible exact LeO.refl _)
      | (with_reducible exact LeO.none _)
      | (with_reducible refine LeO.ite ?_ ?_)
      | (with_reducible refine LeO.bind ?_ (fun _ => ?_))
      | exact ih0 _
      | exact ih1 _ _
      | exact ih2 _ _ _ _ _ _ _ _
      | exact engramlaw6_known.mono _
      | exact engramlaw6_same.mono _ _ _ _ _ _
      | exact LeO.none _
      | refine LeO.ite ?_ ?_
      | refine LeO.bind ?_ (fun _ => ?_)
theorem engramlaw6_SpaceNumbers.mono : ∀ k, LeO (engramlaw6_SpaceNumbers.f k ) (engramlaw6_SpaceNumbers.f (k + 1) ) := by
  intro  k
  obtain ⟨ih0, ih1, ih2⟩ := engramlaw6_SpaceNumbers.mono_l k
  unfold engramlaw6_SpaceNumbers.f
  repeat' first
      | (with_reducible exact ih0 _)
      | (with_reducible exact ih1 _ _)
      | (with_reducible exact ih2 _ _ _ _ _ _ _ _)
      | (with_reducible exact engramlaw6_known.mono _)
      | (with_reducible exact engramlaw6_same.mono _ _ _ _ _ _)
      | (with_reducible exact LeO.refl _)
      | (with_reducible exact LeO.none _)
      | (with_reducible refine LeO.ite ?_ ?_)
      | (with_reducible refine LeO.bind ?_ (fun _ => ?_))
      | exact ih0 _
      | exact ih1 _ _
      | exact ih2 _ _ _ _ _ _ _ _
      | exact engramlaw6_known.mono _
      | exact engramlaw6_same.mono _ _ _ _ _ _
      | exact LeO.none _
      | refine LeO.ite ?_ ?_
      | refine LeO.bind ?_ (fun _ => ?_)
set_option maxHeartbeats 8000000 in
set_option maxRecDepth 100000 in
theorem engramlaw6_SpaceNumbers.calls (k : Nat)  (r : Bool) (w : World) (h : engramlaw6_SpaceNumbers.f k  = some r) :
    Calls Try.prog 3 #[] w fun e w' => e = .returned (.bool r) ∧ Below w.heap.size w w' := by
  have hu24 := Try.underlying24
  have HB := Aside0.mk (Below.refl w.heap.size w)
  have H : (engramlaw6_SpaceNumbers.l0 k (-1)) = some r := h
  clear h
  have H' := Aside0.mk H
  clear H
  go_enter Try.func3, Try.ntmps3
  go_wp2
  go_loopg [1] k (fun kq v1 w' => ∃ (x1_1 : Int), v1 = .int .i64 x1_1 ∧ Aside0 (engramlaw6_SpaceNumbers.l0 kq x1_1 = some r) ∧ Aside0 (kq ≤ k) ∧ Aside0 (Below w.heap.size w w'))
  case atStart => exact ⟨((-1)), (by first | rfl | (simp; done) | (simp [*]; done)), H', ⟨Nat.le_refl _⟩, ⟨by repeat (first | (with_reducible first | exact HB.out | apply below_alloc | apply pw_below_drewN | apply below_drew1) | exact HB.out)⟩⟩
  case round =>
    clear H'
    obtain ⟨x1_1, rfl, HA, HK1, HB⟩ := hrel
    cases gk with
    | zero => exact absurd HA.out (by simp [engramlaw6_SpaceNumbers.l0])
    | succ k1 =>
      have H := HA.out
      clear HA
      simp only [engramlaw6_SpaceNumbers.l0] at H
      by_cases c1 : x1_1 < 67
      · rw [if_pos c1] at H
        have c1b0 : decide (x1_1 < 67) = true := decide_eq_true c1
        clear c1
        have H' := Aside0.mk H
        clear H
        go_wp2
        go_loopg [2] k1 (fun kq v2 w' => ∃ (x2_2 : Int), v2 = .int .i64 x2_2 ∧ Aside0 (engramlaw6_SpaceNumbers.l1 kq x1_1 x2_2 = some r) ∧ Aside0 (kq ≤ k1) ∧ Aside0 (Below w.heap.size w w'))
        case atStart => exact ⟨((-1)), (by first | rfl | (simp; done) | (simp [*]; done)), H', ⟨Nat.le_refl _⟩, ⟨by repeat (first | (with_reducible first | exact HB.out | apply below_alloc | apply pw_below_drewN | apply below_drew1) | exact HB.out)⟩⟩
        case round =>
          clear H'
          try clear c1
          try clear c1b0
          obtain ⟨x2_2, rfl, HA, HK2, HB⟩ := hrel
          cases gk with
          | zero => exact absurd HA.out (by simp [engramlaw6_SpaceNumbers.l1])
          | succ k2 =>
            have H := HA.out
            clear HA
            simp only [engramlaw6_SpaceNumbers.l1] at H
            by_cases c2 : x2_2 < 67
            · rw [if_pos c2] at H
              have c2b0 : decide (x2_2 < 67) = true := decide_eq_true c2
              clear c2
              obtain ⟨y138, hy138⟩ : ∃ y_ : List Int, y_ = (([(-9223372036854775808), (-1), 0, 18, 64, wrap64 (x1_1 * 30), wrap64 (x1_1 * 64), wrap64 ((wrap64 (x1_1 * 64)) + 1), 9223372036854775807] : List Int)) := ⟨_, rfl⟩
              replace H : (engramlaw6_SpaceNumbers.l2 k2 x1_1 x2_2 y138 (y138.length : Int) 0 x1_1 x2_2 0) = some r := by first | (rw [hy138]; with_reducible exact H) | (have H2_ := (Option.bind_some _ _).symm.trans H; rw [hy138]; with_reducible exact H2_) | (have H2_ := (Option.bind_some _ _).symm.trans H; with_reducible exact H2_) | with_reducible exact H | (rw [hy138]; exact H) | exact H
              have Ny138 := Aside0.mk hy138
              clear hy138
              have H' := Aside0.mk H
              clear H
              go_wp2_with (first | ((with_reducible refine gate_dst (N := 3) rfl ?_); refine box_event ?hg (N := 3) ?hd (cs := #[.int .i64 0, .int .i64 0, .int .u32 0]) (t := 24) ?hr ?_; (case hd => rfl); (case hg => rfl); (case hr => first | (go_simp; done) | (go_simp; rfl)); intro gb137 hg w3 hbox hb; have n0_ := Aside0.mk (below_step (by repeat (first | (with_reducible first | exact HB.out | apply below_alloc | apply pw_below_drewN | apply below_drew1) | exact HB.out)) hb); have n1_ := Aside0.mk (hbox); have n2_ := Aside0.mk ((by rw [hg]; exact (below_size (by repeat (first | (with_reducible first | exact HB.out | apply below_alloc | apply pw_below_drewN | apply below_drew1) | exact HB.out))) : w.heap.size ≤ gb137)); have n3_ := Aside0.mk ((by rw [hg]; exact (below_size (by repeat (first | (with_reducible first | exact HB.out | apply below_alloc | apply pw_below_drewN | apply below_drew1) | exact HB.out))) : w.heap.size ≤ gb137)); clear HB; have HB := n0_; have BK137 := n1_; have GW137 := n2_; have GE137 := n3_; clear n0_ n1_ n2_ n3_; clear hb hbox hg; have hcz4_0 : w3.cell? ⟨gb137, 0, none⟩ = some (.int .i64 0) := (blk_cell BK137.out 0).trans rfl; have hcz4_1 : w3.cell? ⟨gb137, 1, none⟩ = some (.int .i64 0) := (blk_cell BK137.out 1).trans rfl; have hcz4_2 : w3.cell? ⟨gb137, 2, none⟩ = some (.int .u32 0) := (blk_cell BK137.out 2).trans rfl; have hfz4_0 := blk_frozen BK137.out 0; have hfz4_1 := blk_frozen BK137.out 1; have hfz4_2 := blk_frozen BK137.out 2) | ((with_reducible refine gate_dst (N := 24) rfl ?_); refine Kd.R_lit (Kd.int .i64) _ 3 ?hg (N := 24) ?hd (xs := ([(-9223372036854775808), (-1), 0, 18, 64, wrap64 (x1_1 * 30), wrap64 (x1_1 * 64), wrap64 ((wrap64 (x1_1 * 64)) + 1), 9223372036854775807] : List Int)) (inner := [.int .i64 (-9223372036854775808), .int .i64 (-1), .int .i64 0, .int .i64 18, .int .i64 64, .int .i64 (wrap64 (x1_1 * 30)), .int .i64 (wrap64 (x1_1 * 64)), .int .i64 (wrap64 ((wrap64 (x1_1 * 64)) + 1)), .int .i64 9223372036854775807]) (ok := fun _ => True) (okp := fun _ => True) ?hr ?hp (fun _ hk => hk) trivial (Below.refl _ _) (Nat.le_refl _) (by simp) ?_; (case hd => rfl); (case hg => rfl); (case hr => first | (go_simp; done) | (go_simp; rfl)); (case hp => exact (Reps.one (show Kd.M (Kd.int .i64) _ _ _ (-9223372036854775808) [.int .i64 (-9223372036854775808)] from rfl) (Reps.one (show Kd.M (Kd.int .i64) _ _ _ (-1) [.int .i64 (-1)] from rfl) (Reps.one (show Kd.M (Kd.int .i64) _ _ _ 0 [.int .i64 0] from rfl) (Reps.one (show Kd.M (Kd.int .i64) _ _ _ 18 [.int .i64 18] from rfl) (Reps.one (show Kd.M (Kd.int .i64) _ _ _ 64 [.int .i64 64] from rfl) (Reps.one (show Kd.M (Kd.int .i64) _ _ _ (wrap64 (x1_1 * 30)) [.int .i64 (wrap64 (x1_1 * 30))] from rfl) (Reps.one (show Kd.M (Kd.int .i64) _ _ _ (wrap64 (x1_1 * 64)) [.int .i64 (wrap64 (x1_1 * 64))] from rfl) (Reps.one (show Kd.M (Kd.int .i64) _ _ _ (wrap64 ((wrap64 (x1_1 * 64)) + 1)) [.int .i64 (wrap64 ((wrap64 (x1_1 * 64)) + 1))] from rfl) (Reps.one (show Kd.M (Kd.int .i64) _ _ _ 9223372036854775807 [.int .i64 9223372036854775807] from rfl) (Reps.none _ _))))))))))); intro v139 w5 ho6 hb hg_ hnew_; clear hg_ hnew_; (first | rw [← Ny138.out] at ho6 | (simp only [Int.reduceToNat] at ho6; rw [← Ny138.out] at ho6)); have n0_ := Aside0.mk (Kd.R_lower ho6 (below_size (by repeat (first | (with_reducible first | exact HB.out | apply below_alloc | apply pw_below_drewN | apply below_drew1 | refine below_set ?_ GE137.out) | exact HB.out)))); have n1_ := Aside0.mk (blk_below (g := gb137) (o := .cells #[.int .i64 x1_1, .int .i64 x2_2, .int .u32 0] 24 (0, 0)) (by (with_reducible repeat (first | refine blk_drewN ?_ _ | refine blk_drew ?_ | refine blk_alloc ?_ _)); refine blk_put (cs := #[.int .i64 x1_1, .int .i64 x2_2, .int .u32 0]) ?_ 2 _ rfl; (with_reducible repeat (first | refine blk_drewN ?_ _ | refine blk_drew ?_ | refine blk_alloc ?_ _)); refine blk_put (cs := #[.int .i64 x1_1, .int .i64 0, .int .u32 0]) ?_ 1 _ rfl; (with_reducible repeat (first | refine blk_drewN ?_ _ | refine blk_drew ?_ | refine blk_alloc ?_ _)); refine blk_put (cs := #[.int .i64 0, .int .i64 0, .int .u32 0]) ?_ 0 _ rfl; (with_reducible repeat (first | refine blk_drewN ?_ _ | refine blk_drew ?_ | refine blk_alloc ?_ _)); exact BK137.out) hb); have n2_ := Aside0.mk (below_step (by repeat (first | (with_reducible first | exact HB.out | apply below_alloc | apply pw_below_drewN | apply below_drew1 | refine below_set ?_ GE137.out) | exact HB.out)) hb); clear BK137; clear HB; have HO140 := n0_; have BK137 := n1_; have HB := n2_; clear n0_ n1_ n2_; clear hb ho6; obtain ⟨Ao7, co7, eo7⟩ := Kd.R_slice HO140.out; subst eo7))
              go_loopg [26] k2 (fun kq v26 w' => ∃ (x26_3 : Int), v26 = .int .i64 x26_3 ∧ Aside0 (engramlaw6_SpaceNumbers.l2 kq x1_1 x2_2 y138 (y138.length : Int) x26_3 x1_1 x2_2 0 = some r) ∧ Aside0 (kq ≤ k2) ∧ Aside0 (Kd.R (Kd.int .i64) 3 w' w.heap.size (fun _ => True) (.slice Ao7 y138.length co7) y138) ∧ Aside0 (w'.heap[gb137]? = some (.cells #[.int .i64 x1_1, .int .i64 x2_2, .int .u32 0] 24 (0, 0))) ∧ Aside0 (Below w.heap.size w w'))
              case atStart => exact ⟨(0), (by first | rfl | (simp; done) | (simp [*]; done)), H', ⟨Nat.le_refl _⟩, ⟨by (with_reducible repeat (first | apply Kd.R_alloc | apply Kd.R_drewN | apply Kd.R_drew)); exact HO140.out⟩, ⟨by (with_reducible repeat (first | refine blk_drewN ?_ _ | refine blk_drew ?_ | refine blk_alloc ?_ _)); exact BK137.out⟩, ⟨by repeat (first | (with_reducible first | exact HB.out | apply below_alloc | apply pw_below_drewN | apply below_drew1 | refine below_set ?_ GE137.out) | exact HB.out)⟩⟩
              case round =>
                clear H'
                try clear c1
                try clear c1b0
                try clear c2
                try clear c2b0
                try clear p2
                try clear c3
                try clear p6
                try clear hcz4_0
                try clear hcz4_1
                try clear hcz4_2
                try clear hfz4_0
                try clear hfz4_1
                try clear hfz4_2
                obtain ⟨x26_3, rfl, HA, HK3, HO_24, BK137, HB⟩ := hrel
                cases gk with
                | zero => exact absurd HA.out (by simp [engramlaw6_SpaceNumbers.l2])
                | succ k3 =>
                  have H := HA.out
                  clear HA
                  simp only [engramlaw6_SpaceNumbers.l2] at H
                  by_cases c8 : x26_3 < (y138.length : Int)
                  · rw [if_pos c8] at H
                    have c8b0 : decide (x26_3 < (y138.length : Int)) = true := decide_eq_true c8
                    clear c8
                    by_cases c9 : 0 ≤ x26_3
                    · rw [if_pos c9] at H
                      have c9b0 : decide (0 ≤ x26_3) = true := decide_eq_true c9
                      clear c9
                      by_cases c10 : x26_3 < (y138.length : Int)
                      · rw [if_pos c10] at H
                        have c10b0 : decide (x26_3 < (y138.length : Int)) = true := decide_eq_true c10
                        clear c10
                        replace H := Option.bind_eq_some_iff.mp H
                        obtain ⟨t142, A110, H⟩ := H
                        replace H : (if t142 = true then ((engramlaw6_same.f k3 x1_1 x2_2 0 (rd y138 x26_3) x1_1).bind fun t143 => (if t143 = true then (engramlaw6_SpaceNumbers.l2 k3 x1_1 x2_2 y138 (y138.length : Int) (wrap64 (x26_3 + 1)) x1_1 x2_2 0) else (some false))) else (some false)) = some r := H
                        have A11 := Aside0.mk A110
                        clear A110
                        by_cases c12 : t142 = true
                        · subst c12
                          have H1 : ((engramlaw6_same.f k3 x1_1 x2_2 0 (rd y138 x26_3) x1_1).bind fun t143 => (if t143 = true then (engramlaw6_SpaceNumbers.l2 k3 x1_1 x2_2 y138 (y138.length : Int) (wrap64 (x26_3 + 1)) x1_1 x2_2 0) else (some false))) = some r := by rw [if_pos rfl] at H; exact H
                          clear H
                          have H := H1
                          clear H1
                          replace H := Option.bind_eq_some_iff.mp H
                          obtain ⟨t143, A130, H⟩ := H
                          replace H : (if t143 = true then (engramlaw6_SpaceNumbers.l2 k3 x1_1 x2_2 y138 (y138.length : Int) (wrap64 (x26_3 + 1)) x1_1 x2_2 0) else (some false)) = some r := H
                          have A13 := Aside0.mk A130
                          clear A130
                          by_cases c14 : t143 = true
                          · subst c14
                            have H1 : (engramlaw6_SpaceNumbers.l2 k3 x1_1 x2_2 y138 (y138.length : Int) (wrap64 (x26_3 + 1)) x1_1 x2_2 0) = some r := by rw [if_pos rfl] at H; exact H
                            clear H
                            have H := H1
                            clear H1
                            have H' := Aside0.mk H
                            clear H
                            have p141 : 0 ≤ (x26_3 : Int) := of_decide_eq_true (by first | (with_reducible assumption) | assumption)
                            have q141 : x26_3 < (y138.length : Int) := of_decide_eq_true (by first | (with_reducible assumption) | assumption)
                            obtain ⟨ad141, e141, hx141_0⟩ := Kd.at_int (Kd.R_reads' HO_24.out).2.2 x26_3 p141 q141
                            cases e141
                            replace p141 := eq_true p141
                            replace q141 := eq_true q141
                            have hcz15_0 : wr.cell? ⟨gb137, 0, none⟩ = some (.int .i64 x1_1) := (blk_cell BK137.out 0).trans rfl
                            have hcz15_1 : wr.cell? ⟨gb137, 1, none⟩ = some (.int .i64 x2_2) := (blk_cell BK137.out 1).trans rfl
                            have hcz15_2 : wr.cell? ⟨gb137, 2, none⟩ = some (.int .u32 0) := (blk_cell BK137.out 2).trans rfl
                            have hfz15_0 := blk_frozen BK137.out 0
                            have hfz15_1 := blk_frozen BK137.out 1
                            have hfz15_2 := blk_frozen BK137.out 2
                            go_wp2_with (first | ((with_reducible refine gate_callee (f := 15) rfl ?_); refine goesL_ (some 33) rfl rfl Try.func15 (by kernel_rfl) rfl #[.agg #[.int .i64 x1_1, .int .i64 x2_2, .int .u32 0], .int .i64 (rd y138 x26_3), .int .i64 x2_2] rfl (by (try simp only [List.map_toArray, List.map_cons, List.map_nil]); first | done | rfl | (simp only [List.length_drop, List.length_take]; rfl)) ?_; (with_reducible refine (engramlaw6_same.calls k3 x1_1 x2_2 0 (rd y138 x26_3) x2_2 true _ A11.out).mono ?_); rintro e w16 ⟨rfl, hb⟩; refine ⟨_, rfl, ?_⟩; have n0_ := Aside0.mk (Kd.R_below (by (with_reducible repeat (first | apply Kd.R_alloc | apply Kd.R_drewN | apply Kd.R_drew)); exact HO_24.out) hb); have n1_ := Aside0.mk (blk_below (g := gb137) (o := .cells #[.int .i64 x1_1, .int .i64 x2_2, .int .u32 0] 24 (0, 0)) (by (with_reducible repeat (first | refine blk_drewN ?_ _ | refine blk_drew ?_ | refine blk_alloc ?_ _)); exact BK137.out) hb); have n2_ := Aside0.mk (below_step (by repeat (first | (with_reducible first | exact HB.out | apply below_alloc | apply pw_below_drewN | apply below_drew1 | refine below_set ?_ GE137.out) | exact HB.out)) hb); clear HO_24; clear BK137; clear HB; have HO_24 := n0_; have BK137 := n1_; have HB := n2_; clear n0_ n1_ n2_; (try clear hb); (try clear hb2); (try clear hk); (try clear hi); have hcz17_0 : w16.cell? ⟨gb137, 0, none⟩ = some (.int .i64 x1_1) := (blk_cell BK137.out 0).trans rfl; have hcz17_1 : w16.cell? ⟨gb137, 1, none⟩ = some (.int .i64 x2_2) := (blk_cell BK137.out 1).trans rfl; have hcz17_2 : w16.cell? ⟨gb137, 2, none⟩ = some (.int .u32 0) := (blk_cell BK137.out 2).trans rfl; have hfz17_0 := blk_frozen BK137.out 0; have hfz17_1 := blk_frozen BK137.out 1; have hfz17_2 := blk_frozen BK137.out 2) | (go_at_call 15; (with_reducible refine (engramlaw6_same.calls k3 x1_1 x2_2 0 (rd y138 x26_3) x1_1 true _ A13.out).mono ?_); rintro e w18 ⟨rfl, hb⟩; have n0_ := Aside0.mk (Kd.R_below (by (with_reducible repeat (first | apply Kd.R_alloc | apply Kd.R_drewN | apply Kd.R_drew)); exact HO_24.out) hb); have n1_ := Aside0.mk (blk_below (g := gb137) (o := .cells #[.int .i64 x1_1, .int .i64 x2_2, .int .u32 0] 24 (0, 0)) (by (with_reducible repeat (first | refine blk_drewN ?_ _ | refine blk_drew ?_ | refine blk_alloc ?_ _)); exact BK137.out) hb); have n2_ := Aside0.mk (below_step (by repeat (first | (with_reducible first | exact HB.out | apply below_alloc | apply pw_below_drewN | apply below_drew1 | refine below_set ?_ GE137.out) | exact HB.out)) hb); clear HO_24; clear BK137; clear HB; have HO_24 := n0_; have BK137 := n1_; have HB := n2_; clear n0_ n1_ n2_; (try clear hb); (try clear hb2); (try clear hk); (try clear hi)))
                            go_roundg k3
                            case measure => have := HK1.out; have := HK2.out; have := HK3.out; omega
                            case rel => exact ⟨(wrap64 (x26_3 + 1)), (by first | rfl | (simp; done) | (simp [*]; done)), H', ⟨by have := HK1.out; have := HK2.out; have := HK3.out; omega⟩, ⟨by (with_reducible repeat (first | apply Kd.R_alloc | apply Kd.R_drewN | apply Kd.R_drew)); exact HO_24.out⟩, ⟨by (with_reducible repeat (first | refine blk_drewN ?_ _ | refine blk_drew ?_ | refine blk_alloc ?_ _)); exact BK137.out⟩, ⟨by repeat (first | (with_reducible first | exact HB.out | apply below_alloc | apply pw_below_drewN | apply below_drew1 | refine below_set ?_ GE137.out) | exact HB.out)⟩⟩
                          · replace c14 := Bool.eq_false_iff.mpr c14
                            subst c14
                            have H1 : (some false) = some r := by rw [if_neg (show ¬ (false = true) by decide)] at H; exact H
                            clear H
                            have H := H1
                            clear H1
                            obtain rfl := Option.some.inj H
                            have p141 : 0 ≤ (x26_3 : Int) := of_decide_eq_true (by first | (with_reducible assumption) | assumption)
                            have q141 : x26_3 < (y138.length : Int) := of_decide_eq_true (by first | (with_reducible assumption) | assumption)
                            obtain ⟨ad141, e141, hx141_0⟩ := Kd.at_int (Kd.R_reads' HO_24.out).2.2 x26_3 p141 q141
                            cases e141
                            replace p141 := eq_true p141
                            replace q141 := eq_true q141
                            have hcz19_0 : wr.cell? ⟨gb137, 0, none⟩ = some (.int .i64 x1_1) := (blk_cell BK137.out 0).trans rfl
                            have hcz19_1 : wr.cell? ⟨gb137, 1, none⟩ = some (.int .i64 x2_2) := (blk_cell BK137.out 1).trans rfl
                            have hcz19_2 : wr.cell? ⟨gb137, 2, none⟩ = some (.int .u32 0) := (blk_cell BK137.out 2).trans rfl
                            have hfz19_0 := blk_frozen BK137.out 0
                            have hfz19_1 := blk_frozen BK137.out 1
                            have hfz19_2 := blk_frozen BK137.out 2
                            go_wp2_with (first | ((with_reducible refine gate_callee (f := 15) rfl ?_); refine goesL_ (some 33) rfl rfl Try.func15 (by kernel_rfl) rfl #[.agg #[.int .i64 x1_1, .int .i64 x2_2, .int .u32 0], .int .i64 (rd y138 x26_3), .int .i64 x2_2] rfl (by (try simp only [List.map_toArray, List.map_cons, List.map_nil]); first | done | rfl | (simp only [List.length_drop, List.length_take]; rfl)) ?_; (with_reducible refine (engramlaw6_same.calls k3 x1_1 x2_2 0 (rd y138 x26_3) x2_2 true _ A11.out).mono ?_); rintro e w20 ⟨rfl, hb⟩; refine ⟨_, rfl, ?_⟩; have n0_ := Aside0.mk (Kd.R_below (by (with_reducible repeat (first | apply Kd.R_alloc | apply Kd.R_drewN | apply Kd.R_drew)); exact HO_24.out) hb); have n1_ := Aside0.mk (blk_below (g := gb137) (o := .cells #[.int .i64 x1_1, .int .i64 x2_2, .int .u32 0] 24 (0, 0)) (by (with_reducible repeat (first | refine blk_drewN ?_ _ | refine blk_drew ?_ | refine blk_alloc ?_ _)); exact BK137.out) hb); have n2_ := Aside0.mk (below_step (by repeat (first | (with_reducible first | exact HB.out | apply below_alloc | apply pw_below_drewN | apply below_drew1 | refine below_set ?_ GE137.out) | exact HB.out)) hb); clear HO_24; clear BK137; clear HB; have HO_24 := n0_; have BK137 := n1_; have HB := n2_; clear n0_ n1_ n2_; (try clear hb); (try clear hb2); (try clear hk); (try clear hi); have hcz21_0 : w20.cell? ⟨gb137, 0, none⟩ = some (.int .i64 x1_1) := (blk_cell BK137.out 0).trans rfl; have hcz21_1 : w20.cell? ⟨gb137, 1, none⟩ = some (.int .i64 x2_2) := (blk_cell BK137.out 1).trans rfl; have hcz21_2 : w20.cell? ⟨gb137, 2, none⟩ = some (.int .u32 0) := (blk_cell BK137.out 2).trans rfl; have hfz21_0 := blk_frozen BK137.out 0; have hfz21_1 := blk_frozen BK137.out 1; have hfz21_2 := blk_frozen BK137.out 2) | (go_at_call 15; (with_reducible refine (engramlaw6_same.calls k3 x1_1 x2_2 0 (rd y138 x26_3) x1_1 false _ A13.out).mono ?_); rintro e w22 ⟨rfl, hb⟩; have n0_ := Aside0.mk (Kd.R_below (by (with_reducible repeat (first | apply Kd.R_alloc | apply Kd.R_drewN | apply Kd.R_drew)); exact HO_24.out) hb); have n1_ := Aside0.mk (blk_below (g := gb137) (o := .cells #[.int .i64 x1_1, .int .i64 x2_2, .int .u32 0] 24 (0, 0)) (by (with_reducible repeat (first | refine blk_drewN ?_ _ | refine blk_drew ?_ | refine blk_alloc ?_ _)); exact BK137.out) hb); have n2_ := Aside0.mk (below_step (by repeat (first | (with_reducible first | exact HB.out | apply below_alloc | apply pw_below_drewN | apply below_drew1 | refine below_set ?_ GE137.out) | exact HB.out)) hb); clear HO_24; clear BK137; clear HB; have HO_24 := n0_; have BK137 := n1_; have HB := n2_; clear n0_ n1_ n2_; (try clear hb); (try clear hb2); (try clear hk); (try clear hi)))
                            go_ret
                            exact ⟨by first | rfl | (simp [errW_none, errW_some] <;> rfl) | (simp [*, errW_none, errW_some] <;> rfl), by repeat (first | (with_reducible first | exact HB.out | apply below_alloc | apply pw_below_drewN | apply below_drew1 | refine below_set ?_ GE137.out) | exact HB.out)⟩
                        · replace c12 := Bool.eq_false_iff.mpr c12
                          subst c12
                          have H1 : (some false) = some r := by rw [if_neg (show ¬ (false = true) by decide)] at H; exact H
                          clear H
                          have H := H1
                          clear H1
                          obtain rfl := Option.some.inj H
                          have p141 : 0 ≤ (x26_3 : Int) := of_decide_eq_true (by first | (with_reducible assumption) | assumption)
                          have q141 : x26_3 < (y138.length : Int) := of_decide_eq_true (by first | (with_reducible assumption) | assumption)
                          obtain ⟨ad141, e141, hx141_0⟩ := Kd.at_int (Kd.R_reads' HO_24.out).2.2 x26_3 p141 q141
                          cases e141
                          replace p141 := eq_true p141
                          replace q141 := eq_true q141
                          have hcz23_0 : wr.cell? ⟨gb137, 0, none⟩ = some (.int .i64 x1_1) := (blk_cell BK137.out 0).trans rfl
                          have hcz23_1 : wr.cell? ⟨gb137, 1, none⟩ = some (.int .i64 x2_2) := (blk_cell BK137.out 1).trans rfl
                          have hcz23_2 : wr.cell? ⟨gb137, 2, none⟩ = some (.int .u32 0) := (blk_cell BK137.out 2).trans rfl
                          have hfz23_0 := blk_frozen BK137.out 0
                          have hfz23_1 := blk_frozen BK137.out 1
                          have hfz23_2 := blk_frozen BK137.out 2
                          go_wp2_with (first | ((with_reducible refine gate_callee (f := 15) rfl ?_); refine goesL_ (some 33) rfl rfl Try.func15 (by kernel_rfl) rfl #[.agg #[.int .i64 x1_1, .int .i64 x2_2, .int .u32 0], .int .i64 (rd y138 x26_3), .int .i64 x2_2] rfl (by (try simp only [List.map_toArray, List.map_cons, List.map_nil]); first | done | rfl | (simp only [List.length_drop, List.length_take]; rfl)) ?_; (with_reducible refine (engramlaw6_same.calls k3 x1_1 x2_2 0 (rd y138 x26_3) x2_2 false _ A11.out).mono ?_); rintro e w24 ⟨rfl, hb⟩; refine ⟨_, rfl, ?_⟩; have n0_ := Aside0.mk (Kd.R_below (by (with_reducible repeat (first | apply Kd.R_alloc | apply Kd.R_drewN | apply Kd.R_drew)); exact HO_24.out) hb); have n1_ := Aside0.mk (blk_below (g := gb137) (o := .cells #[.int .i64 x1_1, .int .i64 x2_2, .int .u32 0] 24 (0, 0)) (by (with_reducible repeat (first | refine blk_drewN ?_ _ | refine blk_drew ?_ | refine blk_alloc ?_ _)); exact BK137.out) hb); have n2_ := Aside0.mk (below_step (by repeat (first | (with_reducible first | exact HB.out | apply below_alloc | apply pw_below_drewN | apply below_drew1 | refine below_set ?_ GE137.out) | exact HB.out)) hb); clear HO_24; clear BK137; clear HB; have HO_24 := n0_; have BK137 := n1_; have HB := n2_; clear n0_ n1_ n2_; (try clear hb); (try clear hb2); (try clear hk); (try clear hi)))
                          go_ret
                          exact ⟨by first | rfl | (simp [errW_none, errW_some] <;> rfl) | (simp [*, errW_none, errW_some] <;> rfl), by repeat (first | (with_reducible first | exact HB.out | apply below_alloc | apply pw_below_drewN | apply below_drew1 | refine below_set ?_ GE137.out) | exact HB.out)⟩
                      · rw [if_neg c10] at H
                        exact absurd H (by simp)
                    · rw [if_neg c9] at H
                      exact absurd H (by simp)
                  · rw [if_neg c8] at H
                    have c8b0 : decide (x26_3 < (y138.length : Int)) = false := decide_eq_false c8
                    clear c8
                    have H' := Aside0.mk H
                    clear H
                    go_wp2
                    go_roundg k3
                    case measure => have := HK1.out; have := HK2.out; have := HK3.out; omega
                    case rel => exact ⟨(wrap64 (x2_2 + 3)), (by first | rfl | (simp; done) | (simp [*]; done)), H', ⟨by have := HK1.out; have := HK2.out; have := HK3.out; omega⟩, ⟨by repeat (first | (with_reducible first | exact HB.out | apply below_alloc | apply pw_below_drewN | apply below_drew1 | refine below_set ?_ GE137.out) | exact HB.out)⟩⟩
            · rw [if_neg c2] at H
              have c2b0 : decide (x2_2 < 67) = false := decide_eq_false c2
              clear c2
              have H' := Aside0.mk H
              clear H
              go_wp2
              go_roundg k2
              case measure => have := HK1.out; have := HK2.out; omega
              case rel => exact ⟨(wrap64 (x1_1 + 1)), (by first | rfl | (simp; done) | (simp [*]; done)), H', ⟨by have := HK1.out; have := HK2.out; omega⟩, ⟨by repeat (first | (with_reducible first | exact HB.out | apply below_alloc | apply pw_below_drewN | apply below_drew1) | exact HB.out)⟩⟩
      · rw [if_neg c1] at H
        have c1b0 : decide (x1_1 < 67) = false := decide_eq_false c1
        clear c1
        replace H := Option.bind_eq_some_iff.mp H
        obtain ⟨t135, A250, H⟩ := H
        replace H : (if t135 = true then ((engramlaw6_known.f k1).bind fun t136 => (some t136)) else (some false)) = some r := H
        have A25 := Aside0.mk A250
        clear A250
        by_cases c26 : t135 = true
        · subst c26
          have H1 : ((engramlaw6_known.f k1).bind fun t136 => (some t136)) = some r := by rw [if_pos rfl] at H; exact H
          clear H
          have H := H1
          clear H1
          replace H := Option.bind_eq_some_iff.mp H
          obtain ⟨t136, A270, H⟩ := H
          replace H : (some t136) = some r := H
          have A27 := Aside0.mk A270
          clear A270
          obtain rfl := Option.some.inj H
          go_wp2_with (first | ((with_reducible refine gate_callee (f := 15) rfl ?_); refine goesL_ (some 44) rfl rfl Try.func15 (by kernel_rfl) rfl #[.agg #[.int .i64 4611686018427387904, .int .i64 4611686018427387904, .int .u32 0], .int .i64 0, .int .i64 4611686018427387904] rfl (by (try simp only [List.map_toArray, List.map_cons, List.map_nil]); first | done | rfl | (simp only [List.length_drop, List.length_take]; rfl)) ?_; (with_reducible refine (engramlaw6_same.calls k1 4611686018427387904 4611686018427387904 0 0 4611686018427387904 true _ A25.out).mono ?_); rintro e w28 ⟨rfl, hb⟩; refine ⟨_, rfl, ?_⟩; have n0_ := Aside0.mk (below_step (by repeat (first | (with_reducible first | exact HB.out | apply below_alloc | apply pw_below_drewN | apply below_drew1) | exact HB.out)) hb); clear HB; have HB := n0_; clear n0_; (try clear hb); (try clear hb2); (try clear hk); (try clear hi)) | (go_at_call 16; (with_reducible refine (engramlaw6_known.calls k1  t136 _ A27.out).mono ?_); rintro e w29 ⟨rfl, hb⟩; have n0_ := Aside0.mk (below_step (by repeat (first | (with_reducible first | exact HB.out | apply below_alloc | apply pw_below_drewN | apply below_drew1) | exact HB.out)) hb); clear HB; have HB := n0_; clear n0_; (try clear hb); (try clear hb2); (try clear hk); (try clear hi)))
          go_ret
          exact ⟨by first | rfl | (simp [errW_none, errW_some] <;> rfl) | (simp [*, errW_none, errW_some] <;> rfl), by repeat (first | (with_reducible first | exact HB.out | apply below_alloc | apply pw_below_drewN | apply below_drew1) | exact HB.out)⟩
        · replace c26 := Bool.eq_false_iff.mpr c26
          subst c26
          have H1 : (some false) = some r := by rw [if_neg (show ¬ (false = true) by decide)] at H; exact H
          clear H
          have H := H1
          clear H1
          obtain rfl := Option.some.inj H
          go_wp2_with (first | ((with_reducible refine gate_callee (f := 15) rfl ?_); refine goesL_ (some 44) rfl rfl Try.func15 (by kernel_rfl) rfl #[.agg #[.int .i64 4611686018427387904, .int .i64 4611686018427387904, .int .u32 0], .int .i64 0, .int .i64 4611686018427387904] rfl (by (try simp only [List.map_toArray, List.map_cons, List.map_nil]); first | done | rfl | (simp only [List.length_drop, List.length_take]; rfl)) ?_; (with_reducible refine (engramlaw6_same.calls k1 4611686018427387904 4611686018427387904 0 0 4611686018427387904 false _ A25.out).mono ?_); rintro e w30 ⟨rfl, hb⟩; refine ⟨_, rfl, ?_⟩; have n0_ := Aside0.mk (below_step (by repeat (first | (with_reducible first | exact HB.out | apply below_alloc | apply pw_below_drewN | apply below_drew1) | exact HB.out)) hb); clear HB; have HB := n0_; clear n0_; (try clear hb); (try clear hb2); (try clear hk); (try clear hi)))
          go_ret
          exact ⟨by first | rfl | (simp [errW_none, errW_some] <;> rfl) | (simp [*, errW_none, errW_some] <;> rfl), by repeat (first | (with_reducible first | exact HB.out | apply below_alloc | apply pw_below_drewN | apply below_drew1) | exact HB.out)⟩

/-- THE ONE PURE STATEMENT of engramlaw6_SpaceNumbers: yours. -/
def engramlaw6_SpaceNumbers.Pure : Prop := ∃ k, engramlaw6_SpaceNumbers.f k  = some true
theorem engramlaw6_SpaceNumbers.walk (P : engramlaw6_SpaceNumbers.Pure)  (w : World)  :
    Calls Try.prog 3 #[] w fun e w' => e = .returned (.bool true) ∧ Below w.heap.size w w' := by
  obtain ⟨k, h⟩ := P  
  refine (engramlaw6_SpaceNumbers.calls k  true w h).mono ?_
  rintro e w' ⟨rfl, hd⟩
  exact ⟨rfl, hd⟩

end Go.Proofs.Ytfigfdggieenbaa.PSpaceNumbers
