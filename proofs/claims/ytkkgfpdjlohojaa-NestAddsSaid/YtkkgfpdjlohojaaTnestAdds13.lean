/- NestAdds, Open, WSized: what NestAdds needs. -/
import Derived.Test.YtkkgfpdjlohojaaTnestAdds12
import Derived.Test.YtkkgfpdjlohojaaProg
import Derived.WalkKit
import Derived.ProofKit
import Derived.OpenShut
import Derived.ShutString
import Derived.ChangeOld
import Derived.Below
import Derived.SizedLaws
import Derived.ChangeSlices
set_option linter.unusedVariables false
set_option linter.unusedSimpArgs false
namespace Go.Proofs.Ytkkgfpdjlohojaa.Law8
open Go.RowKit Go.Proofs.YtkkgfpdjlohojaaW.PrintWords Go.Proofs.YtkkgfpdjlohojaaW.PrintLast Go.Proofs.YtkkgfpdjlohojaaW.PrintMore Go.Proofs.Ytkkgfpdjlohojaa.Kit
open Go.Proofs.Ytkkgfpdjlohojaa.NestP Go.Proofs.Ytkkgfpdjlohojaa.TokP Go.Proofs.Ytkkgfpdjlohojaa.Tok
open Go.Proofs.Ytkkgfpdjlohojaa.Fn (FC Fnc cellF uV uB)
open Go.Proofs.Ytkkgfpdjlohojaa.Keep (RowU UnitP store3)
theorem tt_bound {sg : List Int} {m : MS} (hm : matchN sg = some m) {j : Nat} (hj : j < sg.length) : -1 ≤ m.tt.getD j 0 ∧ m.tt.getD j 0 ≤ sg.length := by
  have ok := (within hm).2 j hj
  unfold OkAt at ok
  obtain ⟨o1, o2, o3⟩ := ok
  by_cases h1 : sg.getD j 0 = 63 ∨ sg.getD j 0 = 58 ∨ sg.getD j 0 = 126
  · have := o1 h1; omega
  · by_cases h2 : sg.getD j 0 = 93
    · have := o2 h2; omega
    · have := o3 h1 h2; omega
theorem addsL {a b : List Tok} {x y : MS} (hx : matchN (sgn a) = some x) (hy : matchN (sgn b) = some y) : matchN (sgn (a ++ b)) = some ⟨x.tt ++ y.tt.map (shv a.length), [], max x.deep y.deep⟩ := by
  have := adds hx hy
  rw [sgn_len] at this
  rw [← this]
  unfold sgn
  rw [List.map_append]
theorem gd_left {a b : List Int} {i : Nat} (h : i < a.length) : (a ++ b).getD i 0 = a.getD i 0 := by
  rw [List.getD_eq_getElem?_getD, List.getElem?_append_left h, ← List.getD_eq_getElem?_getD]
theorem gd_right {a b : List Int} {i : Nat} (h : a.length ≤ i) : (a ++ b).getD i 0 = b.getD (i - a.length) 0 := by
  rw [List.getD_eq_getElem?_getD, List.getElem?_append_right h, ← List.getD_eq_getElem?_getD]
theorem deepN_ {w0 W : World} {F : List HP} {A : Option Addr} {n c d : Nat} {l : List Tok} {m : MS} (hm : matchN (sgn l) = some m) (hd : m.deep = d) (hC : ∀ W', Sep w0 W' F → TC W' A n l) (h : Sep w0 W F) (hn : n ≤ 1000000) :
    Calls Try.prog 14 #[.slice A n c] W fun e w' => e = .returned (.int .i64 (d : Int)) ∧ Sep w0 w' F := by
  subst hd
  exact deepQ_ hm hC h hn
set_option maxHeartbeats 64000000 in
set_option maxRecDepth 100000 in
theorem nestAdds_ {Ap Aq : Option Addr} {np cp nq cq : Nat} {ps qs : List Int} {w : World} (hp : I64.C w Ap np ps) (hq : I64.C w Aq nq qs) :
    Calls Try.prog 6 #[.slice Ap np cp, .slice Aq nq cq] w fun e w' => e = .returned (.bool true) ∧ Below w.heap.size w w' := by
  have HP1 := Aside0.mk hp
  have HP2 := Aside0.mk hq
  clear hp hq
  go_enter Try.func6, Try.ntmps6
  go_wp2_with fail
  refine (Keep.unit_ HP1.out (Sep.start w)).mono ?_
  rintro e w2 ⟨v, rfl, pgx, mox, Ax, nx, cx, xs, rfl, hxl, hnx, hgx, hS⟩
  have B2 := Aside0.mk hS
  have HGX := Aside0.mk hgx
  clear hS hgx hxl
  go_wp2_with fail
  refine (Keep.unit_ HP2.out B2.out).mono ?_
  rintro e w3 ⟨v, rfl, pgy, moy, Ay, ny, cy, ys, rfl, hyl, hny, hgy, hS⟩
  have HGY := Aside0.mk hgy
  have h1 := (hS.newBlk 30 #[.int .i64 pgx, .int .i64 mox, .slice Ax nx cx]).newBlk 30 #[.int .i64 pgy, .int .i64 moy, .slice Ay ny cy]
  rw [NestR.alloc_size] at h1
  have B4 := Aside0.mk h1
  clear hS h1 hgy hyl
  go_upto_region 2 with fail
  obtain ⟨w5, hw5⟩ : ∃ x, (w3.alloc (.cells #[.int .i64 pgx, .int .i64 mox, .slice Ax nx cx] 30)).alloc (.cells #[.int .i64 pgy, .int .i64 moy, .slice Ay ny cy] 30) = x := ⟨_, rfl⟩
  obtain ⟨gx, hgx⟩ : ∃ x, w3.heap.size = x := ⟨_, rfl⟩
  rw [hw5, hgx] at B4
  rw [hw5, hgx]
  obtain ⟨gy, hgy⟩ : ∃ x, gx + 1 = x := ⟨_, rfl⟩
  rw [hgy] at B4
  rw [hgy]
  clear hw5 hgx hgy B2
  have B5 : Aside0 (Sep w w5 [uB gy pgy moy Ay ny cy, uB gx pgx mox Ax nx cx, RowU (.slice Ay ny cy) ys, RowU (.slice Ax nx cx) xs]) := ⟨B4.out⟩
  clear B4
  have z5 : w5.cell? ⟨gx, 2, none⟩ = some (.slice Ax nx cx) := (B5.out.at2.cell 2).trans rfl
  have z6 : w5.cell? ⟨gy, 2, none⟩ = some (.slice Ay ny cy) := (B5.out.cell 2).trans rfl
  by_cases hx0 : nx = 0
  · have q1 : ((nx : Int) == 0) = true := by rw [beq_iff_eq]; omega
    clear hx0
    go_wp2_with fail
    refine (known_ B5.out).mono ?_
    rintro e w6 ⟨rfl, hS6⟩
    have B6 := Aside0.mk hS6
    clear hS6
    go_wp2_with fail
    go_ret
    exact ⟨by first | rfl | (simp; done), B6.out.toBelow⟩
  have q1 : ((nx : Int) == 0) = false := by rw [beq_eq_false_iff_ne]; omega
  by_cases hy0 : ny = 0
  · have q2 : ((ny : Int) == 0) = true := by rw [beq_iff_eq]; omega
    clear hx0 hy0
    go_wp2_with fail
    refine (known_ B5.out).mono ?_
    rintro e w6 ⟨rfl, hS6⟩
    have B6 := Aside0.mk hS6
    clear hS6
    go_wp2_with fail
    go_ret
    exact ⟨by first | rfl | (simp; done), B6.out.toBelow⟩
  have q2 : ((ny : Int) == 0) = false := by rw [beq_eq_false_iff_ne]; omega
  obtain ⟨ax, fx, rfl, hfx, _, _, zx⟩ := Fn.FC.at_ (i := 0) (show FC w5 Ax nx xs from B5.out.at4.rowC') (by omega)
  obtain ⟨_, l, hl, hm0⟩ := HGX.out fx (List.mem_of_getElem? hfx)
  obtain ⟨x, hm⟩ := Option.isSome_iff_exists.1 hm0
  obtain ⟨cdx, h_⟩ : ∃ x, fx.code = x := ⟨_, rfl⟩
  rw [h_] at zx hl
  clear h_ hm0 hfx
  rw [show ax.add (0 * 3) = ax by simp [Addr.add]] at zx
  have i1 : (0 : Int) < (nx : Int) := by omega
  have HL1 := Aside0.mk hl
  have HM1 := Aside0.mk hm
  clear hl hm hx0 hnx
  go_wp2_with fail
  refine (RefT.tokens_ B5.out cdx).mono ?_
  intro e w8 hA
  rw [HL1.out] at hA
  obtain ⟨v5, rfl, hA⟩ := hA
  have hl5 : l.length ≤ 1000000 := by have := Fn.tokO_len HL1.out; omega
  obtain ⟨N1, hN⟩ : ∃ N, l.length = N := ⟨_, rfl⟩
  obtain ⟨A1, c1, rfl⟩ := hA.rowN (n := N1) (by rw [List.length_map, hN])
  rw [hN] at hl5
  have HN1 := Aside0.mk (And.intro hN hl5)
  have B8 := Aside0.mk hA
  have z6 : w8.cell? ⟨gy, 2, none⟩ = some (.slice Ay ny cy) := (Sep.cell (Sep.tail hA) 2).trans rfl
  obtain ⟨ay, fy, rfl, hfy, _, _, zy⟩ := Fn.FC.at_ (i := 0) (show FC w8 Ay ny ys from (Sep.at3 (Sep.tail hA)).rowC') (by omega)
  clear hA hN hl5 z5 zx
  obtain ⟨_, l', hl', hm0'⟩ := HGY.out fy (List.mem_of_getElem? hfy)
  obtain ⟨y, hm'⟩ := Option.isSome_iff_exists.1 hm0'
  obtain ⟨cdy, h_⟩ : ∃ x, fy.code = x := ⟨_, rfl⟩
  rw [h_] at zy hl'
  clear h_ hm0' hfy
  rw [show ay.add (0 * 3) = ay by simp [Addr.add]] at zy
  have i2 : (0 : Int) < (ny : Int) := by omega
  have HL2 := Aside0.mk hl'
  have HM2 := Aside0.mk hm'
  have HM3 := Aside0.mk (addsL HM1.out hm')
  clear hl' hm' hy0 hny
  go_wp2_with fail
  refine (RefT.tokens_ B8.out cdy).mono ?_
  intro e w9 hA
  rw [HL2.out] at hA
  obtain ⟨v9, rfl, hA⟩ := hA
  have hl5 : l'.length ≤ 1000000 := by have := Fn.tokO_len HL2.out; omega
  have hl6 : l.length ≤ 512 ∧ l'.length ≤ 512 := ⟨Fn.tokO_len HL1.out, Fn.tokO_len HL2.out⟩
  obtain ⟨N2, hN⟩ : ∃ N, l'.length = N := ⟨_, rfl⟩
  obtain ⟨A2, c2, rfl⟩ := hA.rowN (n := N2) (by rw [List.length_map, hN])
  rw [hN] at hl5
  have HN2 := Aside0.mk (And.intro hN hl5)
  have H512 : Aside0 (N1 ≤ 512 ∧ N2 ≤ 512) := ⟨by rw [← HN1.out.1, ← hN]; exact hl6⟩
  have B9 := Aside0.mk hA
  clear hA hN hl5 hl6 z6 zy
  go_wp2_with fail
  refine (ofQ_ HM1.out (fun W' h' => rowT_TC h'.tail) B9.out HN1.out.2).mono ?_
  rintro e w10 ⟨A10, c10, rfl, hS⟩
  have B10 := Aside0.mk hS
  clear hS
  go_wp2_with fail
  refine (ofQ_ HM2.out (fun W' h' => rowT_TC h'.tail) B10.out HN2.out.2).mono ?_
  rintro e w11 ⟨A11, c11, rfl, hS⟩
  have B11 := Aside0.mk hS
  have L0 : Aside0 (Sep w (w11.alloc (.cells #[] 42)) (Row (Kd.raw 3) 42 (.slice (some ⟨w11.heap.size, 0, none⟩) 0 0) [] :: _)) := ⟨hS.newLit (d := Kd.raw 3) (xs := []) (inner := []) (Reps.none _ _) (by simp)⟩
  obtain ⟨N3, hN3⟩ : ∃ x, N1 + N2 = x := ⟨_, rfl⟩
  have HN3 := Aside0.mk hN3
  clear hS hN3
  go_wp2_with (first
    | (refine gate_builtin (b := .append) (xs := #[.tmp 63, .tmp 64]) rfl ?_; go_loud (refine L0.out.appendRaw rfl (.tmp 63) (.tmp 64) 24 (.agg #[.int .i32 0, .int .i64 0, .int .i32 0]) 24 rfl Try.underlying24 infoTok rfl (by decide) (by decide) A1 N1 c1 rfl rfl (rowT_TC L0.out.at5) (by rw [List.length_map, HN1.out.1]; have := HN1.out.2; simp; omega) ?_; intro v12 w12 hS7; have L7 := Aside0.mk hS7; clear hS7))
    | (refine gate_builtin (b := .append) (xs := #[.tmp 65, .tmp 66]) rfl ?_; go_loud (refine L7.out.appendRaw rfl (.tmp 65) (.tmp 66) 24 (.agg #[.int .i32 0, .int .i64 0, .int .i32 0]) 24 rfl Try.underlying24 infoTok rfl (by decide) (by decide) A2 N2 c2 rfl rfl (rowT_TC L7.out.at4) (by rw [List.length_append, List.length_map, List.length_map, HN1.out.1, HN2.out.1]; have := HN1.out.2; have := HN2.out.2; simp; omega) ?_; intro v13 w13 hS8; rw [List.nil_append, ← List.map_append] at hS8; obtain ⟨A13, c13, rfl⟩ := hS8.rowN (n := N3) (by rw [List.length_map, List.length_append, HN1.out.1, HN2.out.1]; exact HN3.out); have L8 := Aside0.mk hS8; clear hS8)))
  refine (ofQ_ HM3.out (fun W' h' => rowT_TC h') L8.out (by have := H512.out; have := HN3.out; omega)).mono ?_
  rintro e w14 ⟨A14, c14, rfl, hS⟩
  have B14 := Aside0.mk hS
  have hwr : wrap64 ((N1 : Int) + (N2 : Int)) = (N3 : Int) := by
    have := HN3.out
    have := H512.out
    rw [IntWalk.wrap64_in _ (by omega)]; omega
  clear hS
  go_wp2_with fail
  go_loopg [107] N3 (fun m' q wx => ∃ j : Nat, j + m' = N3 ∧ q = .int .i64 (j : Int) ∧ Sep w wx [Row I64 3 (.slice A14 N3 c14) (x.tt ++ y.tt.map (shv l.length)), RowT (.slice A13 N3 c13) (l ++ l'), Row I64 3 (.slice A11 N2 c11) y.tt, Row I64 3 (.slice A10 N1 c10) x.tt, RowT (.slice A2 N2 c2) l', RowT (.slice A1 N1 c1) l, uB gy pgy moy (some ay) ny cy, uB gx pgx mox (some ax) nx cx, RowU (.slice (some ay) ny cy) ys, RowU (.slice (some ax) nx cx) xs])
  case atStart => exact ⟨0, by omega, rfl, B14.out⟩
  case round =>
    obtain ⟨j, hjm, rfl, hS⟩ := hrel
    have AJ := Aside0.mk hjm
    have B7 := Aside0.mk hS
    clear hjm hwr
    by_cases hj : j < N3
    · have hjn : (j : Int) < (N3 : Int) := by omega
      have hxl : x.tt.length = N1 := by rw [(within HM1.out).1, sgn_len, HN1.out.1]
      have hyl : y.tt.length = N2 := by rw [(within HM2.out).1, sgn_len, HN2.out.1]
      obtain ⟨a14, rfl, y0⟩ := Kd.at_int hS.rowC' (j : Int) (by omega) (by omega)
      rw [Int.toNat_natCast] at y0
      unfold rd at y0
      rw [Int.toNat_natCast] at y0
      by_cases h1 : j < N1
      · have h1i : (j : Int) < (N1 : Int) := by omega
        obtain ⟨a10, rfl, y1⟩ := Kd.at_int hS.at4.rowC' (j : Int) (by omega) (by omega)
        rw [Int.toNat_natCast] at y1
        unfold rd at y1
        rw [Int.toNat_natCast] at y1
        rw [gd_left (a := x.tt) (by omega)] at y0
        obtain ⟨v, hv⟩ : ∃ v, x.tt.getD j 0 = v := ⟨_, rfl⟩
        rw [hv] at y0 y1
        clear hv hS hxl hyl
        go_wp2_with fail
        go_roundg (gk - 1)
        case measure => have := AJ.out; omega
        case rel => exact ⟨j + 1, by have := AJ.out; omega, by first | (rw [IntWalk.wrap64_in _ (by have := H512.out; have := HN3.out; omega)]; rfl), B7.out⟩
      · have h1i : ¬ (j : Int) < (N1 : Int) := by omega
        obtain ⟨k, rfl⟩ : ∃ k, j = N1 + k := ⟨j - N1, by omega⟩
        have hk : k < N2 := by have := HN3.out; omega
        obtain ⟨a11, rfl, y1⟩ := Kd.at_int hS.at3.rowC' (k : Int) (by omega) (by omega)
        rw [Int.toNat_natCast] at y1
        unfold rd at y1
        rw [Int.toNat_natCast] at y1
        rw [gd_right (a := x.tt) (by omega), hxl, Nat.add_sub_cancel_left] at y0
        have hb := tt_bound HM2.out (j := k) (by rw [sgn_len, HN2.out.1]; exact hk)
        rw [sgn_len, HN2.out.1] at hb
        have hmp : (y.tt.map (shv l.length)).getD k 0 = shv l.length (y.tt.getD k 0) := by
          rw [List.getD_eq_getElem?_getD, List.getD_eq_getElem?_getD, List.getElem?_map, List.getElem?_eq_getElem (by omega)]
          rfl
        rw [hmp] at y0
        obtain ⟨v, hv⟩ : ∃ v, y.tt.getD k 0 = v := ⟨_, rfl⟩
        rw [hv] at y0 y1 hb
        have hwj : wrap64 (((N1 + k : Nat) : Int) - (N1 : Int)) = (k : Int) := by
          rw [IntWalk.wrap64_in _ (by have := H512.out; omega)]; omega
        have hki : (k : Int) < (N2 : Int) := by omega
        unfold shv at y0
        rw [HN1.out.1] at y0
        obtain ⟨J, hJ⟩ : ∃ J, N1 + k = J := ⟨_, rfl⟩
        rw [hJ] at y0 hj hjn h1i hwj AJ ⊢
        clear hv hS hxl hyl hmp hJ
        by_cases hv0 : v < 0
        · have hv1 : ¬ (0 : Int) ≤ v := by omega
          rw [if_pos hv0] at y0
          clear hb
          go_wp2_with fail
          go_roundg (gk - 1)
          case measure => have := AJ.out; omega
          case rel => exact ⟨J + 1, by have := AJ.out; omega, by first | (rw [IntWalk.wrap64_in _ (by have := H512.out; have := HN3.out; omega)]; rfl), B7.out⟩
        · have hv1 : (0 : Int) ≤ v := by omega
          have hwv : wrap64 (v + (N1 : Int)) = v + (N1 : Int) := IntWalk.wrap64_in _ (by have := H512.out; omega)
          rw [if_neg hv0] at y0
          clear hb
          go_wp2_with fail
          go_roundg (gk - 1)
          case measure => have := AJ.out; omega
          case rel => exact ⟨J + 1, by have := AJ.out; omega, by first | (rw [IntWalk.wrap64_in _ (by have := H512.out; have := HN3.out; omega)]; rfl), B7.out⟩
    · have hjn : ¬ (j : Int) < (N3 : Int) := by omega
      have B15 := Aside0.mk (Sep.tail (Sep.tail (Sep.tail (Sep.tail hS))))
      have L10 : Aside0 (Sep w (wr.alloc (.cells #[] 42)) (Row (Kd.raw 3) 42 (.slice (some ⟨wr.heap.size, 0, none⟩) 0 0) [] :: _)) := ⟨B15.out.newLit (d := Kd.raw 3) (xs := []) (inner := []) (Reps.none _ _) (by simp)⟩
      clear hS hj
      go_wp2_with (first
        | (refine gate_builtin (b := .append) (xs := #[.tmp 138, .tmp 139]) rfl ?_; go_loud (refine L10.out.appendRaw rfl (.tmp 138) (.tmp 139) 24 (.agg #[.int .i32 0, .int .i64 0, .int .i32 0]) 24 rfl Try.underlying24 infoTok rfl (by decide) (by decide) A1 N1 c1 rfl rfl (rowT_TC L10.out.at3) (by rw [List.length_map, HN1.out.1]; have := HN1.out.2; simp; omega) ?_; intro v16 w16 hS7; have L17 := Aside0.mk hS7; clear hS7))
        | (refine gate_builtin (b := .append) (xs := #[.tmp 140, .tmp 141]) rfl ?_; go_loud (refine L17.out.appendRaw rfl (.tmp 140) (.tmp 141) 24 (.agg #[.int .i32 0, .int .i64 0, .int .i32 0]) 24 rfl Try.underlying24 infoTok rfl (by decide) (by decide) A2 N2 c2 rfl rfl (rowT_TC L17.out.at2) (by rw [List.length_append, List.length_map, List.length_map, HN1.out.1, HN2.out.1]; have := HN1.out.2; have := HN2.out.2; simp; omega) ?_; intro v17 w17 hS8; rw [List.nil_append, ← List.map_append] at hS8; obtain ⟨A17, c17, rfl⟩ := hS8.rowN (n := N3) (by rw [List.length_map, List.length_append, HN1.out.1, HN2.out.1]; exact HN3.out); have L18 := Aside0.mk hS8; clear hS8)))
      obtain ⟨D1, hD1⟩ : ∃ D, x.deep = D := ⟨_, rfl⟩
      obtain ⟨D2, hD2⟩ : ∃ D, y.deep = D := ⟨_, rfl⟩
      obtain ⟨D3, hD3⟩ : ∃ D, max D1 D2 = D := ⟨_, rfl⟩
      have HD := Aside0.mk (And.intro hD1 hD2)
      have HD3 := Aside0.mk hD3
      clear hD1 hD2 hD3
      refine (deepN_ HM3.out (d := D3) (by show max x.deep y.deep = D3; rw [HD.out.1, HD.out.2]; exact HD3.out) (fun W' h' => rowT_TC h') L18.out (by have := H512.out; have := HN3.out; omega)).mono ?_
      rintro e w18 ⟨rfl, hS18⟩
      have B18 := Aside0.mk (Sep.tail hS18)
      clear hS18
      go_wp2_with fail
      refine (deepN_ HM1.out HD.out.1 (fun W' h' => rowT_TC h'.tail) B18.out HN1.out.2).mono ?_
      rintro e w19 ⟨rfl, hS19⟩
      have B19 := Aside0.mk hS19
      clear hS19
      go_wp2_with fail
      refine (deepN_ HM2.out HD.out.2 (fun W' h' => rowT_TC h') B19.out HN2.out.2).mono ?_
      rintro e w20 ⟨rfl, hS20⟩
      have B20 := Aside0.mk hS20
      clear hS20
      rcases Nat.lt_or_ge D1 D2 with hlt | hge
      · obtain rfl : D3 = D2 := by have := HD3.out; omega
        go_wp2_with fail
        refine (known_ B20.out).mono ?_
        rintro e w21 ⟨rfl, hS21⟩
        have B21 := Aside0.mk hS21
        clear hS21
        go_wp2_with fail
        go_ret
        exact ⟨by first | rfl | (simp; done), B21.out.toBelow⟩
      · obtain rfl : D3 = D1 := by have := HD3.out; omega
        have hnl : ¬ D3 < D2 := by omega
        clear hge
        go_wp2_with fail
        refine (known_ B20.out).mono ?_
        rintro e w21 ⟨rfl, hS21⟩
        have B21 := Aside0.mk hS21
        clear hS21
        go_wp2_with fail
        go_ret
        exact ⟨by first | rfl | (simp; done), B21.out.toBelow⟩
end Go.Proofs.Ytkkgfpdjlohojaa.Law8
namespace Go.Proofs.Ytkkgfpdjlohojaa.Kit
open Go.ChangeShapes Go.WideShapes Go.ChangeAt Go.RowKit Go.Proofs.YtkkgfpdjlohojaaW.PrintWords
section
variable {H : Type} {enc : TypeId × Value → H} {P : Program} {W : World} {base : Nat} {sp : Nat → Bool} {held : Bool}
theorem ints_C {T E : TypeId} {k : IntKind} {a : Option Addr} {len cap : Nat} {d : DataW H} {p : List MemPlace} (hT : P.underlying T = some (.slice E)) (hE : P.underlying E = some (.int k)) (hc : P.cellsOf E = 1)
    (h : DataW.Trod enc P W base (fun _ => true) held T (.slice a len cap) d p) : ∃ xs : List Int, len ≤ cap ∧ (Kd.int k).C W a len xs ∧ ∀ n ∈ xs, (Lit.int k n).wf = true := by
  obtain ⟨fuel, hf⟩ := h
  rcases open_ints hT hE hc hf with ⟨hcs, _⟩ | ⟨x, l, c, zs, hcs, _, hl, hm, hz, _, hcell, hwz⟩
  · simp [Value.cells] at hcs
    obtain ⟨rfl, rfl, rfl⟩ := hcs
    exact ⟨[], Nat.le_refl _, Kd.C_nil _ _, by simp⟩
  · simp [Value.cells] at hcs
    obtain ⟨rfl, rfl, rfl⟩ := hcs
    simp at hz
    simp only [maxLen] at hm
    refine ⟨zs.take len, hl, Kd.C_of_reads (d := (0 : Int)) (h1 := fun _ => rfl) ⟨by rw [List.length_take]; omega, by omega, fun h0 => ⟨x, rfl, fun j hj => ?_⟩⟩, fun n hn => hwz n (List.mem_of_mem_take hn)⟩
    rw [hcell j (by omega), List.getD_eq_getElem?_getD, List.getD_eq_getElem?_getD, List.getElem?_take, if_pos hj]
end
end Go.Proofs.Ytkkgfpdjlohojaa.Kit
namespace Go.Proofs.YtkkgfpdjlohojaaW.PrintWords
end Go.Proofs.YtkkgfpdjlohojaaW.PrintWords
