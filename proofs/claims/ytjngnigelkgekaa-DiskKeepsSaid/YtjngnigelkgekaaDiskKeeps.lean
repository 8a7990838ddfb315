/- DiskKeeps: the law's walk. -/
import Derived.Test.YtjngnigelkgekaaLaw1c
import Derived.Deep.Cut
import Derived.Deep.CutRange
namespace Go.Proofs.Ytjngnigelkgekaa.Disk
set_option linter.unusedVariables false
set_option linter.unusedSimpArgs false
open Go.RowKit Go.Proofs.YtjngnigelkgekaaW.PrintWords Go.Proofs.YtjngnigelkgekaaW.PrintLast Go.Proofs.YtjngnigelkgekaaW.PrintMore Go.Proofs.Ytjngnigelkgekaa.Kit
set_option maxHeartbeats 3200000 in
set_option maxRecDepth 100000 in
theorem diskKeeps_ {A0 A1 A2 : Option Addr} {n0 c0 n1 c1 n2 c2 : Nat} {a b : List Int} {cuts : List Int} {i : Int} (w : World) (h0 : U8.C w A0 n0 a) (h1 : U8.C w A1 n1 b) (h2 : I64.C w A2 n2 cuts) :
    Calls Try.prog 11 #[.slice A0 n0 c0, .slice A1 n1 c1, .slice A2 n2 c2, .int .i64 i] w fun e w' => e = .returned (.bool true) ∧ Below w.heap.size w w' := by
  obtain ⟨q1, q2⟩ := Book.withinF_in (n := i) (lo := 0) (hi := 3) (by omega)
  obtain ⟨k, hk⟩ : ∃ m : Nat, Book.withinF i 0 3 = (m : Int) := ⟨(Book.withinF i 0 3).toNat, by omega⟩
  have k4 : k < 4 := by omega
  have H0 := Aside0.mk h0
  have H1 := Aside0.mk h1
  have H2 := Aside0.mk h2
  have HN2 := Aside0.mk h2.1
  have hn2 : n2 ≤ 9223372036854775807 := h2.2.1
  have hX : (padTo 64 a).length = 64 := padTo_len 64 a
  have hY : (padTo 64 b).length = 64 := padTo_len 64 b
  generalize hXe : padTo 64 a = X at *
  generalize hYe : padTo 64 b = Y at *
  have AX := Aside0.mk hX
  have AY := Aside0.mk hY
  have AXe := Aside0.mk hXe
  have AYe := Aside0.mk hYe
  have hmk : ∀ W : World, (Instr.makeSlice 30 (.int .i64 64) (.int .i64 64)).run Try.prog W = .ok (.slice (some ⟨W.heap.size, 0, none⟩) 64 64) (W.alloc (.cells (madeCells #[.int .u8 0] 64) 5)) := make_ (m := 64) (by omega)
  clear h0 h1 h2 hX hY hXe hYe
  go_enter Try.func11, Try.ntmps11
  go_wp2_with fail
  refine (new_ok (n := 4) (w := w) (by omega) (by omega)).mono ?_
  rintro e w1 ⟨g, rfl, hS1⟩
  go_wp2_with fail
  refine (Book.within_ i 0 3 w1 (by omega) (by omega) (by omega)).mono ?_
  rintro e w2 ⟨rfl, rfl⟩
  rw [hk]
  clear q1 q2 hk
  go_wp2_with fail
  refine (sector1_ (Kd.C_below H0.out hS1.toBelow)).mono ?_
  rintro e w2 ⟨vx, rfl, hx⟩
  rw [AXe.out] at hx
  have hS2 := hS1.lift1 hx
  obtain ⟨Ax, cx, rfl⟩ := hS2.rowN AX.out
  go_wp2_with fail
  refine (sector1_ (Kd.C_below H1.out hS2.toBelow)).mono ?_
  rintro e w3 ⟨vy, rfl, hy⟩
  rw [AYe.out] at hy
  have hS3 := hS2.lift1 hy
  obtain ⟨Ay, cy, rfl⟩ := hS3.rowN AY.out
  have A3 := Aside0.mk hS3.at3
  clear hS1 hx hS2 hy hS3
  go_wp2_with fail
  refine (write_in A3.out 0 (by decide) (b := X) (by have := A3.out.at3.rowC.2.2; rwa [AX.out] at this) (by have := A3.out.at3.rowC.2.1; omega)).mono ?_
  rintro e w4 ⟨rfl, hS4⟩
  have A4 := Aside0.mk hS4
  clear hS4 A3
  go_wp2_with fail
  refine (write_in A4.out 1 (by decide) (b := X) (by have := A4.out.at3.rowC.2.2; rwa [AX.out] at this) (by have := A4.out.at3.rowC.2.1; omega)).mono ?_
  rintro e w5 ⟨rfl, hS5⟩
  have hS5 : Sep w w5 (Dsk g (List.replicate (4 * 64) 0) (wtA X) :: [Row U8 5 (.slice Ay 64 cy) Y, Row U8 5 (.slice Ax 64 cx) X]) := hS5
  have A5 := Aside0.mk hS5
  clear hS5 A4
  go_wp2_with fail
  refine (flush_ A5.out).mono ?_
  rintro e w6 ⟨rfl, hS6⟩
  rw [lasA AX.out] at hS6
  have A6 := Aside0.mk hS6
  clear hS6 A5
  go_wp2_with fail
  refine (write_in A6.out k (by rw [secs_len (fun i _ => was_len AX.out i)]; omega) (b := Y) (by have := A6.out.at2.rowC.2.2; rwa [AY.out] at this) (by have := A6.out.at2.rowC.2.1; omega)).mono ?_
  rintro e w7 ⟨rfl, hS7⟩
  have hS7 : Sep w w7 (Dsk g (secs 4 (was X)) (wtB k Y) :: [Row U8 5 (.slice Ay 64 cy) Y, Row U8 5 (.slice Ax 64 cx) X]) := hS7
  have A7 := Aside0.mk hS7
  clear hS7 A6
  go_wp2_with fail
  refine (crash_ A7.out (cuts := cuts) (fun W' h => Kd.C_below H2.out h.toBelow)).mono ?_
  rintro e w8 ⟨rfl, hS8⟩
  have A8 := Aside0.mk hS8
  have M64 : cutN cuts 0 ≤ 64 := cutN_le cuts 0
  clear hS8 A7
  go_upto_if 50 with fail
  go_cut [13] from 48 (fun c wx => c = .int .i64 (cutN cuts 0 : Int) ∧ wx = w8)
  case first =>
    by_cases hn : 0 < n2
    · obtain ⟨ad, hA, hcc⟩ := Kd.at_int (Kd.C_below H2.out A8.out.toBelow) 0 (by omega) (by omega)
      subst hA
      have hcc0 : w8.cell? ad = some (.int .i64 (rd cuts 0)) := hcc
      clear hcc
      have hE : (if 0 < (if 64 < rd cuts 0 then 64 else rd cuts 0) then (if 64 < rd cuts 0 then 64 else rd cuts 0) else 0) = (cutN cuts 0 : Int) := cut_is (cuts := cuts) (j := 0) (by have := HN2.out; omega)
      have hE2 : max (min (rd cuts 0) 64) 0 = (cutN cuts 0 : Int) := by rw [← hE]; repeat' split
                                                                        all_goals omega
      have hE3 : max 0 (min (rd cuts 0) 64) = (cutN cuts 0 : Int) := by rw [← hE2]; exact Int.max_comm _ _
      generalize rd cuts 0 = x at *
      clear hE
      go_wp2_with fail
      refine (Book.within_ (cutN cuts 0 : Int) 0 64 w8 (by omega) (by omega) (by omega)).mono ?_
      rintro e w9 ⟨rfl, rfl⟩
      rw [Book.withinF_id (by omega) (by omega)]
      clear hcc0 hE2 hE3
      go_wp2_with fail
      go_meet
      case rel => exact ⟨rfl, rfl⟩
    · have hz : cutN cuts 0 = 0 := by unfold cutN; rw [if_neg (by have := HN2.out; omega)]
      go_wp2_with fail
      go_meet
      case rel => exact ⟨by rw [hz]; rfl, rfl⟩
  case rest =>
    obtain ⟨rfl, rfl⟩ := hcut
    have HM : Aside0 (∀ j, j < 4 → sec (crashed (secs 4 (was X)) (wtB k Y) cuts) j = if j = k then Y.take (cutN cuts 0) ++ (was X j).drop (cutN cuts 0) else was X j) := ⟨fun j hj => lasB AX.out AY.out k4 hj⟩
    have HL : Aside0 ((crashed (secs 4 (was X)) (wtB k Y) cuts).length = 256) := ⟨lasB_len AX.out AY.out⟩
    generalize cutN cuts 0 = M at *
    generalize crashed (secs 4 (was X)) (wtB k Y) cuts = LAS at *
    go_wp2_with fail
    go_loopg [14] 4 (fun q p wr => ∃ j : Nat, p = .int .i64 (j : Int) ∧ j + q = 4 ∧ Sep w wr (Dsk g LAS (fun _ => none) :: [Row U8 5 (.slice Ay 64 cy) Y, Row U8 5 (.slice Ax 64 cx) X]))
    case atStart => exact ⟨0, rfl, by omega, A8.out⟩
    case round =>
      obtain ⟨j, rfl, hjk, hS⟩ := hrel
      by_cases hj : j < 4
      · have AS := Aside0.mk (madeB 64 hS (by omega))
        have AK := Aside0.mk hjk
        clear hS hjk
        go_upto_if 63 with fail
        go_cut [15] from 57 to 92 (fun p wx => ∃ A c, p = .slice A 64 c ∧ 64 ≤ c ∧ U8.C wx A 64 (was X j) ∧ Sep w wx (Dsk g LAS (fun _ => none) :: [Row U8 5 (.slice Ay 64 cy) Y, Row U8 5 (.slice Ax 64 cx) X]))
        case first =>
          by_cases hj2 : j < 2
          · go_wp2_with fail
            go_meet
            case rel => exact ⟨_, _, rfl, AS.out.at4.rowC.2.1, by have := AS.out.at4.rowC.2.2; unfold was; rw [if_pos hj2]; rwa [AX.out] at this, AS.out.tail⟩
          · go_wp2_with fail
            go_meet
            case rel => exact ⟨_, _, rfl, Nat.le_refl _, by have := AS.out.rowC.2.2; unfold was; rw [if_neg hj2]; exact this, AS.out.tail⟩
        case rest =>
          obtain ⟨Aw, cw, rfl, hcw, hCw, hS⟩ := hcut
          have hWl : (was X j).length = 64 := was_len AX.out j
          have hsw := strC (c := cw) hCw
          have ACW := Aside0.mk hCw
          have AS2 := Aside0.mk hS
          clear hCw hS AS
          go_upto_if 69 with fail
          go_cut [16] from 57 to 92 (fun p wx => p = .string (strOfNums (sec LAS j)) ∧ Sep w wx (Dsk g LAS (fun _ => none) :: [Row U8 5 (.slice Ay 64 cy) Y, Row U8 5 (.slice Ax 64 cx) X]))
          case first =>
            by_cases hjk : j = k
            · have hq : sec LAS j = Y.take M ++ (was X j).drop M := by rw [HM.out j hj, if_pos hjk]
              have hjk' : (j : Int) = (k : Int) := by rw [hjk]
              have hcy : 64 ≤ cy := AS2.out.at2.rowC.2.1
              have c1 := cutTo_ (A := Ay) (c := cy) M64 hcy
              obtain ⟨A', c2, c3⟩ := cutFrom_ (A := Aw) (c := cw) (m := M) M64 hcw hWl
              have hCy : ∀ q, U8.C (wc.drewN q) Ay 64 Y := fun q => by have := (AS2.out.drewN q).at2.rowC.2.2; rwa [AY.out] at this
              have s1 := fun q => strC (c := cy) (C_pre (hCy q) M64)
              have s2 := fun q => strC (c := cw - M) (c3 _ (Kd.C_below ACW.out (pw_below_drewN (Below.refl _ _) q)))
              have AQ := Aside0.mk hq
              have hsz : (strOfNums (Y.take M)).size + (strOfNums ((was X j).drop M)).size ≤ 9223372036854775807 := by rw [strOfNums_size, strOfNums_size, List.length_take, List.length_drop, AY.out, hWl]; omega
              have happ := str_app (Y.take M) ((was X j).drop M)
              generalize strOfNums (Y.take M) = sa at *
              generalize strOfNums ((was X j).drop M) = sb at *
              have hsz' : ¬ (sa.size + sb.size > 9223372036854775807) := by omega
              have hadd : ∀ W : World, (Op.stringOp .add sa sb).run Try.prog W = .ok (.string (sa ++ sb)) W := fun W => run_string_add_sum W sa sb hsz
              have AP := Aside0.mk happ
              clear hq c3 hCy hsw happ
              go_wp2_with fail
              go_quiet (fail)
              go_wp2_with fail
              go_meet
              case rel => exact ⟨by rw [AQ.out, ← AP.out], AS2.out.drewN _⟩
            · have hq : sec LAS j = was X j := by rw [HM.out j hj, if_neg hjk]
              go_wp2_with fail
              go_meet
              case rel => exact ⟨by rw [hq], AS2.out⟩
          case rest =>
            obtain ⟨rfl, hS⟩ := hcut
            have hl : 64 * (j + 1) ≤ LAS.length := by rw [HL.out]; omega
            clear hsw AS2 ACW
            have AS2 := Aside0.mk hS
            clear hS
            go_wp2_with fail
            refine (read_in AS2.out j hl).mono ?_
            rintro e w3 ⟨v, rfl, hS3⟩
            simp only [Option.getD_none] at hS3
            obtain ⟨Av, cv, rfl⟩ := hS3.rowN (n := 64) (sec_len hl)
            have hs3 := str_ hS3
            have AS3 := Aside0.mk hS3.tail
            clear hS3 AS2
            go_wp2_with fail
            go_roundg (gk - 1)
            case measure => have := AK.out; omega
            case rel => exact ⟨j + 1, by go_num, by have := AK.out; omega, AS3.out⟩
      · have AS := Aside0.mk hS
        clear hS hjk
        have hfl : flushed LAS (fun _ => none) = LAS := flushed_none (n := 4) (by rw [HL.out])
        have HFL := Aside0.mk hfl
        clear hfl
        go_upto_region 27 with fail
        go_region_with (first
          | (go_at_call 49; refine (waits_ AS.out.drew).mono ?_; rintro e w3 ⟨v3, rfl, hS3⟩; rw [keysI_none] at hS3; obtain ⟨A3, c3, rfl⟩ := hS3.rowN (n := 0) rfl; have AS3 := Aside0.mk hS3.tail; clear hS3)
          | (go_at_call 48; refine (image_ AS3.out).mono ?_; rintro e w4 ⟨v4, rfl, hS4⟩; obtain ⟨A4, c4, rfl⟩ := hS4.rowN (n := 256) HL.out; have hs4 := str_ hS4; have AS4 := Aside0.mk hS4; clear hS4)
          | (go_at_call 24; refine (seen_ AS4.out.at2).mono ?_; rintro e w5 ⟨v5, rfl, hS5⟩; rw [HFL.out] at hS5; obtain ⟨A5, c5, rfl⟩ := hS5.rowN (n := 256) HL.out; have hs5 := str_ hS5; have hs4' := str_ hS5.at3; have AS5 := Aside0.mk hS5; clear hS5)
          | (go_at_call 51; refine (known_ _).mono ?_; rintro e w6 ⟨rfl, hb6⟩; have A6 := Aside0.mk (AS5.out.below hb6).toBelow; clear hb6))
        all_goals
          go_wp2_with fail
          go_ret
          exact ⟨by first | rfl | (simp; done), A6.out⟩
end Go.Proofs.Ytjngnigelkgekaa.Disk
