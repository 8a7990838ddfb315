/- StKnown2, StNumbers, WSized: what StoreNumbers needs. -/
import Derived.Test.YtjngnigelkgekaaGreatTstoreNumbers25
import Derived.SizedLaws
import Derived.ChangeSlices
set_option linter.unusedVariables false
set_option linter.unusedSimpArgs false
namespace Go.Proofs.YtjngnigelkgekaaGreat.Store
open Go.RowKit Go.Proofs.YtjngnigelkgekaaGreatW.PrintWords Go.Proofs.YtjngnigelkgekaaGreatW.PrintLast Go.Proofs.YtjngnigelkgekaaGreatW.PrintMore Go.Proofs.YtjngnigelkgekaaGreat.Kit Go.Proofs.YtjngnigelkgekaaGreat.Plain Go.Proofs.YtjngnigelkgekaaGreat.Disk Go.Proofs.YtjngnigelkgekaaGreat.Root
open Go.Proofs.YtjngnigelkgekaaGreat.Delta (Chg KC deltaF rightF)
open Go.Proofs.YtjngnigelkgekaaGreat.Redo (appR sizeF)
open Go.Proofs.YtjngnigelkgekaaGreat.Frame (frameF)
theorem k_size : ((0 : Nat) : Int) ≤ sizeF 9 := by decide +kernel
theorem k_flush' : flushed z2L (appR 20 z2L noW 9 4 2 ((0 : Nat) : Int) (frameF 2 ((0 : Nat) : Int) (deltaF [(2, s5)]))) = z3L := k_flush
theorem k_p2 {ps : List (List Int)} (h : applyF zps [(2, s5)] = ps) : ∃ hi : 2 < ps.length, ps[2] = s5 ∧ ps.length = 4 := by
  rw [k_app] at h
  subst h
  exact ⟨by decide, rfl, rfl⟩
set_option maxHeartbeats 3200000 in
set_option maxRecDepth 100000 in
theorem known_ (w : World) : Calls Tryz.prog 12 #[] w fun e w' => e = .returned (.bool true) ∧ Below w.heap.size w w' := by
  go_enter Tryz.func12, Tryz.ntmps12
  go_wp2_with fail
  refine (new_ok (n := 20) (by decide) (by decide)).mono ?_
  rintro e w1 ⟨g, rfl, hS1⟩
  have B1 := Aside0.mk hS1
  clear hS1
  go_wp2_with fail
  refine (k_open0 B1.out).mono ?_
  rintro e w2 ⟨rfl, hS2⟩
  have B2 := Aside0.mk hS2
  clear hS2
  go_wp2_with fail
  refine (k_format B2.out).mono ?_
  rintro e w3 ⟨rfl, hS3⟩
  have B3 := Aside0.mk hS3
  clear hS3
  go_wp2_with fail
  refine (k_open1 B3.out).mono ?_
  rintro e w4 ⟨gs, m, rfl, hS4⟩
  have B4 := Aside0.mk hS4
  clear hS4
  go_wp2_with fail
  refine (sector_ 5 _).mono ?_
  rintro e w5 ⟨v5, rfl, hS5⟩
  obtain ⟨A5, c5, rfl⟩ := hS5.rowN (n := 64) rfl
  have B5 := Aside0.mk ((B4.out.lift1 hS5).newBlk 75 #[.int .i64 2, .slice A5 64 c5])
  clear hS5
  go_wp2_with fail
  refine (commit_ok (n := 20) (l := [(2, s5)]) (n2 := 1) (c2 := 1) B5.out.at3.at4.at2 k_len2 (by decide) Ref.none_len (fun W' hW => chg_lit hW) k_r1 k_size k_fit (by decide) (by decide) (by decide) k_pl (by decide)).mono ?_
  rintro e w6 ⟨rfl, hS6⟩
  obtain ⟨ps, hps⟩ : ∃ p, applyF zps [(2, s5)] = p := ⟨_, rfl⟩
  have HPS := Aside0.mk (k_p2 hps)
  have HPE := Aside0.mk hps
  rw [hps] at hS6
  obtain ⟨nm, hnm⟩ : ∃ p, insAll [] [(2, s5)] = p := ⟨_, rfl⟩
  rw [hnm] at hS6
  obtain ⟨wt6, hwt6⟩ : ∃ t, appR 20 z2L noW 9 4 2 ((0 : Nat) : Int) (frameF 2 ((0 : Nat) : Int) (deltaF [(2, s5)])) = t := ⟨_, rfl⟩
  have HFL : Aside0 (flushed z2L wt6 = z3L) := ⟨by rw [← hwt6]; exact k_flush'⟩
  rw [hwt6] at hS6
  have B6 : Aside0 (Sep w w6 (StB gs g m 9 4 2 ps nm 84 1 :: Dsk g z2L wt6 :: _)) := ⟨hS6⟩
  clear hS6 hps hnm hwt6
  go_wp2_with fail
  refine (sector_ 5 _).mono ?_
  rintro e w7 ⟨v7, rfl, hS7⟩
  obtain ⟨A7, c7, rfl⟩ := hS7.rowN (n := 64) rfl
  have B7 := Aside0.mk ((B6.out.lift1 hS7).newBlk 75 #[.int .i64 4, .slice A7 64 c7])
  clear hS7
  go_wp2_with fail
  refine (commit_bad (l := [(4, s5)]) (n2 := 1) (c2 := 1) B7.out.at3 (chg_lit B7.out) k_r2).mono ?_
  rintro e w8 ⟨rfl, hS8⟩
  have B8 : Aside0 (Sep w w8 (StB gs g m 9 4 2 ps nm 84 1 :: Dsk g z2L wt6 :: _)) := ⟨hS8.at4.at2⟩
  clear hS8
  go_wp2_with fail
  obtain ⟨hi2, hp2, hp4⟩ := HPS.out
  refine (page_in B8.out 2 hi2 (by rw [hp2]; decide) (by rw [hp4]; decide)).mono ?_
  rintro e w9 ⟨v9, rfl, hS9⟩
  rw [hp2] at hS9
  obtain ⟨g9, c9, rfl⟩ := hS9.rowFormN (n := 64) rfl (by decide)
  have B9 := Aside0.mk hS9
  clear hS9
  go_wp2_with fail
  refine (used_ B9.out.at2).mono ?_
  rintro e w10 ⟨rfl, rfl⟩
  go_wp2_with fail
  refine (seq_ B9.out.at2).mono ?_
  rintro e w10 ⟨rfl, rfl⟩
  go_wp2_with fail
  refine (sync_ B9.out.to3).mono ?_
  rintro e w11 ⟨rfl, hS11⟩
  rw [HFL.out] at hS11
  have B11 := Aside0.mk hS11.at2
  clear hS11
  go_wp2_with fail
  refine (crash_ (cuts := []) (n := 0) (c := 0) (A := none) B11.out (fun W' hW => Kd.C_nil _ _)).mono ?_
  rintro e w12 ⟨rfl, hS12⟩
  rw [k_crash] at hS12
  have B12 := Aside0.mk hS12
  clear hS12
  generalize ((keysOf (z3L.length / 64) noW).length : Int) = q12
  go_wp2_with fail
  refine (k_open3 B12.out).mono ?_
  rintro e w13 ⟨gs2, m2, L4, rfl, hL4, hS13⟩
  rw [HPE.out] at hS13
  have HL4 := Aside0.mk hL4
  have B13 := Aside0.mk hS13
  clear hS13 hL4
  go_wp2_with fail
  refine (page_in B13.out 2 hi2 (by rw [hp2]; decide) (by rw [hp4]; decide)).mono ?_
  rintro e w14 ⟨v14, rfl, hS14⟩
  rw [hp2] at hS14
  obtain ⟨g14, c14, rfl⟩ := hS14.rowFormN (n := 64) rfl (by decide)
  have B14 := Aside0.mk hS14
  clear hS14
  have y1 := (B14.out.rowCell (0 : Int) 0 (by decide)).1
  have y2 := (B14.out.at5.rowCell (0 : Int) 0 (by decide)).1
  rw [show List.getD s5 0 0 = 5 from rfl] at y1 y2
  go_wp2_with fail
  refine (root_ B14.out.at2).mono ?_
  rintro e w15 ⟨rfl, hb15⟩
  have B15 := Aside0.mk (B14.out.below hb15)
  clear hb15 y1 y2
  have hfd : ∀ w : World, (Instr.field 80 (.agg #[.int .i64 9, .int .i64 4, .int .u32 3]) 2).run Tryz.prog w = .ok (.int .u32 3) w := fun _ => by kernel_rfl
  go_wp2_with fail
  refine (page_out B15.out.at2 9 (by rw [hp4]; decide)).mono ?_
  rintro e w16 ⟨rfl, rfl⟩
  go_wp2_with fail
  refine (format_bad (n := 20) B15.out.at3 HL4.out 99 1 (by decide +kernel)).mono ?_
  rintro e w17 ⟨rfl, hS17⟩
  have B17 := Aside0.mk hS17
  clear hS17
  go_wp2_with fail
  refine (format_nil 1 1 _).mono ?_
  rintro e w18 ⟨rfl, rfl⟩
  go_wp2_with fail
  go_ret
  exact ⟨by first | rfl | (simp; done), B17.out.toBelow⟩
end Go.Proofs.YtjngnigelkgekaaGreat.Store
namespace Go.Proofs.YtjngnigelkgekaaGreat.RStore
open Go.RowKit Go.Proofs.YtjngnigelkgekaaGreatW.PrintWords Go.Proofs.YtjngnigelkgekaaGreatW.PrintLast Go.Proofs.YtjngnigelkgekaaGreatW.PrintMore Go.Proofs.YtjngnigelkgekaaGreat.Kit Go.Proofs.YtjngnigelkgekaaGreat.Plain Go.Proofs.YtjngnigelkgekaaGreat.Disk Go.Proofs.YtjngnigelkgekaaGreat.Root
open Go.Proofs.YtjngnigelkgekaaGreat.Delta (Chg KC)
open Go.Proofs.YtjngnigelkgekaaGreat.Home (RT RTL pair18_)
open Go.Proofs.YtjngnigelkgekaaGreat.Store (sectF StB sync_)
def TapeR (v : Value) : HP := Ex fun l : List Int => Row I64 3 v l
def AsksR (v : Value) : HP := Ex fun l : List Ask => Star [Pu (∀ x ∈ l, ∀ y ∈ x.2.2.2, Bytes y.2), RowF KA 83 v l]
theorem tapeQ {k : Nat} (hk : k ≤ 40) (w : World) : Calls Tryz.prog 36 #[.int .i64 (k : Int)] w fun e w' => ∃ v, e = .returned v ∧ Sep w w' [TapeR v] :=
  (tape18_ hk w).mono (by rintro e w' ⟨v, l, rfl, hS⟩; exact ⟨v, rfl, Sep.unex l hS⟩)
theorem asksQ {k : Nat} (hk : k ≤ 40) (w : World) : Calls Tryz.prog 37 #[.int .i64 (k : Int)] w fun e w' => ∃ v, e = .returned v ∧ Sep w w' [AsksR v] :=
  (asks18_ hk w).mono (by rintro e w' ⟨A, n, c, l, rfl, hb, hS⟩; exact ⟨_, rfl, Sep.unex l (Sep.unstar (L := [_, _]) (hS.unpu hb))⟩)
theorem tapeQ3 (w : World) : Calls Tryz.prog 36 #[.int .i64 3] w fun e w' => ∃ v, e = .returned v ∧ Sep w w' [TapeR v] := tapeQ (k := 3) (by decide) w
theorem asksQ1 (w : World) : Calls Tryz.prog 37 #[.int .i64 1] w fun e w' => ∃ v, e = .returned v ∧ Sep w w' [AsksR v] := asksQ (k := 1) (by decide) w
theorem playQ {w W : World} {A0 : Option Addr} {n0 c0 : Nat} {im : List Int} {log pages : Int} {v1 v2 : Value} {F : List HP} (h : Sep w W (Row U8 5 (.slice A0 n0 c0) im :: TapeR v1 :: AsksR v2 :: F)) (hc0 : n0 ≤ c0) (hb0 : Bytes im) :
    Calls Tryz.prog 11 #[.slice A0 n0 c0, .int .i64 log, .int .i64 pages, .bool true, v1, v2] W fun e w' => e = .returned (.bool true) ∧ Sep w w' F := by
  obtain ⟨l1, h1⟩ := h.at2.ex
  obtain ⟨A1, c1, rfl⟩ := h1.rowV
  obtain ⟨l2, h2⟩ := h1.at3.ex
  obtain ⟨hB, h3⟩ := h2.star.pu
  obtain ⟨A2, c2, rfl⟩ := h3.rowFV
  have hC := h3.rowFC.2.2
  refine (play18_ (im := im) h3.at3.rowC' hc0 hb0 h3.at2.rowC' hC hB).mono ?_
  rintro e w' ⟨rfl, hb⟩
  exact ⟨rfl, (h3.tail.tail.tail).below hb⟩
theorem sn_nums {k : Nat} (hk : k < 40) : (∃ p q : Nat, (k : Int).tmod 9 = (p : Int) ∧ wrap64 (3 + (p : Int)) = (q : Int)) ∧ (∃ p q : Nat, (k : Int).tmod 6 = (p : Int) ∧ wrap64 (1 + (p : Int)) = (q : Int)) ∧ wrap64 ((k : Int) + 1) = (k : Int) + 1 := by
  refine ⟨⟨k % 9, 3 + k % 9, ?_, ?_⟩, ⟨k % 6, 1 + k % 6, ?_, ?_⟩, IntWalk.wrap64_in _ (by omega)⟩
  · rw [Int.tmod_eq_emod_of_nonneg (by omega)]; omega
  · rw [IntWalk.wrap64_in _ (by omega)]; omega
  · rw [Int.tmod_eq_emod_of_nonneg (by omega)]; omega
  · rw [IntWalk.wrap64_in _ (by omega)]; omega
theorem fmtE_94 : fmtE 20 9 4 = 0 := by decide
theorem any_fmt {las : List Int} {wt : Wt} (h : Dk 20 las wt) : Any 20 (fmtS 20 las wt 9 4).1 (fmtS 20 las wt 9 4).2 9 4 1 := by
  have h0 : rightR ((9 : Nat) : Int) ((4 : Nat) : Int) 1 (20 : Nat) = true := by decide
  have h1 := (Store.Com.start (a := 9) (b := 4) h.len h.byt h.wl h.wb h0).lay
  have h2 : fmtS 20 las wt 9 4 = (Store.fmtL 20 las wt 9 4, fun _ => none) := by
    unfold fmtS
    rw [if_pos (by decide)]
    rfl
  rw [h2]
  exact ⟨⟨h1.len, Ref.none_len, h1.byt, Store.no_bytes⟩, by decide, h1.best, h0, by decide⟩
set_option maxHeartbeats 6400000 in
set_option maxRecDepth 100000 in
theorem storeNumbers_ (w : World) : Calls Tryz.prog 9 #[] w fun e w' => e = .returned (.bool true) ∧ Below w.heap.size w w' := by
  have S0 := Aside0.mk (Sep.start w)
  have hmk : ∀ W : World, (Instr.makeSlice 24 (.int .i64 1920) (.int .i64 1920)).run Tryz.prog W = .ok (.slice (some ⟨W.heap.size, 0, none⟩) 1920 1920) (W.alloc (.cells (madeCells #[.int .u8 0] 1920) 5)) := Disk.make_ (m := 1920) (by omega)
  have hmk2 : ∀ W : World, (Instr.makeSlice 24 (.int .i64 1280) (.int .i64 1280)).run Tryz.prog W = .ok (.slice (some ⟨W.heap.size, 0, none⟩) 1280 1280) (W.alloc (.cells (madeCells #[.int .u8 0] 1280) 5)) := Disk.make_ (m := 1280) (by omega)
  go_enter Tryz.func9, Tryz.ntmps9
  go_wp2_with fail
  go_loopg [1] 40 (fun k_ p wr => ∃ (k : Nat), p = .int .i64 (k : Int) ∧ k + k_ = 40 ∧ Sep w wr [])
  case atStart => exact ⟨0, rfl, by decide, S0.out⟩
  case round =>
    obtain ⟨k, rfl, hkk, hS⟩ := hrel
    obtain ⟨w1, rfl⟩ : ∃ x, x = wr := ⟨_, rfl⟩
    have AK := Aside0.mk hkk
    have AS := Aside0.mk hS
    clear hS
    by_cases ck : k < 40
    case pos =>
      have hkl : (k : Int) < 40 := by omega
      obtain ⟨⟨p9, q9, s1, s2⟩, ⟨p6, q6, s3, s4⟩, s5⟩ := sn_nums ck
      have HK := Aside0.mk ck
      have B1 := Aside0.mk AS.out.drew
      clear hkk ck
      go_upto_region 4 with fail
      refine start_ (n := 13) (S := fun w' => True) (ds := [11]) #[Z,Z,Z,Z,Z,Z,Z,Z,Z,Z,Z,Z,Z] (by kernel_rfl) rfl rfl trivial (fun hHeld => ?_)
      refine pu_ 1 18 ?_ #[Z,J,Z,Z,Z,Z,Z,Z,Z,Z,Z,Z,Z] rfl rfl ?_ ?_ ?_ ?_
      rotate_left
      · intro w'
        go_simp
        with_reducible rfl
      rotate_left
      · simp only [aP]
        rfl
      refine pu_ 2 19 ?_ #[Z,J,J,Z,Z,Z,Z,Z,Z,Z,Z,Z,Z] rfl rfl ?_ ?_ ?_ ?_
      rotate_left
      · intro w'
        go_simp
        with_reducible rfl
      rotate_left
      · simp only [aP]
        rfl
      refine pu_ 3 20 ?_ #[Z,J,J,J,Z,Z,Z,Z,Z,Z,Z,Z,Z] rfl rfl ?_ ?_ ?_ ?_
      rotate_left
      · intro w'
        go_simp
        with_reducible rfl
      rotate_left
      · simp only [aP]
        rfl
      refine pu_ 4 21 ?_ #[Z,J,J,J,J,Z,Z,Z,Z,Z,Z,Z,Z] rfl rfl ?_ ?_ ?_ ?_
      rotate_left
      · intro w'
        go_simp
        with_reducible rfl
      rotate_left
      · simp only [aP]
        rfl
      refine pu_ 5 22 ?_ #[Z,J,J,J,J,J,Z,Z,Z,Z,Z,Z,Z] rfl rfl ?_ ?_ ?_ ?_
      rotate_left
      · intro w'
        go_simp
        with_reducible rfl
      rotate_left
      · simp only [aP]
        rfl
      refine pu_ 6 23 ?_ #[Z,J,J,J,J,J,J,Z,Z,Z,Z,Z,Z] rfl rfl ?_ ?_ ?_ ?_
      rotate_left
      · intro w'
        go_simp
        with_reducible rfl
      rotate_left
      · simp only [aP]
        rfl
      refine pu_ 7 24 ?_ #[Z,J,J,J,J,J,J,J,Z,Z,Z,Z,Z] rfl rfl ?_ ?_ ?_ ?_
      rotate_left
      · intro w'
        go_simp
        with_reducible rfl
      rotate_left
      · simp only [aP]
        rfl
      refine pu_ 9 26 ?_ #[Z,J,J,J,J,J,J,J,Z,J,Z,Z,Z] rfl rfl ?_ ?_ ?_ ?_
      rotate_left
      · intro w'
        go_simp
        with_reducible rfl
      rotate_left
      · simp only [aP]
        rfl
      refine join_ (σ := Nat × Value × Value) 2 #[J,J,J,J,J,J,J,J,J,J,J,Z,Z] (fun s_ => [(17, .slice (some ⟨s_.1, 0, none⟩) 1920 1920), (25, s_.2.1), (27, s_.2.2)]) (fun s_ w' => Sep w w' ((Row U8 5 (.slice (some ⟨(s_.1), 0, none⟩) 1920 1920) (List.replicate 1920 0)) :: (TapeR ((s_.2.1))) :: (AsksR ((s_.2.2))) :: [])) ?_ ?_
      rotate_left
      · intro hJ0_8_10
        refine join_ (σ := Nat × Value) 3 #[J,J,J,J,J,J,J,J,J,J,Z,Z,Z] (fun s_ => [(17, .slice (some ⟨s_.1, 0, none⟩) 1920 1920), (25, s_.2)]) (fun s_ w' => Sep w w' ((Row U8 5 (.slice (some ⟨(s_.1), 0, none⟩) 1920 1920) (List.replicate 1920 0)) :: (TapeR ((s_.2))) :: [])) ?_ ?_
        rotate_left
        · intro hJ0_8
          refine join_ (σ := Value × Value) 3 #[Z,J,J,J,J,J,J,J,J,J,J,Z,Z] (fun s_ => [(25, s_.1), (27, s_.2)]) (fun s_ w' => Sep w w' ((TapeR ((s_.1))) :: (AsksR ((s_.2))) :: [])) ?_ ?_
          rotate_left
          · intro hJ8_10
            refine join_ (σ := Nat) 4 #[J,J,J,J,J,J,J,J,Z,J,Z,Z,Z] (fun s_ => [(17, .slice (some ⟨s_, 0, none⟩) 1920 1920)]) (fun s_ w' => Sep w w' ((Row U8 5 (.slice (some ⟨(s_), 0, none⟩) 1920 1920) (List.replicate 1920 0)) :: [])) ?_ ?_
            rotate_left
            · intro hJ0
              refine join_ (σ := Value) 4 #[Z,J,J,J,J,J,J,J,J,J,Z,Z,Z] (fun s_ => [(25, s_)]) (fun s_ w' => Sep w w' ((TapeR ((s_))) :: [])) ?_ ?_
              rotate_left
              · intro hJ8
                refine two_ (i := 0) (j := 8) (Ni := some 17) (Nj := some 25) #[J,J,J,J,J,J,J,J,Z,J,Z,Z,Z] #[Z,J,J,J,J,J,J,J,J,J,Z,Z,Z] rfl rfl rfl rfl (by kernel_rfl) (by decide) (by decide) (fun K hK => ?_) (fun K hK => ?_)
                · skip
                  refine value_ (w1 := ?_) (v := ?_) (by rfl) rfl ?_ ?_
                  rotate_left 2
                  · go_simp
                    constructor
                    · rfl
                    · rfl
                  have hN := Disk.madeB 1920 (B1.out) (by omega)
                  refine hK.out _ _ trivial (fun hHeld => ?_)
                  clear hK K
                  refine norm_ (a' := ?_) ?_ ?_
                  rotate_left
                  · show Act.put _ (some 17) _ = _
                    simp only [aP]
                    rfl
                  exact norm_ (by first | (simp only [putAll, Act.put, List.setIfInBounds_toArray, List.set_cons_zero, List.set_cons_succ]; done) | (simp only [putAll, Act.put, List.setIfInBounds_toArray, List.set_cons_zero, List.set_cons_succ]; rfl)) (hJ0 (w1.drew).heap.size _ hN)
                · skip
                  refine goes_ Tryz.func36 (by kernel_rfl) rfl #[.int .i64 (k : Int)] (by rfl) rfl rfl (by simp only [List.map_toArray, List.map_cons, List.map_nil]; rfl) ?_
                  with_reducible refine (tapeQ (by have := HK.out; omega) _).mono ?_
                  rintro e wn_ ⟨vn_, rfl, hS_⟩
                  refine ⟨_, rfl, ?_⟩
                  have hN := (B1.out).lift1 hS_
                  clear hS_
                  refine hK.out _ _ trivial (fun hHeld => ?_)
                  clear hK K
                  refine norm_ (a' := ?_) ?_ ?_
                  rotate_left
                  · show Act.put _ (some 25) _ = _
                    simp only [aP]
                    rfl
                  exact norm_ (by first | (simp only [putAll, Act.put, List.setIfInBounds_toArray, List.set_cons_zero, List.set_cons_succ]; done) | (simp only [putAll, Act.put, List.setIfInBounds_toArray, List.set_cons_zero, List.set_cons_succ]; rfl)) (hJ8 vn_ _ hN)
              · skip
                rintro v8_ W_ hQ_
                have hSep : Aside0 (Sep w W_ ((TapeR ((v8_))) :: [])) := ⟨hQ_⟩
                clear hQ_
                have hHeld := trivial
                refine norm_ (a' := ?_) ?_ ?_
                rotate_left
                · simp only [putAll, Act.put, List.setIfInBounds_toArray, List.set_cons_zero, List.set_cons_succ]
                  rfl
                refine two_ (i := 0) (j := 10) (Ni := some 17) (Nj := some 27) #[J,J,J,J,J,J,J,J,J,J,Z,Z,Z] #[Z,J,J,J,J,J,J,J,J,J,J,Z,Z] rfl rfl rfl rfl (by kernel_rfl) (by decide) (by decide) (fun K hK => ?_) (fun K hK => ?_)
                · skip
                  refine value_ (w1 := ?_) (v := ?_) (by rfl) rfl ?_ ?_
                  rotate_left 2
                  · go_simp
                    constructor
                    · rfl
                    · rfl
                  have hN := Disk.madeB 1920 (hSep.out) (by omega)
                  refine hK.out _ _ trivial (fun hHeld => ?_)
                  clear hK K
                  refine norm_ (a' := ?_) ?_ ?_
                  rotate_left
                  · show Act.put _ (some 17) _ = _
                    simp only [aP]
                    rfl
                  exact norm_ (by first | (simp only [putAll, Act.put, List.setIfInBounds_toArray, List.set_cons_zero, List.set_cons_succ]; done) | (simp only [putAll, Act.put, List.setIfInBounds_toArray, List.set_cons_zero, List.set_cons_succ]; rfl)) (hJ0_8 ((W_).heap.size, v8_) _ hN)
                · skip
                  refine goes_ Tryz.func37 (by kernel_rfl) rfl #[.int .i64 (k : Int)] (by rfl) rfl rfl (by simp only [List.map_toArray, List.map_cons, List.map_nil]; rfl) ?_
                  with_reducible refine (asksQ (by have := HK.out; omega) _).mono ?_
                  rintro e wn_ ⟨vn_, rfl, hS_⟩
                  refine ⟨_, rfl, ?_⟩
                  have hN := (hSep.out).lift1 hS_
                  clear hS_
                  refine hK.out _ _ trivial (fun hHeld => ?_)
                  clear hK K
                  refine norm_ (a' := ?_) ?_ ?_
                  rotate_left
                  · show Act.put _ (some 27) _ = _
                    simp only [aP]
                    rfl
                  exact norm_ (by first | (simp only [putAll, Act.put, List.setIfInBounds_toArray, List.set_cons_zero, List.set_cons_succ]; done) | (simp only [putAll, Act.put, List.setIfInBounds_toArray, List.set_cons_zero, List.set_cons_succ]; rfl)) (hJ8_10 (v8_, vn_) _ hN.at2)
            · skip
              rintro v0_ W_ hQ_
              have hSep : Aside0 (Sep w W_ ((Row U8 5 (.slice (some ⟨(v0_), 0, none⟩) 1920 1920) (List.replicate 1920 0)) :: [])) := ⟨hQ_⟩
              clear hQ_
              have hHeld := trivial
              refine norm_ (a' := ?_) ?_ ?_
              rotate_left
              · simp only [putAll, Act.put, List.setIfInBounds_toArray, List.set_cons_zero, List.set_cons_succ]
                rfl
              refine one_ (i := 8) (N := some 25) #[J,J,J,J,J,J,J,J,J,J,Z,Z,Z] rfl rfl (by kernel_rfl) (by decide) (fun K hK => ?_)
              refine goes_ Tryz.func36 (by kernel_rfl) rfl #[.int .i64 (k : Int)] (by rfl) rfl rfl (by simp only [List.map_toArray, List.map_cons, List.map_nil]; rfl) ?_
              with_reducible refine (tapeQ (by have := HK.out; omega) _).mono ?_
              rintro e wn_ ⟨vn_, rfl, hS_⟩
              refine ⟨_, rfl, ?_⟩
              have hN := (hSep.out).lift1 hS_
              clear hS_
              refine hK.out _ _ trivial (fun hHeld => ?_)
              clear hK K
              refine norm_ (a' := ?_) ?_ ?_
              rotate_left
              · show Act.put _ (some 25) _ = _
                simp only [aP]
                rfl
              exact norm_ (by first | (simp only [putAll, Act.put, List.setIfInBounds_toArray, List.set_cons_zero, List.set_cons_succ]; done) | (simp only [putAll, Act.put, List.setIfInBounds_toArray, List.set_cons_zero, List.set_cons_succ]; rfl)) (hJ0_8 (v0_, vn_) _ hN.at2)
          · skip
            rintro ⟨v8_, v10_⟩ W_ hQ_
            have hSep : Aside0 (Sep w W_ ((TapeR ((v8_))) :: (AsksR ((v10_))) :: [])) := ⟨hQ_⟩
            clear hQ_
            have hHeld := trivial
            refine norm_ (a' := ?_) ?_ ?_
            rotate_left
            · simp only [putAll, Act.put, List.setIfInBounds_toArray, List.set_cons_zero, List.set_cons_succ]
              rfl
            refine one_ (i := 0) (N := some 17) #[J,J,J,J,J,J,J,J,J,J,J,Z,Z] rfl rfl (by kernel_rfl) (by decide) (fun K hK => ?_)
            refine value_ (w1 := ?_) (v := ?_) (by rfl) rfl ?_ ?_
            rotate_left 2
            · go_simp
              constructor
              · rfl
              · rfl
            have hN := Disk.madeB 1920 (hSep.out) (by omega)
            refine hK.out _ _ trivial (fun hHeld => ?_)
            clear hK K
            refine norm_ (a' := ?_) ?_ ?_
            rotate_left
            · show Act.put _ (some 17) _ = _
              simp only [aP]
              rfl
            exact norm_ (by first | (simp only [putAll, Act.put, List.setIfInBounds_toArray, List.set_cons_zero, List.set_cons_succ]; done) | (simp only [putAll, Act.put, List.setIfInBounds_toArray, List.set_cons_zero, List.set_cons_succ]; rfl)) (hJ0_8_10 ((W_).heap.size, v8_, v10_) _ hN)
        · skip
          rintro ⟨v0_, v8_⟩ W_ hQ_
          have hSep : Aside0 (Sep w W_ ((Row U8 5 (.slice (some ⟨(v0_), 0, none⟩) 1920 1920) (List.replicate 1920 0)) :: (TapeR ((v8_))) :: [])) := ⟨hQ_⟩
          clear hQ_
          have hHeld := trivial
          refine norm_ (a' := ?_) ?_ ?_
          rotate_left
          · simp only [putAll, Act.put, List.setIfInBounds_toArray, List.set_cons_zero, List.set_cons_succ]
            rfl
          refine one_ (i := 10) (N := some 27) #[J,J,J,J,J,J,J,J,J,J,J,Z,Z] rfl rfl (by kernel_rfl) (by decide) (fun K hK => ?_)
          refine goes_ Tryz.func37 (by kernel_rfl) rfl #[.int .i64 (k : Int)] (by rfl) rfl rfl (by simp only [List.map_toArray, List.map_cons, List.map_nil]; rfl) ?_
          with_reducible refine (asksQ (by have := HK.out; omega) _).mono ?_
          rintro e wn_ ⟨vn_, rfl, hS_⟩
          refine ⟨_, rfl, ?_⟩
          have hN := (hSep.out).lift1 hS_
          clear hS_
          refine hK.out _ _ trivial (fun hHeld => ?_)
          clear hK K
          refine norm_ (a' := ?_) ?_ ?_
          rotate_left
          · show Act.put _ (some 27) _ = _
            simp only [aP]
            rfl
          exact norm_ (by first | (simp only [putAll, Act.put, List.setIfInBounds_toArray, List.set_cons_zero, List.set_cons_succ]; done) | (simp only [putAll, Act.put, List.setIfInBounds_toArray, List.set_cons_zero, List.set_cons_succ]; rfl)) (hJ0_8_10 (v0_, v8_, vn_) _ hN.to3)
      rintro ⟨v0_, v8_, v10_⟩ W_ hQ_
      have hSep : Aside0 (Sep w W_ ((Row U8 5 (.slice (some ⟨(v0_), 0, none⟩) 1920 1920) (List.replicate 1920 0)) :: (TapeR ((v8_))) :: (AsksR ((v10_))) :: [])) := ⟨hQ_⟩
      clear hQ_
      have hHeld := trivial
      have BW := Aside0.mk hSep.out
      refine norm_ (a' := ?_) ?_ ?_
      rotate_left
      · simp only [putAll, Act.put, List.setIfInBounds_toArray, List.set_cons_zero, List.set_cons_succ]
        rfl
      refine last_ (i := 11) (N := some 28) #[J,J,J,J,J,J,J,J,J,J,J,J,Z] rfl rfl (by kernel_rfl) (by decide) (fun K hK => ?_)
      refine goes_ Tryz.func11 (by kernel_rfl) rfl #[.slice (some ⟨v0_, 0, none⟩) 1920 1920, .int .i64 (wrap64 (3 + (p9 : Int))), .int .i64 (wrap64 (1 + (p6 : Int))), .bool true, v8_, v10_] (by rfl) rfl rfl (by simp only [List.map_toArray, List.map_cons, List.map_nil]; rfl) ?_
      with_reducible refine (playQ BW.out (Nat.le_refl _) (zeros_bytes _)).mono ?_
      rintro e w5 ⟨rfl, hS5⟩
      refine ⟨_, rfl, ?_⟩
      have B5 := Aside0.mk hS5
      clear hS5
      refine hK.out _ _ ?_
      clear hK K
      refine norm_ (a' := ?_) ?_ ?_
      rotate_left
      · show Act.put _ (some 28) _ = _
        simp only [aP]
        rfl
      refine pu_ 12 29 ?_ #[J,J,J,J,J,J,J,J,J,J,J,J,J] rfl rfl ?_ ?_ ?_ ?_
      rotate_left
      · intro w'
        go_simp
        with_reducible rfl
      rotate_left
      · simp only [aP]
        rfl
      refine done_ (by kernel_rfl) ?_
      go_wp2_with fail
      go_roundg (gk - 1)
      case measure => have := AK.out; have := HK.out; omega
      case rel => exact ⟨k + 1, by first | go_num | (rw [s5]; simp), by have := AK.out; have := HK.out; omega, B5.out⟩
    case neg =>
    obtain rfl : k = 40 := by omega
    clear hkk ck
    go_wp2_with fail
    go_loopg [2] 8 (fun k_ p wr => ∃ (k : Nat), p = .int .i64 (k : Int) ∧ k + k_ = 9 ∧ 1 ≤ k ∧ Sep w wr [])
    case atStart => exact ⟨1, rfl, by decide, by decide, AS.out⟩
    case round =>
      obtain ⟨n, rfl, hnk, hn1, hS⟩ := hrel
      obtain ⟨G1, rfl⟩ : ∃ G, G = gk := ⟨_, rfl⟩
      obtain ⟨w1, rfl⟩ : ∃ x, x = wr := ⟨_, rfl⟩
      have AK1 := Aside0.mk (And.intro hnk hn1)
      have A1 := Aside0.mk hS
      clear hS
      by_cases cn : n < 9
      case pos =>
        have hnl : (n : Int) < 9 := by omega
        have HN := Aside0.mk cn
        clear hnk hn1 cn
        go_wp2_with fail
        go_loopg [3] 6 (fun k_ p wr => ∃ (i : Nat), p = .int .i64 ((i : Int) - 1) ∧ i + k_ = 6 ∧ Sep w wr [])
        case atStart => exact ⟨0, rfl, by decide, A1.out⟩
        case round =>
          obtain ⟨i, rfl, hik, hS⟩ := hrel
          obtain ⟨G2, rfl⟩ : ∃ G, G = gk := ⟨_, rfl⟩
          obtain ⟨w2, rfl⟩ : ∃ x, x = wr := ⟨_, rfl⟩
          have AK2 := Aside0.mk hik
          have A2 := Aside0.mk hS
          clear hS
          by_cases ci : i < 6
          case pos =>
            have hil : (i : Int) - 1 < 5 := by omega
            have HI := Aside0.mk ci
            clear hik ci
            go_wp2_with fail
            go_loopg [4] 5 (fun k_ p wr => ∃ (j : Nat), p = .int .i64 ((j : Int) - 1) ∧ j + k_ = 5 ∧ Sep w wr [])
            case atStart => exact ⟨0, rfl, by decide, A2.out⟩
            case round =>
              obtain ⟨j, rfl, hjk, hS⟩ := hrel
              obtain ⟨w3, rfl⟩ : ∃ x, x = wr := ⟨_, rfl⟩
              have AK3 := Aside0.mk hjk
              have A3 := Aside0.mk hS
              clear hS
              by_cases cj : j < 5
              case pos =>
                have hjl : (j : Int) - 1 < 4 := by omega
                have HJ := Aside0.mk cj
                obtain ⟨N6, hN6⟩ : ∃ x, n * 64 = x := ⟨_, rfl⟩
                have hw6 : wrap64 ((n : Int) * 64) = (N6 : Int) := by rw [IntWalk.wrap64_in _ (by have := HN.out; omega)]; omega
                have HN6 : Aside0 (N6 ≤ 100000) := ⟨by have := HN.out; omega⟩
                have hmk6 : ∀ W : World, (Instr.makeSlice 24 (.int .i64 (N6 : Int)) (.int .i64 (N6 : Int))).run Tryz.prog W = .ok (.slice (some ⟨W.heap.size, 0, none⟩) N6 N6) (W.alloc (.cells (madeCells #[.int .u8 0] N6) 5)) := Disk.make_ (m := N6) HN6.out
                have hj1 : wrap64 ((j : Int) - 1 + 1) = ((j + 1 : Nat) : Int) - 1 := by rw [IntWalk.wrap64_in _ (by omega)]; omega
                have HJ1 := Aside0.mk hj1
                have B1 := Aside0.mk A3.out.drew
                clear hjk cj hN6 hj1
                go_upto_region 15 with fail
                refine start_ (n := 9) (S := fun w' => True) (ds := [7]) #[Z,Z,Z,Z,Z,Z,Z,Z,Z] (by kernel_rfl) rfl rfl trivial (fun hHeld => ?_)
                refine pu_ 0 42 ?_ #[J,Z,Z,Z,Z,Z,Z,Z,Z] rfl rfl ?_ ?_ ?_ ?_
                rotate_left
                · intro w'
                  go_simp
                  with_reducible rfl
                rotate_left
                · simp only [aP]
                  rfl
                refine pu_ 1 43 ?_ #[J,J,Z,Z,Z,Z,Z,Z,Z] rfl rfl ?_ ?_ ?_ ?_
                rotate_left
                · intro w'
                  go_simp
                  with_reducible rfl
                rotate_left
                · simp only [aP]
                  rfl
                refine pu_ 3 45 ?_ #[J,J,Z,J,Z,Z,Z,Z,Z] rfl rfl ?_ ?_ ?_ ?_
                rotate_left
                · intro w'
                  go_simp
                  with_reducible rfl
                rotate_left
                · simp only [aP]
                  rfl
                refine pu_ 4 46 ?_ #[J,J,Z,J,J,Z,Z,Z,Z] rfl rfl ?_ ?_ ?_ ?_
                rotate_left
                · intro w'
                  go_simp
                  with_reducible rfl
                rotate_left
                · simp only [aP]
                  rfl
                refine join_ (σ := Nat × Value × Value) 2 #[J,J,J,J,J,J,J,Z,Z] (fun s_ => [(44, .slice (some ⟨s_.1, 0, none⟩) N6 N6), (47, s_.2.1), (48, s_.2.2)]) (fun s_ w' => Sep w w' ((Row U8 5 (.slice (some ⟨(s_.1), 0, none⟩) N6 N6) (List.replicate N6 0)) :: (TapeR ((s_.2.1))) :: (AsksR ((s_.2.2))) :: [])) ?_ ?_
                rotate_left
                · intro hJ2_5_6
                  refine join_ (σ := Nat × Value) 3 #[J,J,J,J,J,J,Z,Z,Z] (fun s_ => [(44, .slice (some ⟨s_.1, 0, none⟩) N6 N6), (47, s_.2)]) (fun s_ w' => Sep w w' ((Row U8 5 (.slice (some ⟨(s_.1), 0, none⟩) N6 N6) (List.replicate N6 0)) :: (TapeR ((s_.2))) :: [])) ?_ ?_
                  rotate_left
                  · intro hJ2_5
                    refine join_ (σ := Value × Value) 3 #[J,J,Z,J,J,J,J,Z,Z] (fun s_ => [(47, s_.1), (48, s_.2)]) (fun s_ w' => Sep w w' ((TapeR ((s_.1))) :: (AsksR ((s_.2))) :: [])) ?_ ?_
                    rotate_left
                    · intro hJ5_6
                      refine join_ (σ := Nat) 4 #[J,J,J,J,J,Z,Z,Z,Z] (fun s_ => [(44, .slice (some ⟨s_, 0, none⟩) N6 N6)]) (fun s_ w' => Sep w w' ((Row U8 5 (.slice (some ⟨(s_), 0, none⟩) N6 N6) (List.replicate N6 0)) :: [])) ?_ ?_
                      rotate_left
                      · intro hJ2
                        refine join_ (σ := Value) 4 #[J,J,Z,J,J,J,Z,Z,Z] (fun s_ => [(47, s_)]) (fun s_ w' => Sep w w' ((TapeR ((s_))) :: [])) ?_ ?_
                        rotate_left
                        · intro hJ5
                          refine two_ (i := 2) (j := 5) (Ni := some 44) (Nj := some 47) #[J,J,J,J,J,Z,Z,Z,Z] #[J,J,Z,J,J,J,Z,Z,Z] rfl rfl rfl rfl (by kernel_rfl) (by decide) (by decide) (fun K hK => ?_) (fun K hK => ?_)
                          · skip
                            refine value_ (w1 := ?_) (v := ?_) (by rfl) rfl ?_ ?_
                            rotate_left 2
                            · go_simp
                              constructor
                              · rfl
                              · rfl
                            have hN := Disk.madeB N6 (B1.out) HN6.out
                            refine hK.out _ _ trivial (fun hHeld => ?_)
                            clear hK K
                            refine norm_ (a' := ?_) ?_ ?_
                            rotate_left
                            · show Act.put _ (some 44) _ = _
                              simp only [aP]
                              rfl
                            exact norm_ (by first | (simp only [putAll, Act.put, List.setIfInBounds_toArray, List.set_cons_zero, List.set_cons_succ]; done) | (simp only [putAll, Act.put, List.setIfInBounds_toArray, List.set_cons_zero, List.set_cons_succ]; rfl)) (hJ2 (w3.drew).heap.size _ hN)
                          · skip
                            refine goes_ Tryz.func36 (by kernel_rfl) rfl #[.int .i64 3] (by rfl) rfl rfl (by simp only [List.map_toArray, List.map_cons, List.map_nil]; rfl) ?_
                            with_reducible refine (tapeQ3 _).mono ?_
                            rintro e wn_ ⟨vn_, rfl, hS_⟩
                            refine ⟨_, rfl, ?_⟩
                            have hN := (B1.out).lift1 hS_
                            clear hS_
                            refine hK.out _ _ trivial (fun hHeld => ?_)
                            clear hK K
                            refine norm_ (a' := ?_) ?_ ?_
                            rotate_left
                            · show Act.put _ (some 47) _ = _
                              simp only [aP]
                              rfl
                            exact norm_ (by first | (simp only [putAll, Act.put, List.setIfInBounds_toArray, List.set_cons_zero, List.set_cons_succ]; done) | (simp only [putAll, Act.put, List.setIfInBounds_toArray, List.set_cons_zero, List.set_cons_succ]; rfl)) (hJ5 vn_ _ hN)
                        · skip
                          rintro v5_ W_ hQ_
                          have hSep : Aside0 (Sep w W_ ((TapeR ((v5_))) :: [])) := ⟨hQ_⟩
                          clear hQ_
                          have hHeld := trivial
                          refine norm_ (a' := ?_) ?_ ?_
                          rotate_left
                          · simp only [putAll, Act.put, List.setIfInBounds_toArray, List.set_cons_zero, List.set_cons_succ]
                            rfl
                          refine two_ (i := 2) (j := 6) (Ni := some 44) (Nj := some 48) #[J,J,J,J,J,J,Z,Z,Z] #[J,J,Z,J,J,J,J,Z,Z] rfl rfl rfl rfl (by kernel_rfl) (by decide) (by decide) (fun K hK => ?_) (fun K hK => ?_)
                          · skip
                            refine value_ (w1 := ?_) (v := ?_) (by rfl) rfl ?_ ?_
                            rotate_left 2
                            · go_simp
                              constructor
                              · rfl
                              · rfl
                            have hN := Disk.madeB N6 (hSep.out) HN6.out
                            refine hK.out _ _ trivial (fun hHeld => ?_)
                            clear hK K
                            refine norm_ (a' := ?_) ?_ ?_
                            rotate_left
                            · show Act.put _ (some 44) _ = _
                              simp only [aP]
                              rfl
                            exact norm_ (by first | (simp only [putAll, Act.put, List.setIfInBounds_toArray, List.set_cons_zero, List.set_cons_succ]; done) | (simp only [putAll, Act.put, List.setIfInBounds_toArray, List.set_cons_zero, List.set_cons_succ]; rfl)) (hJ2_5 ((W_).heap.size, v5_) _ hN)
                          · skip
                            refine goes_ Tryz.func37 (by kernel_rfl) rfl #[.int .i64 1] (by rfl) rfl rfl (by simp only [List.map_toArray, List.map_cons, List.map_nil]; rfl) ?_
                            with_reducible refine (asksQ1 _).mono ?_
                            rintro e wn_ ⟨vn_, rfl, hS_⟩
                            refine ⟨_, rfl, ?_⟩
                            have hN := (hSep.out).lift1 hS_
                            clear hS_
                            refine hK.out _ _ trivial (fun hHeld => ?_)
                            clear hK K
                            refine norm_ (a' := ?_) ?_ ?_
                            rotate_left
                            · show Act.put _ (some 48) _ = _
                              simp only [aP]
                              rfl
                            exact norm_ (by first | (simp only [putAll, Act.put, List.setIfInBounds_toArray, List.set_cons_zero, List.set_cons_succ]; done) | (simp only [putAll, Act.put, List.setIfInBounds_toArray, List.set_cons_zero, List.set_cons_succ]; rfl)) (hJ5_6 (v5_, vn_) _ hN.at2)
                      · skip
                        rintro v2_ W_ hQ_
                        have hSep : Aside0 (Sep w W_ ((Row U8 5 (.slice (some ⟨(v2_), 0, none⟩) N6 N6) (List.replicate N6 0)) :: [])) := ⟨hQ_⟩
                        clear hQ_
                        have hHeld := trivial
                        refine norm_ (a' := ?_) ?_ ?_
                        rotate_left
                        · simp only [putAll, Act.put, List.setIfInBounds_toArray, List.set_cons_zero, List.set_cons_succ]
                          rfl
                        refine one_ (i := 5) (N := some 47) #[J,J,J,J,J,J,Z,Z,Z] rfl rfl (by kernel_rfl) (by decide) (fun K hK => ?_)
                        refine goes_ Tryz.func36 (by kernel_rfl) rfl #[.int .i64 3] (by rfl) rfl rfl (by simp only [List.map_toArray, List.map_cons, List.map_nil]; rfl) ?_
                        with_reducible refine (tapeQ3 _).mono ?_
                        rintro e wn_ ⟨vn_, rfl, hS_⟩
                        refine ⟨_, rfl, ?_⟩
                        have hN := (hSep.out).lift1 hS_
                        clear hS_
                        refine hK.out _ _ trivial (fun hHeld => ?_)
                        clear hK K
                        refine norm_ (a' := ?_) ?_ ?_
                        rotate_left
                        · show Act.put _ (some 47) _ = _
                          simp only [aP]
                          rfl
                        exact norm_ (by first | (simp only [putAll, Act.put, List.setIfInBounds_toArray, List.set_cons_zero, List.set_cons_succ]; done) | (simp only [putAll, Act.put, List.setIfInBounds_toArray, List.set_cons_zero, List.set_cons_succ]; rfl)) (hJ2_5 (v2_, vn_) _ hN.at2)
                    · skip
                      rintro ⟨v5_, v6_⟩ W_ hQ_
                      have hSep : Aside0 (Sep w W_ ((TapeR ((v5_))) :: (AsksR ((v6_))) :: [])) := ⟨hQ_⟩
                      clear hQ_
                      have hHeld := trivial
                      refine norm_ (a' := ?_) ?_ ?_
                      rotate_left
                      · simp only [putAll, Act.put, List.setIfInBounds_toArray, List.set_cons_zero, List.set_cons_succ]
                        rfl
                      refine one_ (i := 2) (N := some 44) #[J,J,J,J,J,J,J,Z,Z] rfl rfl (by kernel_rfl) (by decide) (fun K hK => ?_)
                      refine value_ (w1 := ?_) (v := ?_) (by rfl) rfl ?_ ?_
                      rotate_left 2
                      · go_simp
                        constructor
                        · rfl
                        · rfl
                      have hN := Disk.madeB N6 (hSep.out) HN6.out
                      refine hK.out _ _ trivial (fun hHeld => ?_)
                      clear hK K
                      refine norm_ (a' := ?_) ?_ ?_
                      rotate_left
                      · show Act.put _ (some 44) _ = _
                        simp only [aP]
                        rfl
                      exact norm_ (by first | (simp only [putAll, Act.put, List.setIfInBounds_toArray, List.set_cons_zero, List.set_cons_succ]; done) | (simp only [putAll, Act.put, List.setIfInBounds_toArray, List.set_cons_zero, List.set_cons_succ]; rfl)) (hJ2_5_6 ((W_).heap.size, v5_, v6_) _ hN)
                  · skip
                    rintro ⟨v2_, v5_⟩ W_ hQ_
                    have hSep : Aside0 (Sep w W_ ((Row U8 5 (.slice (some ⟨(v2_), 0, none⟩) N6 N6) (List.replicate N6 0)) :: (TapeR ((v5_))) :: [])) := ⟨hQ_⟩
                    clear hQ_
                    have hHeld := trivial
                    refine norm_ (a' := ?_) ?_ ?_
                    rotate_left
                    · simp only [putAll, Act.put, List.setIfInBounds_toArray, List.set_cons_zero, List.set_cons_succ]
                      rfl
                    refine one_ (i := 6) (N := some 48) #[J,J,J,J,J,J,J,Z,Z] rfl rfl (by kernel_rfl) (by decide) (fun K hK => ?_)
                    refine goes_ Tryz.func37 (by kernel_rfl) rfl #[.int .i64 1] (by rfl) rfl rfl (by simp only [List.map_toArray, List.map_cons, List.map_nil]; rfl) ?_
                    with_reducible refine (asksQ1 _).mono ?_
                    rintro e wn_ ⟨vn_, rfl, hS_⟩
                    refine ⟨_, rfl, ?_⟩
                    have hN := (hSep.out).lift1 hS_
                    clear hS_
                    refine hK.out _ _ trivial (fun hHeld => ?_)
                    clear hK K
                    refine norm_ (a' := ?_) ?_ ?_
                    rotate_left
                    · show Act.put _ (some 48) _ = _
                      simp only [aP]
                      rfl
                    exact norm_ (by first | (simp only [putAll, Act.put, List.setIfInBounds_toArray, List.set_cons_zero, List.set_cons_succ]; done) | (simp only [putAll, Act.put, List.setIfInBounds_toArray, List.set_cons_zero, List.set_cons_succ]; rfl)) (hJ2_5_6 (v2_, v5_, vn_) _ hN.to3)
                rintro ⟨v2_, v5_, v6_⟩ W_ hQ_
                have hSep : Aside0 (Sep w W_ ((Row U8 5 (.slice (some ⟨(v2_), 0, none⟩) N6 N6) (List.replicate N6 0)) :: (TapeR ((v5_))) :: (AsksR ((v6_))) :: [])) := ⟨hQ_⟩
                clear hQ_
                have hHeld := trivial
                have BW := Aside0.mk hSep.out
                refine norm_ (a' := ?_) ?_ ?_
                rotate_left
                · simp only [putAll, Act.put, List.setIfInBounds_toArray, List.set_cons_zero, List.set_cons_succ]
                  rfl
                refine last_ (i := 7) (N := some 49) #[J,J,J,J,J,J,J,J,Z] rfl rfl (by kernel_rfl) (by decide) (fun K hK => ?_)
                refine goes_ Tryz.func11 (by kernel_rfl) rfl #[.slice (some ⟨v2_, 0, none⟩) N6 N6, .int .i64 ((i : Int) - 1), .int .i64 ((j : Int) - 1), .bool true, v5_, v6_] (by rfl) rfl rfl (by simp only [List.map_toArray, List.map_cons, List.map_nil]; rfl) ?_
                with_reducible refine (playQ BW.out (Nat.le_refl _) (zeros_bytes _)).mono ?_
                rintro e w5 ⟨rfl, hS5⟩
                refine ⟨_, rfl, ?_⟩
                have B5 := Aside0.mk hS5
                clear hS5
                refine hK.out _ _ ?_
                clear hK K
                refine norm_ (a' := ?_) ?_ ?_
                rotate_left
                · show Act.put _ (some 49) _ = _
                  simp only [aP]
                  rfl
                refine pu_ 8 50 ?_ #[J,J,J,J,J,J,J,J,J] rfl rfl ?_ ?_ ?_ ?_
                rotate_left
                · intro w'
                  go_simp
                  with_reducible rfl
                rotate_left
                · simp only [aP]
                  rfl
                refine done_ (by kernel_rfl) ?_
                have hj1 := HJ1.out
                clear hw6 hmk6
                go_wp2_with fail
                go_roundg (gk - 1)
                case measure => have := AK3.out; have := HJ.out; omega
                case rel => exact ⟨j + 1, by first | rfl | exact congrArg (Value.int .i64) HJ1.out | simp, by have := AK3.out; have := HJ.out; omega, B5.out⟩
              case neg =>
              obtain rfl : j = 5 := by omega
              have hjl : ¬ ((5 : Nat) : Int) - 1 < 4 := by omega
              have HI1 : Aside0 (wrap64 ((i : Int) - 1 + 1) = ((i + 1 : Nat) : Int) - 1) := ⟨by rw [IntWalk.wrap64_in _ (by have := HI.out; omega)]; omega⟩
              have hi1 := HI1.out
              clear hjk cj
              go_wp2_with fail
              go_roundg (G2 - 1)
              case measure => have := AK2.out; have := HI.out; omega
              case rel => exact ⟨i + 1, by first | rfl | exact congrArg (Value.int .i64) HI1.out | simp, by have := AK2.out; have := HI.out; omega, A3.out⟩
          case neg =>
          obtain rfl : i = 6 := by omega
          have hil : ¬ ((6 : Nat) : Int) - 1 < 5 := by omega
          have hn1 : wrap64 ((n : Int) + 1) = (n : Int) + 1 := IntWalk.wrap64_in _ (by have := HN.out; omega)
          clear hik ci
          go_wp2_with fail
          go_roundg (G1 - 1)
          case measure => have := AK1.out; have := HN.out; omega
          case rel => exact ⟨n + 1, by go_num, by have := AK1.out; have := HN.out; omega, by have := AK1.out; omega, A2.out⟩
      case neg =>
      obtain rfl : n = 9 := by omega
      clear hnk hn1 cn
      have B1 := Aside0.mk (Disk.madeB 1280 A1.out (by omega))
      go_wp2_with fail
      refine (pair18_ (n := 20) B1.out.rowC' (Nat.le_refl _) rfl (by decide) (by decide)).mono ?_
      rintro e w2 ⟨g, gr, rfl, hS2⟩
      have C2 : Aside0 (∃ (las : List Int) (wt : Wt) (d : Nat), Dk 20 las wt ∧ d ≤ 1000 * 0 ∧ Sep w w2 [Dsk g las wt, RT gr 20 las wt d]) := ⟨_, _, 0, ⟨List.length_replicate, Ref.none_len, zeros_bytes _, Store.no_bytes⟩, by decide, Sep.weakR (L := [_, _]) (B1.out.lift hS2)⟩
      clear hS2 B1
      go_wp2_with fail
      go_loopg [7] 3 (fun k_ p wr => ∃ (r : Nat), p = .int .i64 (r : Int) ∧ r + k_ = 3 ∧ ∃ (las : List Int) (wt : Wt) (d : Nat), Dk 20 las wt ∧ d ≤ 1000 * r ∧ Sep w wr [Dsk g las wt, RT gr 20 las wt d])
      case atStart => exact ⟨0, rfl, by decide, C2.out⟩
      case round =>
        obtain ⟨r, rfl, hrk, las, wt, d, hdk, hd, hS⟩ := hrel
        obtain ⟨w3, rfl⟩ : ∃ x, x = wr := ⟨_, rfl⟩
        have AK := Aside0.mk hrk
        have HD := Aside0.mk hdk
        have HDD := Aside0.mk hd
        have B3 := Aside0.mk hS
        clear hdk hd hS C2
        by_cases cr : r < 3
        case pos =>
          have HR := Aside0.mk cr
          have hrl : (r : Int) < 3 := by omega
          have HA : Aside0 (Any 20 (fmtS 20 las wt 9 4).1 (fmtS 20 las wt 9 4).2 9 4 1) := ⟨any_fmt HD.out⟩
          clear hrk cr
          go_wp2_with fail
          refine (sformat_ B3.out HD.out (by decide) 9 4).mono ?_
          rintro e w4 ⟨rfl, hS4⟩
          rw [fmtE_94]
          obtain ⟨S2, hS2⟩ : ∃ S, fmtS 20 las wt 9 4 = S := ⟨_, rfl⟩
          rw [hS2] at hS4 HA
          have HSE := Aside0.mk hS2
          have B4 := Aside0.mk hS4.at2
          clear hS2 hS4
          go_wp2_with fail
          refine (rformat_ B4.out HD.out (by decide) (by have := HDD.out; have := HR.out; omega) 9 4).mono ?_
          rintro e w5 ⟨rfl, d5, hd5, hS5⟩
          rw [HSE.out] at hS5
          rw [fmtE_94]
          have B5 := Aside0.mk hS5.at2
          have HD5 : Aside0 (d5 ≤ 1000 * r + 200 ∧ d5 ≤ 10000) := ⟨by have := HDD.out; have := HR.out; omega⟩
          clear hS5 hd5
          go_wp2_with fail
          refine (sopen_ok B5.out HA.out (by decide)).mono ?_
          rintro e w6 ⟨gs, m, rfl, hS6⟩
          have B6 := Aside0.mk (Sep.pull [_, _] hS6)
          clear hS6
          go_wp2_with fail
          refine (ropen_all B6.out HA.out (by decide) (by have := HD5.out; omega)).mono ?_
          rintro e w7 ⟨gx, rfl, d7, hd7, hS7⟩
          have HST := Aside0.mk (HA.out.opened (by decide))
          have HD7 : Aside0 (d7 ≤ 1000 * r + 300 ∧ d7 ≤ 20000) := ⟨by have := HD5.out; omega⟩
          obtain ⟨ps, hps⟩ : ∃ p, shownG 20 9 4 1 S2.1 S2.2 = p := ⟨_, rfl⟩
          obtain ⟨L7, hL7⟩ : ∃ p, openG 20 9 4 1 S2.1 S2.2 = p := ⟨_, rfl⟩
          obtain ⟨nm7, hnm7⟩ : ∃ p, List.replicate 4 false = p := ⟨_, rfl⟩
          obtain ⟨ep, hep⟩ : ∃ p : Int, 1 + 1 = p := ⟨_, rfl⟩
          rw [hps, hL7, hnm7, hep] at HST hS7
          have B7 : Aside0 (Sep w w7 [Dsk g L7 (fun _ => none), RT gr 20 L7 (fun _ => none) d7, StB gs g m ((9 : Nat) : Int) ((4 : Nat) : Int) ep ps [] 0 0, RStB gx gr ((9 : Nat) : Int) ((4 : Nat) : Int) ep ps nm7 0 0]) := ⟨Sep.push [_, _] (Sep.pull [_, _, _] (Sep.pull [_, _, _] (Sep.pull [_] hS7)))⟩
          clear hS7 hd7 hps hL7 hnm7 hep B6 B5 B4 HA HSE
          go_wp2_with fail
          refine (same18_ B7.out HST.out.dk.len (by rw [HST.out.pl]; decide) (fun p hp => by have := (HST.out.p64 p hp).1; omega)).mono ?_
          rintro e w8 ⟨rfl, hS8⟩
          have B8 := Aside0.mk hS8
          clear hS8 B7
          go_wp2_with fail
          have HBX : Aside0 (0 ≤ (r : Int) + 1 ∧ (r : Int) + 1 ≤ 255) := ⟨by have := HR.out; omega⟩
          obtain ⟨bx, hbx⟩ : ∃ b, (r : Int) + 1 = b := ⟨_, rfl⟩
          rw [hbx] at HBX ⊢
          clear hbx
          refine (Store.sector_ bx _).mono ?_
          rintro e w9 ⟨v9, rfl, hS9⟩
          obtain ⟨A9, c9, rfl⟩ := hS9.rowN (n := 64) rfl
          have B9 := Aside0.mk (chFx (pg := (r : Int)) (B8.out.lift1 hS9))
          clear hS9
          go_wp2_with fail
          obtain ⟨er, her⟩ : ∃ e, cmE ((9 : Nat) : Int) ((4 : Nat) : Int) 0 [((r : Int), sectF bx)] = e := ⟨_, rfl⟩
          obtain ⟨cx, hcx⟩ : ∃ e, cmR 20 ((9 : Nat) : Int) ((4 : Nat) : Int) ep L7 ⟨ps, [], nm7, 0, 0, fun _ => none⟩ [((r : Int), sectF bx)] = e := ⟨_, rfl⟩
          have HCM := Aside0.mk (St.cm (c := ⟨ps, [], nm7, 0, 0, fun _ => none⟩) (l := [((r : Int), sectF bx)]) HST.out (fun x hx => by rw [List.mem_singleton.1 hx]; exact sectF_bytes HBX.out))
          rw [hcx] at HCM
          have HER := Aside0.mk (And.intro her hcx)
          clear her hcx
          refine (scommit_ (c := ⟨ps, [], nm7, 0, 0, fun _ => none⟩) (l := [((r : Int), sectF bx)]) (Sep.pull [_, _, _] (Sep.pull [_] B9.out)) HST.out (Nat.zero_le _) (fun W' hW => hW.fx)).mono ?_
          rintro e w10 ⟨rfl, hS10⟩
          rw [HER.out.2] at hS10
          rw [HER.out.1]
          have B10 := Aside0.mk (Sep.pull [_, _, _, _] (Sep.pull [_, _, _] hS10))
          clear hS10 B9 B8
          go_wp2_with fail
          refine (rcommit_ (c := ⟨ps, [], nm7, 0, 0, fun _ => none⟩) (l := [((r : Int), sectF bx)]) B10.out HST.out (Nat.zero_le _) (by have := HD7.out; omega) (fun W' hW => hW.at3.fx)).mono ?_
          rintro e w11 ⟨rfl, d11, hd11, hS11⟩
          rw [HER.out.2] at hS11
          rw [HER.out.1]
          have HD11 : Aside0 (d11 ≤ 1000 * r + 400 ∧ d11 ≤ 30000) := ⟨by have := HD7.out; omega⟩
          have B11 := Aside0.mk (Sep.pull [_, _, _] (Sep.pull [_, _] (Sep.pull [_, _] hS11)))
          clear hS11 hd11 B10
          go_wp2_with fail
          refine (same18_ B11.out HCM.out.1.dk.len (by rw [HCM.out.1.pl]; decide) (fun p hp => by have := (HCM.out.1.p64 p hp).1; omega)).mono ?_
          rintro e w12 ⟨rfl, hS12⟩
          have B12 := Aside0.mk (Sep.pull [_, _] hS12)
          clear hS12 B11
          go_wp2_with fail
          refine (sync_ B12.out).mono ?_
          rintro e w13 ⟨rfl, hS13⟩
          have B13 := Aside0.mk (Sep.pull [_, _] hS13)
          clear hS13 B12
          go_wp2_with fail
          refine (Ref.rflush_ B13.out HCM.out.1.dk.len HCM.out.1.dk.wl (by have := HD11.out; omega)).mono ?_
          rintro e w14 ⟨rfl, hS14⟩
          have B14 := Aside0.mk (Sep.weakR (L := [_, _]) (Sep.pull [_, _] hS14))
          clear hS14 B13
          have hr40 : wrap64 ((r : Int) + 1) = (r : Int) + 1 := IntWalk.wrap64_in _ (by have := HR.out; omega)
          go_wp2_with fail
          go_roundg (gk - 1)
          case measure => have := AK.out; have := HR.out; omega
          case rel => exact ⟨r + 1, by first | go_num | (rw [hr40]; simp), by have := AK.out; have := HR.out; omega, flushed L7 cx.wt, _, d11 + 1, HCM.out.1.flush.dk, by have := HD11.out; omega, B14.out⟩
        case neg =>
        obtain rfl : r = 3 := by omega
        clear hrk cr
        have E1 : Aside0 (m32 1 = 1) := ⟨m32_id (x := 1) (by decide) (by decide)⟩
        go_wp2_with fail
        refine (rroot_ 1 1 4294967295 (by decide) _).mono ?_
        rintro e w4 ⟨v4, rfl, hS4⟩
        obtain ⟨A4, c4, rfl⟩ := hS4.rowN (n := 64) (rootF_len _ _ _)
        have B4 := Aside0.mk hS4
        have hrc := hS4.rowC.2.1
        have HRC := Aside0.mk hrc
        have HB4 := Aside0.mk (B3.out.below hS4.toBelow)
        clear hS4 hrc
        go_wp2_with fail
        refine (play18_ (im := rootF (m32 1) (m32 1) 4294967295) (tp := []) (asks := []) B4.out.rowC' HRC.out (rootF_bytes _ _ _) (Kd.C_nil I64 _) (Kd.C_nil KA _) (fun x hx => (by cases hx))).mono ?_
        rintro e w5 ⟨rfl, hb5⟩
        have HB5 := Aside0.mk (HB4.out.below hb5)
        clear hb5
        go_wp2_with fail
        refine (Store.known_ _).mono ?_
        rintro e w6 ⟨rfl, hb6⟩
        have HB6 := Aside0.mk (HB5.out.below hb6)
        clear hb6
        go_wp2_with fail
        go_ret
        exact ⟨by first | rfl | (simp; done), HB6.out.toBelow⟩
end Go.Proofs.YtjngnigelkgekaaGreat.RStore
namespace Go.Proofs.YtjngnigelkgekaaGreatW.PrintWords
end Go.Proofs.YtjngnigelkgekaaGreatW.PrintWords
