/- StKeeps, Open, WSized: what StoreKeeps needs. -/
import Derived.Test.YtjngnigelkgekaaGreatTstoreKeeps21
import Derived.Test.YtjngnigelkgekaaGreatProg
import Derived.WalkKit
import Derived.ProofKit
import Derived.OpenShut
import Derived.ShutString
import Derived.ChangeOld
import Derived.Below
import Derived.SizedLaws
import Derived.ChangeSlices
namespace Go.Proofs.YtjngnigelkgekaaGreat.Keeps
set_option linter.unusedVariables false
set_option linter.unusedSimpArgs false
open Go.RowKit Go.Proofs.YtjngnigelkgekaaGreatW.PrintWords Go.Proofs.YtjngnigelkgekaaGreatW.PrintLast Go.Proofs.YtjngnigelkgekaaGreatW.PrintMore Go.Proofs.YtjngnigelkgekaaGreat.Kit Go.Proofs.YtjngnigelkgekaaGreat.Plain Go.Proofs.YtjngnigelkgekaaGreat.Disk Go.Proofs.YtjngnigelkgekaaGreat.Root
open Go.Proofs.YtjngnigelkgekaaGreat.Home (K2 RT)
open Go.Proofs.YtjngnigelkgekaaGreat.Delta (Chg KC deltaF rightF okF)
open Go.Proofs.YtjngnigelkgekaaGreat.Redo (appR sizeF TpX tpx_shut changesX_ nextX_ delta_good logF)
open Go.Proofs.YtjngnigelkgekaaGreat.Tape (good)
open Go.Proofs.YtjngnigelkgekaaGreat.Frame (longs longs_app frameF scanR)
open Go.Proofs.YtjngnigelkgekaaGreat.Store hiding join_
abbrev KStr : Kd ByteArray := Kd.scalar Value.string (fun _ => rfl)
theorem infoStr : (Tryz.prog.info? 9).map (fun i => (i.zero, i.size, i.bytes)) = some (some (.string ⟨#[]⟩), 1, 16) := by kernel_rfl
abbrev zero40 : List Int := List.replicate (40 * 64) 0
theorem k_com : Com 40 24 6 1 (List.replicate 6 zz64) [] (fmtL 40 zero40 noW 24 6) :=
  Com.start List.length_replicate (zeros_bytes _) Ref.none_len no_bytes (by decide)
theorem com_bounds {n a b : Nat} {E : Int} {p0 : List (List Int)} {ls : List (List Chg)} {G : List Int} (h : Com n a b E p0 ls G) : (pgAll p0 ls).length = b ∧ ∀ p ∈ pgAll p0 ls, p.length = 64 := by
  have hs := h.lay.shown
  rw [h.shown] at hs
  exact ⟨hs.1, fun p hp => (hs.2 p hp).1⟩
theorem good6 {l : List Chg} (h : good 6 l) : rightF l 6 = true := by
  unfold rightF
  rw [Bool.and_eq_true]
  exact ⟨by decide, h.1⟩
def stsF (p0 : List (List Int)) (ls : List (List Chg)) : List ByteArray := (List.range (ls.length + 1)).map (fun t => joinF (pgAll p0 (ls.take t)))
theorem stsF_len (p0 : List (List Int)) (ls : List (List Chg)) : (stsF p0 ls).length = ls.length + 1 := by unfold stsF; rw [List.length_map, List.length_range]
theorem stsF_at (p0 : List (List Int)) (ls : List (List Chg)) {t : Nat} (h : t ≤ ls.length) : (stsF p0 ls).getD t ⟨#[]⟩ = joinF (pgAll p0 (ls.take t)) := by
  unfold stsF
  rw [List.getD_eq_getElem?_getD, List.getElem?_map, List.getElem?_range (by omega)]
  rfl
theorem stsF_snoc (p0 : List (List Int)) (ls : List (List Chg)) (l : List Chg) : stsF p0 (ls ++ [l]) = stsF p0 ls ++ [joinF (pgAll p0 (ls ++ [l]))] := by
  unfold stsF
  rw [List.length_append, List.length_singleton, List.range_succ, List.map_append]
  congr 1
  · refine List.map_congr_left (fun t ht => ?_)
    have := List.mem_range.1 ht
    rw [List.take_append_of_le_length (by omega)]
  · rw [List.map_cons, List.map_nil, List.take_of_length_le (by simp)]
structure KInv (p0 : List (List Int)) (k i lim : Nat) (ls : List (List Chg)) (las : List Int) (wt : Wt) (named : List Int) (used : Nat) : Prop where
  num : ls.length = i
  cm : Com 40 24 6 2 p0 ls (flushed las wt)
  cl : ∃ j, j ≤ i ∧ (k < lim → j = k) ∧ Com 40 24 6 2 p0 (ls.take j) las
  wl : ∀ i b, wt i = some b → b.length = 64
  off : Off 24 wt
  us : longs (ls.map deltaF) = used
  nl : named.length ≤ 6 * i
theorem KInv.len {p0 : List (List Int)} {k i lim used : Nat} {ls : List (List Chg)} {las : List Int} {wt : Wt} {named : List Int} (h : KInv p0 k i lim ls las wt named used) : las.length = 64 * 40 := by
  obtain ⟨j, -, -, hc⟩ := h.cl
  exact hc.lay.len
theorem KInv.sync {p0 : List (List Int)} {k i used : Nat} {ls : List (List Chg)} {las : List Int} {wt : Wt} {named : List Int} (h : KInv p0 k i i ls las wt named used) (hk : i = k) : KInv p0 k i (i + 1) ls (flushed las wt) noW named used := by
  refine ⟨h.num, ?_, ⟨i, Nat.le_refl _, fun _ => hk, ?_⟩, Ref.none_len, off_none _, h.us, h.nl⟩
  · rw [flushed_none h.cm.lay.len]; exact h.cm
  · rw [List.take_of_length_le (by rw [h.num]; exact Nat.le_refl _)]; exact h.cm
theorem KInv.nosync {p0 : List (List Int)} {k i used : Nat} {ls : List (List Chg)} {las : List Int} {wt : Wt} {named : List Int} (h : KInv p0 k i i ls las wt named used) (hk : i ≠ k) : KInv p0 k i (i + 1) ls las wt named used := by
  obtain ⟨j, h1, h2, h3⟩ := h.cl
  exact ⟨h.num, h.cm, ⟨j, h1, fun h4 => h2 (by omega), h3⟩, h.wl, h.off, h.us, h.nl⟩
theorem KInv.us_le {p0 : List (List Int)} {k i lim used : Nat} {ls : List (List Chg)} {las : List Int} {wt : Wt} {named : List Int} (h : KInv p0 k i lim ls las wt named used) : (used : Int) ≤ sizeF 24 := by
  have h1 := h.cm.fit
  rw [h.us] at h1
  show _ ≤ (24 * 64 : Int)
  omega
theorem KInv.commit {p0 : List (List Int)} {k i used n2 : Nat} {ls : List (List Chg)} {las : List Int} {wt : Wt} {named : List Int} (h : KInv p0 k i (i + 1) ls las wt named used) {l : List Chg} (hg : good 6 l) (hn : l.length = n2) (hf : fitsF 24 used n2 = true) :
    KInv p0 k (i + 1) (i + 1) (ls ++ [l]) las (appR 40 las wt 24 6 2 (used : Int) (frameF 2 (i : Int) (deltaF l))) (insAll named l) (used + (18 + 66 * n2)) := by
  have hfi := (fits_in hf).2
  have hs : sizeF 24 = 1536 := by decide
  rw [hs] at hfi
  obtain ⟨j, h1, h2, h3⟩ := h.cl
  have hr := good6 hg
  refine ⟨by rw [List.length_append, h.num]; rfl, h.cm.commit h.len h.wl hr (delta_good hg).1 h.us h.num (by rw [hn]; omega), ⟨j, by omega, h2, ?_⟩, appR_len h.len h.wl, Off.app (b := 6) h.off, ?_, ?_⟩
  · rw [List.take_append_of_le_length (by rw [h.num]; exact h1)]; exact h3
  · rw [List.map_append, longs_app, h.us]
    simp only [List.map_cons, List.map_nil, longs]
    rw [delta_len (b := 6) hr, hn]; omega
  · have h4 := insAll_len l named
    have h5 := h.nl
    have h6 := hg.2.2
    omega
set_option maxHeartbeats 3200000 in
set_option maxRecDepth 100000 in
theorem storeKeeps_ {A0 A1 : Option Addr} {n0 c0 n1 c1 : Nat} {tape cuts : List Int} {sync : Int} {w : World} (ht : I64.C w A0 n0 tape) (hcu : I64.C w A1 n1 cuts) :
    Calls Tryz.prog 8 #[.slice A0 n0 c0, .slice A1 n1 c1, .int .i64 sync] w fun e w' => e = .returned (.bool true) ∧ Below w.heap.size w w' := by
  have HT := Aside0.mk ht
  have HCU := Aside0.mk hcu
  clear ht hcu
  go_enter Tryz.func8, Tryz.ntmps8
  go_wp2_with fail
  refine (new_ok (n := 40) (by decide) (by decide)).mono ?_
  rintro e w1 ⟨g, rfl, hS1⟩
  have B1 := Aside0.mk hS1
  clear hS1
  go_wp2_with fail
  refine (format_ok (n := 40) B1.out List.length_replicate (by decide) Ref.none_len 24 6 (by decide)).mono ?_
  rintro e w3 ⟨rfl, hS3⟩
  have B3 := Aside0.mk hS3
  clear hS3 B1
  go_wp2_with fail
  refine (lay_open B3.out k_com.lay (by decide) (by decide)).mono ?_
  rintro e w4 ⟨gs, m, rfl, hS4⟩
  have HO' := k_com.opened (by decide)
  rw [k_com.shown] at hS4
  obtain ⟨L, hL⟩ : ∃ L, openL 40 24 6 1 (fmtL 40 zero40 noW 24 6) = L := ⟨_, rfl⟩
  rw [hL] at HO' hS4
  obtain ⟨p0, hp0⟩ : ∃ p, List.replicate 6 zz64 = p := ⟨_, rfl⟩
  rw [hp0] at HO' hS4
  have HC0 : Aside0 (Com 40 24 6 2 p0 [] L) := ⟨Old.com HO'⟩
  have HP0 : Aside0 (p0.length = 6 ∧ ∀ p ∈ p0, p.length = 64) := ⟨com_bounds HC0.out⟩
  obtain ⟨gt, hgt⟩ : ∃ q, w4.heap.size = q := ⟨_, rfl⟩
  have B4' := tpx_shut (Int.le_refl 0) (hS4.newBlk 56 #[.slice A0 n0 c0, .int .i64 0])
  rw [hgt] at B4'
  have B4 : Aside0 (Sep w (w4.alloc (.cells #[.slice A0 n0 c0, .int .i64 0] 56)) (TpX gt A0 n0 c0 :: StB gs g m 24 6 2 p0 [] 0 0 :: Dsk g L noW :: [])) := ⟨B4'⟩
  clear hS4 hL HO' B3 hp0 B4'
  go_wp2_with fail
  clear hgt
  refine (nextX_ HT.out B4.out 6).mono ?_
  rintro e w5 ⟨r, rfl, ho5, hS5⟩
  have hr0 := ho5.1
  have hr1 := ho5.2.1 (by decide)
  obtain ⟨n, hn⟩ : ∃ n : Nat, 1 + r = (n : Int) := ⟨(1 + r).toNat, by omega⟩
  have HN : Aside0 (1 ≤ n ∧ n ≤ 6) := ⟨by omega⟩
  have hnw : wrap64 (1 + r) = (n : Int) := by rw [IntWalk.wrap64_in _ (by omega)]; exact hn
  have B5 := Aside0.mk hS5
  clear hS5 ho5 hr0 hr1 hn
  go_wp2_with fail
  have hk0 := Book.withinF_in (n := sync) (lo := 0) (hi := (n : Int)) (by omega)
  refine (Book.within_ sync 0 (n : Int) _ (by decide) (by omega) (by have := HN.out; omega)).mono ?_
  rintro e w6 ⟨rfl, rfl⟩
  obtain ⟨k, hk⟩ := Int.eq_ofNat_of_zero_le hk0.1
  have HK : Aside0 (k ≤ n) := ⟨by omega⟩
  rw [hk, hnw]
  clear hk0 hk hnw
  obtain ⟨js, hjs⟩ : ∃ s, joinF p0 = s := ⟨_, rfl⟩
  have HJS := Aside0.mk hjs
  clear hjs
  go_wp2_with fail
  refine (all_ B5.out.at2 (by rw [HP0.out.1]; decide) (fun p hp => by rw [HP0.out.2 p hp]; decide)).mono ?_
  rintro e w7 ⟨v7, rfl, hS7⟩
  obtain ⟨A7, c7, rfl⟩ := Sep.rowVN hS7 HP0.out.1
  have B7 := Aside0.mk hS7
  clear hS7
  go_wp2_with fail
  refine (Store.join_ (l := p0) (by have h := (Sep.rowVC rfl B7.out).2.2; exact h) (by decide) (fun p hp => by rw [HP0.out.2 p hp]; decide)).mono ?_
  rintro e w8 ⟨rfl, hw8⟩
  rw [HJS.out]
  have HST : Aside0 ([js] = stsF p0 []) := ⟨by rw [← HJS.out]; rfl⟩
  have B7t := Aside0.mk B7.out.tail
  rw [hw8] at B7t
  have B8 : Aside0 (Sep w (w8.alloc (.cells #[.string js] 9)) (Row KStr 9 (.slice (some ⟨w8.heap.size, 0, none⟩) 1 1) (stsF p0 []) :: RowV KP 24 (.slice none 0 0) (([] : List (List Chg)).map deltaF) :: TpX gt A0 n0 c0 :: StB gs g m 24 6 2 p0 [] 0 0 :: Dsk g L noW :: [])) := ⟨by
    rw [← HST.out]
    exact (((B7t.out.litRow (enc := Value.string) (h1 := fun _ => rfl) (e := 9) [js] (by simp)).rowV_nil KP 24).at2).at4.to3⟩
  clear hw8
  have HI0 : Aside0 (KInv p0 k 0 0 [] L noW [] 0) := ⟨⟨rfl, by rw [flushed_none HC0.out.lay.len]; exact HC0.out, ⟨0, Nat.le_refl _, fun h => by omega, HC0.out⟩, Ref.none_len, off_none _, rfl, Nat.zero_le _⟩⟩
  obtain ⟨gS, hgS⟩ : ∃ x, w8.heap.size = x := ⟨_, rfl⟩
  rw [hgS] at B8
  go_wp2_with fail
  clear hgS
  go_loopg [13, 14, 15] n (fun k_ vs vw p wr => ∃ (i : Nat) (ls : List (List Chg)) (las : List Int) (wt : Wt) (named : List Int) (used : Nat), p = .int .i64 (i : Int) ∧ i + k_ = n ∧ KInv p0 k i i ls las wt named used ∧ Sep w wr [Row KStr 9 vs (stsF p0 ls), RowV KP 24 vw (ls.map deltaF), TpX gt A0 n0 c0, StB gs g m 24 6 2 (pgAll p0 ls) named used i, Dsk g las wt])
  case atStart => exact ⟨0, [], L, noW, [], 0, rfl, by omega, HI0.out, B8.out⟩
  case round =>
    obtain ⟨i, ls, las, wt, named, used, rfl, hik, hI, hS⟩ := hrel
    obtain ⟨w5, rfl⟩ : ∃ x, x = wr := ⟨_, rfl⟩
    have AK := Aside0.mk hik
    have AI := Aside0.mk hI
    obtain ⟨AS1, cS1, rfl⟩ := hS.rowN (n := i + 1) (by rw [stsF_len, hI.num])
    obtain ⟨AW1, cW1, rfl⟩ := Sep.rowVN hS.at2 (n := i) (by rw [List.length_map, hI.num])
    have AS := Aside0.mk hS
    clear hS hI B8 B7t HI0 B4
    by_cases ci : i < n
    case neg =>
      obtain rfl : i = n := by omega
      have hil : ¬ (i : Int) < (i : Int) := by omega
      clear hik ci
      go_upto_if 88 with fail
      go_cut [14] from 53 (fun p wx => ∃ (las : List Int) (wt : Wt), p = .slice AW1 i cW1 ∧ (Com 40 24 6 2 p0 (ls.take k) las ∧ Com 40 24 6 2 p0 ls (flushed las wt) ∧ (∀ i b, wt i = some b → b.length = 64) ∧ Off 24 wt) ∧ Sep w wx [Row KStr 9 (.slice AS1 (i + 1) cS1) (stsF p0 ls), RowV KP 24 (.slice AW1 i cW1) (ls.map deltaF), TpX gt A0 n0 c0, StB gs g m 24 6 2 (pgAll p0 ls) named used i, Dsk g las wt])
      case first =>
        by_cases hk : k = i
        case pos =>
          have hkb : ((k : Int) == (i : Int)) = true := by rw [beq_iff_eq]; omega
          have HKK := Aside0.mk hk
          clear hk
          go_wp2_with fail
          refine (sync_ AS.out.at5.at5).mono ?_
          rintro e w6 ⟨rfl, hS6⟩
          have B6 := Aside0.mk hS6
          clear hS6
          go_wp2_with fail
          go_meet
          case rel =>
            have h1 := AI.out.cm
            refine ⟨flushed las wt, noW, rfl, ⟨?_, ?_, Ref.none_len, off_none _⟩, B6.out.to5.to5⟩
            · rw [List.take_of_length_le (by rw [AI.out.num, HKK.out]; exact Nat.le_refl _)]; exact h1
            · rw [flushed_none h1.lay.len]; exact h1
        case neg =>
          have hkb : ((k : Int) == (i : Int)) = false := by rw [beq_eq_false_iff_ne]; omega
          have HKK := Aside0.mk hk
          clear hk
          go_wp2_with fail
          go_meet
          case rel =>
            obtain ⟨j, -, h2, h3⟩ := AI.out.cl
            have hj := h2 (by have := HK.out; have := HKK.out; omega)
            rw [hj] at h3
            exact ⟨las, wt, rfl, ⟨h3, AI.out.cm, AI.out.wl, AI.out.off⟩, AS.out⟩
      case rest =>
      obtain ⟨las2, wt2, rfl, hC2, hS2⟩ := hcut
      have HC2 := Aside0.mk hC2
      have AS2 := Aside0.mk hS2.at5
      have HLN := Aside0.mk AI.out.num
      clear hS2 hC2 AI AS
      go_wp2_with fail
      refine (crash_ (cuts := cuts) AS2.out (fun W' hW => Kd.C_below HCU.out hW.toBelow)).mono ?_
      rintro e w6 ⟨rfl, hS6⟩
      obtain ⟨C, hC⟩ : ∃ C, crashed las2 wt2 cuts = C := ⟨_, rfl⟩
      rw [hC] at hS6
      have HCE := Aside0.mk hC
      have HLY : Aside0 (Lay 40 24 6 2 C) := ⟨by rw [← HCE.out]; exact (crash_keeps HC2.out.1 HC2.out.2.1 HC2.out.2.2.1 HC2.out.2.2.2 (by rw [HLN.out]; exact HK.out)).1⟩
      have B6 := Aside0.mk hS6
      clear hS6 hC
      generalize ((keysOf (las2.length / 64) wt2).length : Int) = q12
      go_wp2_with fail
      refine (image_ B6.out).mono ?_
      rintro e w7 ⟨v7, rfl, hS7⟩
      obtain ⟨A7, c7, rfl⟩ := hS7.rowN (n := 64 * 40) HLY.out.len
      have B7 := Aside0.mk hS7
      have HWC := Aside0.mk (Sep.rowVC rfl hS7.at4).2.2
      clear hS7
      go_wp2_with fail
      refine (torn_ (n := 40) (a := 24) (b := 6) (ds := ls.map deltaF) B7.out.rowC' HLY.out (by decide) (by decide) HWC.out (fun x hx => by
        obtain ⟨l, hl, rfl⟩ := List.mem_map.1 hx
        exact (HC2.out.2.1.rgt l hl).2)).mono ?_
      rintro e w8 ⟨t, rfl, hb8, ht⟩
      have B8 := Aside0.mk (B7.out.below hb8).tail
      have HTT := Aside0.mk ht
      clear hb8 ht
      cases t with
      | true =>
        clear HTT
        go_wp2_with fail
        refine (Store.known_ _).mono ?_
        rintro e w9 ⟨rfl, hb9⟩
        have B9 := Aside0.mk (B8.out.below hb9)
        clear hb9
        go_wp2_with fail
        go_ret
        exact ⟨by first | rfl | (simp; done), B9.out.toBelow⟩
      | false =>
        obtain ⟨t1, t2⟩ := HTT.out rfl
        obtain ⟨M, hM⟩ : ∃ M, (scanR (logF 40 C noW ((24 : Nat) : Int) ((6 : Nat) : Int) 2) 2).1.length = M := ⟨_, rfl⟩
        have HM : Aside0 (k ≤ M ∧ M ≤ i ∧ shownF 40 24 6 2 C = pgAll p0 (ls.take M)) := ⟨by
          have hcs := crash_shown (cuts := cuts) HC2.out.1 HC2.out.2.1 HC2.out.2.2.1 HC2.out.2.2.2 (by rw [HLN.out]; exact HK.out) (l := (scanR (logF 40 C noW ((24 : Nat) : Int) ((6 : Nat) : Int) 2) 2).1) (by rw [HCE.out]) (by rw [List.length_map] at t1; exact t1) t2
          rw [HCE.out, hM] at hcs
          exact ⟨hcs.2.1, by rw [List.length_map, hM, HLN.out] at t1; exact t1, hcs.2.2⟩⟩
        clear HTT t1 t2 hM
        go_wp2_with fail
        refine (lay_open B8.out HLY.out (by decide) (by decide)).mono ?_
        rintro e w9 ⟨gs9, m9, rfl, hS9⟩
        rw [HM.out.2.2] at hS9
        obtain ⟨G9, hG9⟩ : ∃ x, openL 40 24 6 2 C = x := ⟨_, rfl⟩
        obtain ⟨p9, hp9⟩ : ∃ x, pgAll p0 (ls.take M) = x := ⟨_, rfl⟩
        have HP9 : Aside0 (p9.length = 6 ∧ ∀ p ∈ p9, p.length = 64) := ⟨by
          have h1 := HLY.out.shown
          rw [HM.out.2.2, hp9] at h1
          exact ⟨h1.1, fun p hp => (h1.2 p hp).1⟩⟩
        rw [hG9, hp9] at hS9
        obtain ⟨got, hgot⟩ : ∃ x, joinF p9 = x := ⟨_, rfl⟩
        have HGOT := Aside0.mk hgot
        have HSM : Aside0 ((stsF p0 ls).getD M ⟨#[]⟩ = got) := ⟨by rw [stsF_at _ _ (by rw [HLN.out]; exact HM.out.2.1), hp9, hgot]⟩
        have B9 := Aside0.mk hS9
        clear hS9 hG9 hp9 hgot
        go_wp2_with fail
        refine (all_ B9.out (by rw [HP9.out.1]; decide) (fun p hp => by rw [HP9.out.2 p hp]; decide)).mono ?_
        rintro e w10 ⟨v10, rfl, hS10⟩
        obtain ⟨A10, c10, rfl⟩ := Sep.rowVN hS10 HP9.out.1
        have B10 := Aside0.mk hS10
        clear hS10
        go_wp2_with fail
        refine (Store.join_ (l := p9) (by have h := (Sep.rowVC rfl B10.out).2.2; exact h) (by decide) (fun p hp => by rw [HP9.out.2 p hp]; decide)).mono ?_
        rintro e w11 ⟨rfl, hw11⟩
        rw [HGOT.out]
        have B11 := Aside0.mk B10.out.at4
        rw [hw11] at B11
        clear hw11
        obtain ⟨gq, cq, hEq⟩ := B11.out.rowFormN (n := i + 1) (by rw [stsF_len, HLN.out]) (by omega)
        injection hEq with e1 e2 e3
        subst e1 e3
        clear e2
        go_wp2_with fail
        go_loopg [20] (M - k) (fun k_ p wr => ∃ j : Nat, p = .int .i64 (j : Int) ∧ j + k_ = M ∧ wr = w11)
        case atStart => exact ⟨k, rfl, by have := HM.out.1; omega, rfl⟩
        case round =>
          obtain ⟨j, rfl, hjk, rfl⟩ := hrel
          have AJ := Aside0.mk hjk
          have hji : (j : Int) ≤ (i : Int) := by have := HM.out.2.1; omega
          have hjid : decide ((j : Int) ≤ (i : Int)) = true := decide_eq_true hji
          have hjidn : decide (j ≤ i) = true := decide_eq_true (by omega)
          have hj1 : (j : Int) < (i : Int) + 1 := by omega
          obtain ⟨sx, hsx⟩ : ∃ s, (stsF p0 ls).getD j ⟨#[]⟩ = s := ⟨_, rfl⟩
          have f3 := (B11.out.rowCell (enc := Value.string) ⟨#[]⟩ j (by omega)).1
          rw [hsx] at f3
          have HSX := Aside0.mk hsx
          clear hjk hsx
          by_cases hsg : sx = got
          case pos =>
            have hss : (got.toList == got.toList) = true := by simp
            subst hsg
            go_wp2_with fail
            refine (Store.known_ _).mono ?_
            rintro e w12 ⟨rfl, hb12⟩
            have B12 := Aside0.mk (B11.out.below hb12)
            clear hb12
            go_wp2_with fail
            go_ret
            exact ⟨by first | rfl | (simp; done), B12.out.toBelow⟩
          case neg =>
          have hss : (sx.toList == got.toList) = false := by rw [Str.beq_str]; exact decide_eq_false hsg
          have HJM : Aside0 (j < M) := ⟨by
            rcases Nat.lt_or_ge j M with h | h
            · exact h
            · have hj : j = M := by have := AJ.out; omega
              exact absurd (by rw [← HSX.out, hj, HSM.out]) hsg⟩
          have HJ1 : Aside0 (wrap64 ((j : Int) + 1) = ((j + 1 : Nat) : Int)) := ⟨by have := HN.out; rw [IntWalk.wrap64_in _ (by omega)]; omega⟩
          clear hsg
          go_wp2_with fail
          go_roundg (gk - 1)
          case measure => have := AJ.out; have := HJM.out; omega
          case rel => exact ⟨j + 1, by first | exact congrArg (Value.int .i64) HJ1.out | go_num, by have := AJ.out; have := HJM.out; omega, rfl⟩
    case pos =>
    have hil : (i : Int) < (n : Int) := by omega
    have hild : decide ((i : Int) < (n : Int)) = true := decide_eq_true hil
    have hildn : decide (i < n) = true := decide_eq_true ci
    have HI1 : Aside0 (wrap64 ((i : Int) + 1) = ((i + 1 : Nat) : Int)) := ⟨by have := HN.out; rw [IntWalk.wrap64_in _ (by omega)]; omega⟩
    clear hik ci
    go_upto_if 60 with fail
    go_cut [15] from 53 to 85 (fun p wx => ∃ (las : List Int) (wt : Wt), p = .int .i64 (i : Int) ∧ KInv p0 k i (i + 1) ls las wt named used ∧ Sep w wx [Row KStr 9 (.slice AS1 (i + 1) cS1) (stsF p0 ls), RowV KP 24 (.slice AW1 i cW1) (ls.map deltaF), TpX gt A0 n0 c0, StB gs g m 24 6 2 (pgAll p0 ls) named used i, Dsk g las wt])
    case first =>
      by_cases hk : i = k
      case pos =>
        have hkd : decide ((i : Int) = (k : Int)) = true := decide_eq_true (by omega)
        have hkb : ((i : Int) == (k : Int)) = true := by rw [beq_iff_eq]; omega
        have HKK := Aside0.mk hk
        clear hk
        go_wp2_with fail
        refine (sync_ AS.out.at5.at5).mono ?_
        rintro e w6 ⟨rfl, hS6⟩
        have B6 := Aside0.mk hS6
        clear hS6
        go_wp2_with fail
        go_meet
        case rel => exact ⟨flushed las wt, noW, rfl, AI.out.sync HKK.out, B6.out.to5.to5⟩
      case neg =>
        have hkb : ((i : Int) == (k : Int)) = false := by rw [beq_eq_false_iff_ne]; omega
        have HKK := Aside0.mk hk
        clear hk
        go_wp2_with fail
        go_meet
        case rel => exact ⟨las, wt, rfl, AI.out.nosync HKK.out, AS.out⟩
    case rest =>
    obtain ⟨las2, wt2, rfl, hI2, hS2⟩ := hcut
    have AI2 := Aside0.mk hI2
    have AS2 := Aside0.mk hS2
    clear hS2 hI2
    go_wp2_with fail
    refine (changesX_ HT.out AS2.out.at3 6 (by decide)).mono ?_
    rintro e w6 ⟨v6, l, rfl, hg, hS6⟩
    obtain ⟨n2, hn2⟩ : ∃ n, l.length = n := ⟨_, rfl⟩
    obtain ⟨A6, c6, rfl⟩ := hS6.rowN hn2
    have HG := Aside0.mk (And.intro hg hn2)
    have HPB := Aside0.mk (com_bounds AI2.out.cm)
    have B6 : Aside0 (Sep w w6 (StB gs g m 24 6 2 (pgAll p0 ls) named used i :: Dsk g las2 wt2 :: Row KC 75 (.slice A6 n2 c6) l :: TpX gt A0 n0 c0 :: Row KStr 9 (.slice AS1 (i + 1) cS1) (stsF p0 ls) :: RowV KP 24 (.slice AW1 i cW1) (ls.map deltaF) :: [])) := ⟨(Store.at6 (hS6.at5)).at2⟩
    clear hS6 hg hn2
    by_cases hf : fitsF 24 used n2 = true
    case neg =>
      have hu0 : 0 < used := by
        refine Nat.pos_of_ne_zero (fun h0 => hf ?_)
        rw [h0]
        have h1 := HG.out.1.2.2
        have h2 := HG.out.2
        unfold fitsF Delta.needF sizeF
        rw [decide_eq_true_eq, if_neg (by omega), if_neg (by decide)]
        omega
      have hu1 : (0 : Int) < (used : Int) := by omega
      have hu2 : decide ((0 : Int) < (used : Int)) = true := decide_eq_true hu1
      have hu3 : decide (0 < used) = true := decide_eq_true hu0
      have HF := Aside0.mk (Bool.eq_false_iff.2 hf)
      clear hf hu0
      go_wp2_with fail
      refine (commit_full (l := l) (n2 := n2) (c2 := c6) B6.out B6.out.at3.rowC' (good6 HG.out.1) AI2.out.us_le HF.out).mono ?_
      rintro e w7 ⟨rfl, hS7⟩
      have B7 := Aside0.mk hS7
      clear hS7
      go_wp2_with fail
      refine (used_ B7.out).mono ?_
      rintro e w8 ⟨rfl, rfl⟩
      go_wp2_with fail
      refine (Store.known_ _).mono ?_
      rintro e w9 ⟨rfl, hb9⟩
      have B9 := Aside0.mk (B7.out.below hb9)
      clear hb9
      go_wp2_with fail
      go_ret
      exact ⟨by first | rfl | (simp; done), B9.out.toBelow⟩
    case pos =>
    have HF := Aside0.mk hf
    clear hf
    go_wp2_with fail
    refine (commit_ok (n := 40) (l := l) (n2 := n2) (c2 := c6) B6.out AI2.out.len (by decide) AI2.out.wl (fun W' hW => hW.rowC') (good6 HG.out.1) AI2.out.us_le HF.out (by decide) (by have := AK.out; have := HN.out; omega) (by rw [HPB.out.1]; decide) (fun p hp => by rw [HPB.out.2 p hp]; decide) (by have := AI2.out.nl; have := AK.out; have := HN.out; omega)).mono ?_
    rintro e w7 ⟨rfl, hS7⟩
    have HI3 := Aside0.mk (AI2.out.commit HG.out.1 HG.out.2 HF.out)
    obtain ⟨p3, hp3⟩ : ∃ p, applyF (pgAll p0 ls) l = p := ⟨_, rfl⟩
    have HP3 : Aside0 (pgAll p0 (ls ++ [l]) = p3) := ⟨by rw [pgAll_snoc]; exact hp3⟩
    obtain ⟨wt3, hwt3⟩ : ∃ t, appR 40 las2 wt2 24 6 2 (used : Int) (frameF 2 (i : Int) (deltaF l)) = t := ⟨_, rfl⟩
    obtain ⟨nm3, hnm3⟩ : ∃ t, insAll named l = t := ⟨_, rfl⟩
    obtain ⟨u3, hu3⟩ : ∃ t, used + (18 + 66 * n2) = t := ⟨_, rfl⟩
    rw [hp3, hwt3, hnm3, hu3] at hS7
    rw [hwt3, hnm3, hu3] at HI3
    have HPB3 := Aside0.mk (com_bounds HI3.out.cm)
    rw [HP3.out] at HPB3
    have B7 := Aside0.mk (Store.at6 hS7)
    clear hS7 hp3 hwt3 hnm3 hu3
    go_wp2_with fail
    refine (Delta.rdelta_ B7.out.at4.rowC' (by have := (delta_good HG.out.1).2; omega)).mono ?_
    rintro e w8 ⟨v8, rfl, hS8⟩
    obtain ⟨bn, hbn⟩ : ∃ bn, (deltaF l).length = bn := ⟨_, rfl⟩
    obtain ⟨A8, c8, rfl⟩ := hS8.rowN hbn
    have HBN := Aside0.mk hbn
    have HMD : Aside0 (ls.map deltaF ++ [deltaF l] = (ls ++ [l]).map deltaF) := ⟨by rw [List.map_append]; rfl⟩
    have HLM : Aside0 ((ls.map deltaF).length ≤ 6) := ⟨by rw [List.length_map, AI2.out.num]; have := AK.out; have := HN.out; omega⟩
    have L8 := Aside0.mk ((B7.out.lift1 hS8).clSlice.at2)
    clear hS8 hbn
    go_wp2_with (first | (refine gate_builtin (b := .append) (xs := #[.tmp 75, .tmp 78]) rfl ?_; go_loud (refine L8.out.appendV (cl := ⟨.slice A8 bn c8, rfl⟩) rfl (.tmp 75) (.tmp 78) 49 _ 24 rfl Tryz.underlying49 infoS rfl (by decide) rfl rfl (by have := HLM.out; omega) ?_; intro v9 w9 hS9; have B9 := Aside0.mk hS9; clear hS9)))
    rw [HMD.out] at B9
    obtain ⟨js3, hjs3⟩ : ∃ s, joinF p3 = s := ⟨_, rfl⟩
    have HST3 : Aside0 (stsF p0 ls ++ [js3] = stsF p0 (ls ++ [l])) := ⟨by rw [stsF_snoc, HP3.out, hjs3]⟩
    have HJ3 := Aside0.mk hjs3
    have HSL : Aside0 ((stsF p0 ls).length ≤ 7) := ⟨by rw [stsF_len, AI2.out.num]; have := AK.out; have := HN.out; omega⟩
    clear hjs3
    go_wp2_with fail
    refine (all_ B9.out.at2 (by rw [HPB3.out.1]; decide) (fun p hp => by rw [HPB3.out.2 p hp]; decide)).mono ?_
    rintro e w10 ⟨v10, rfl, hS10⟩
    obtain ⟨A10, c10, rfl⟩ := Sep.rowVN hS10 HPB3.out.1
    have B10 := Aside0.mk hS10
    clear hS10
    go_wp2_with fail
    refine (Store.join_ (l := p3) (by have h := (Sep.rowVC rfl B10.out).2.2; exact h) (by decide) (fun p hp => by rw [HPB3.out.2 p hp]; decide)).mono ?_
    rintro e w11 ⟨rfl, hw11⟩
    rw [HJ3.out]
    have B11 := Aside0.mk (Store.at6 B10.out.tail)
    rw [hw11] at B11
    clear hw11
    have AL := Aside0.mk ((B11.out.litRow (enc := Value.string) (h1 := fun _ => rfl) (e := 9) [js3] (by simp)).at2)
    go_wp2_with (first | (refine gate_builtin (b := .append) (xs := #[.tmp 80, .tmp 84]) rfl ?_; go_loud (refine AL.out.appendRow rfl (.tmp 80) (.tmp 84) 59 (.string ⟨#[]⟩) 16 rfl Tryz.underlying59 infoStr rfl (by decide) (some ⟨w11.heap.size, 0, none⟩) 1 1 rfl rfl AL.out.at2.rowC.2.2 (by have := HSL.out; simp only [List.length_singleton]; omega) ?_; intro v12 w12 hS12; have B12 := Aside0.mk hS12.drop2; clear hS12)))
    rw [HST3.out] at B12
    go_roundg (gk - 1)
    case measure => have := AK.out; omega
    case rel => exact ⟨i + 1, ls ++ [l], las2, wt3, nm3, u3, by first | exact congrArg (Value.int .i64) HI1.out | go_num, by have := AK.out; omega, HI3.out, by rw [HP3.out]; exact B12.out.at5.tail.at3.at2.at5.to3⟩
end Go.Proofs.YtjngnigelkgekaaGreat.Keeps
namespace Go.Proofs.YtjngnigelkgekaaGreat.Kit
open Go.ChangeShapes Go.WideShapes Go.ChangeAt Go.RowKit Go.Proofs.YtjngnigelkgekaaGreatW.PrintWords
set_option linter.unusedVariables false
section
variable {H : Type} {enc : TypeId × Value → H} {P : Program} {W : World} {base : Nat} {sp : Nat → Bool} {held : Bool}
theorem ints_C {T E : TypeId} {k : IntKind} {a : Option Addr} {len cap : Nat} {d : DataW H} {p : List MemPlace} (hT : P.underlying T = some (.slice E)) (hE : P.underlying E = some (.int k)) (hc : P.cellsOf E = 1)
    (h : DataW.Trod enc P W base (fun _ => true) held T (.slice a len cap) d p) : ∃ xs : List Int, len ≤ cap ∧ (Kd.int k).C W a len xs ∧ ∀ n ∈ xs, (Lit.int k n).wf = true := by
  obtain ⟨fuel, hf⟩ := h
  rcases open_ints hT hE hc hf with ⟨hcs, _⟩ | ⟨x, l, c, zs, hcs, _, hl, hm, hz, _, hcell, hwz⟩
  · simp [Value.cells] at hcs
    obtain ⟨rfl, rfl, rfl⟩ := hcs
    exact ⟨[], Nat.le_refl _, Kd.C_nil _ _, by simp⟩
  · simp [Value.cells] at hcs
    obtain ⟨rfl, rfl, rfl⟩ := hcs
    simp at hz
    simp only [maxLen] at hm
    refine ⟨zs.take len, hl, Kd.C_of_reads (d := (0 : Int)) (h1 := fun _ => rfl) ⟨by rw [List.length_take]; omega, by omega, fun h0 => ⟨x, rfl, fun j hj => ?_⟩⟩, fun n hn => hwz n (List.mem_of_mem_take hn)⟩
    rw [hcell j (by omega), List.getD_eq_getElem?_getD, List.getD_eq_getElem?_getD, List.getElem?_take, if_pos hj]
end
end Go.Proofs.YtjngnigelkgekaaGreat.Kit
namespace Go.Proofs.YtjngnigelkgekaaGreatW.PrintWords
end Go.Proofs.YtjngnigelkgekaaGreatW.PrintWords
