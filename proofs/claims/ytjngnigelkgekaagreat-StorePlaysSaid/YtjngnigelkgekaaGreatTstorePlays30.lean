/- StPlay, StKnown2, StPlays, WSized: what StorePlays needs. -/
import Derived.Test.YtjngnigelkgekaaGreatTstorePlays29
import Derived.Deep.Cut
import Derived.Deep.CutRange
import Derived.Deep.CutBlock
import Derived.SizedLaws
import Derived.ChangeSlices
set_option linter.unusedVariables false
set_option linter.unusedSimpArgs false
namespace Go.Proofs.YtjngnigelkgekaaGreat.RStore
open Go.RowKit Go.Proofs.YtjngnigelkgekaaGreatW.PrintWords Go.Proofs.YtjngnigelkgekaaGreatW.PrintLast Go.Proofs.YtjngnigelkgekaaGreatW.PrintMore Go.Proofs.YtjngnigelkgekaaGreat.Kit Go.Proofs.YtjngnigelkgekaaGreat.Plain Go.Proofs.YtjngnigelkgekaaGreat.Disk Go.Proofs.YtjngnigelkgekaaGreat.Root
open Go.Proofs.YtjngnigelkgekaaGreat.Delta (Chg KC deltaF rightF)
open Go.Proofs.YtjngnigelkgekaaGreat.Store (KP StB check_full sync_)
open Go.Proofs.YtjngnigelkgekaaGreat.Home (RT RTL pair18_ pair18_none)
open Go.Proofs.YtjngnigelkgekaaGreat.Redo (TpX tpx_shut changesX_)
def Two (w wr : World) (g gr gs gx gt n : Nat) (A1 : Option Addr) (n1 c1 : Nat) (i : Nat) : Prop := ∃ (m d a b : Nat) (ep : Int) (las : List Int) (c : Cm), St n a b ep c.pages c.named c.nm c.used c.seq las c.wt ∧ c.seq ≤ i ∧ d ≤ 1000 + 200 * i ∧
  Sep w wr [Dsk g las c.wt, RT gr n las c.wt d, StB gs g m (a : Int) (b : Int) ep c.pages c.named c.used c.seq, RStB gx gr (a : Int) (b : Int) ep c.pages c.nm c.used c.seq, TpX gt A1 n1 c1]
def OutP (w wx : World) (g gr gt n : Nat) (A1 : Option Addr) (n1 c1 : Nat) (i : Nat) (v15 v17 : Value) : Prop :=
  (v15 = .pointer none ∧ ∃ las wt d, Dk n las wt ∧ Sep w wx [Dsk g las wt, RT gr n las wt d]) ∨ ∃ gs gx, v15 = .pointer (some ⟨gs, 0, none⟩) ∧ v17 = .pointer (some ⟨gx, 0, none⟩) ∧ Two w wx g gr gs gx gt n A1 n1 c1 i
theorem rstb_b {w0 W : World} {F : List HP} {gx gr : Nat} {a b ep : Int} {pages : List (List Int)} {nm : List Bool} {used seq : Nat} (h : Sep w0 W (RStB gx gr a b ep pages nm used seq :: F)) : W.cell? ⟨gx, 2, none⟩ = some (.int .i64 b) := by
  obtain ⟨_, gp, cp, gn, cn, hs⟩ := rstb_open h
  exact (hs.cell 2).trans rfl
set_option maxHeartbeats 12800000 in
set_option maxRecDepth 100000 in
theorem play18_ {A0 A1 A2 : Option Addr} {n0 c0 n1 c1 n2 c2 : Nat} {im tp : List Int} {asks : List Ask} {log pages : Int} {fmt : Bool} {w : World} (h0 : U8.C w A0 n0 im) (hc0 : n0 ≤ c0) (hb0 : Bytes im) (h1 : I64.C w A1 n1 tp) (h2 : KA.C w A2 n2 asks) (hB : ∀ x ∈ asks, ∀ c ∈ x.2.2.2, Bytes c.2) :
    Calls Tryz.prog 11 #[.slice A0 n0 c0, .int .i64 log, .int .i64 pages, .bool fmt, .slice A1 n1 c1, .slice A2 n2 c2] w fun e w' => e = .returned (.bool true) ∧ Below w.heap.size w w' := by
  have hn2 : n2 ≤ 9223372036854775807 := h2.2.1
  have H0 := Aside0.mk (And.intro h0 hb0)
  have H1 := Aside0.mk h1
  have H2 := Aside0.mk (And.intro h2 hB)
  by_cases hb : n0 = 0 ∨ n0 % 64 ≠ 0 ∨ 10240 < n0
  case pos =>
    clear h0 h1 h2 hB hb0
    go_enter Tryz.func11, Tryz.ntmps11
    go_wp2_with fail
    refine (pair18_none H0.out.1 hb).mono ?_
    rintro e w1 ⟨rfl, rfl⟩
    go_wp2_with fail
    go_ret
    exact ⟨by first | rfl | (simp; done), Below.refl _ _⟩
  case neg =>
  obtain ⟨n, hn0⟩ : ∃ n, n0 = 64 * n := ⟨n0 / 64, by omega⟩
  have HNU : Aside0 (1 ≤ n ∧ n ≤ 160 ∧ n0 = 64 * n ∧ n0 ≤ c0) := ⟨by omega⟩
  have HDK : Aside0 (Dk n im (fun _ => none)) := ⟨⟨h0.1.trans hn0, Ref.none_len, hb0, Store.no_bytes⟩⟩
  clear h0 h1 h2 hB hb0 hb hn0 hc0
  go_enter Tryz.func11, Tryz.ntmps11
  go_wp2_with fail
  refine (pair18_ H0.out.1 HNU.out.2.2.2 HNU.out.2.2.1 HNU.out.1 HNU.out.2.1).mono ?_
  rintro e w1 ⟨g, gr, rfl, hS1⟩
  have B1 := Aside0.mk hS1
  clear hS1
  go_upto_region 4 with fail
  go_cut [57] from 24 (fun v wx => v = .bool false ∧ ∃ (las : List Int) (wt : Wt) (d : Nat), Dk n las wt ∧ d ≤ 300 ∧ Sep w wx [Dsk g las wt, RT gr n las wt d])
  case first =>
    cases fmt with
    | false =>
      go_wp2_with fail
      refine (Ref.alike18_ B1.out HDK.out.len).mono ?_
      rintro e w4 ⟨rfl, hS4⟩
      have B4 := Aside0.mk hS4
      clear hS4
      go_wp2_with fail
      go_meet
      case rel => exact ⟨rfl, im, _, 0, HDK.out, by omega, B4.out⟩
    | true =>
      go_wp2_with fail
      refine (sformat_ B1.out HDK.out HNU.out.2.1 log pages).mono ?_
      rintro e w2 ⟨rfl, hS2⟩
      obtain ⟨S2, hS2e⟩ : ∃ S, fmtS n im (fun _ => none) log pages = S := ⟨_, rfl⟩
      have HD2 := Aside0.mk (HDK.out.fmt log pages)
      rw [hS2e] at hS2 HD2
      have HSE := Aside0.mk hS2e
      have B2 := Aside0.mk hS2.at2
      obtain ⟨er, her⟩ : ∃ e, fmtE n log pages = e := ⟨_, rfl⟩
      have HER := Aside0.mk her
      rw [her]
      clear hS2 hS2e her
      go_wp2_with fail
      refine (rformat_ B2.out HDK.out HNU.out.2.1 (by decide) log pages).mono ?_
      rintro e w3 ⟨rfl, d, hd, hS3⟩
      rw [HSE.out] at hS3
      rw [HER.out]
      have B3 := Aside0.mk hS3.at2
      have HD := Aside0.mk hd
      clear hS3 hd
      go_wp2_with fail
      refine (Ref.alike18_ B3.out HD2.out.len).mono ?_
      rintro e w4 ⟨rfl, hS4⟩
      have B4 := Aside0.mk hS4
      clear hS4
      go_wp2_with fail
      go_meet
      case rel => exact ⟨rfl, S2.1, S2.2, d, HD2.out, by have := HD.out; omega, B4.out⟩
  case rest =>
  obtain ⟨rfl, las0, wt0, d0, hD0, hd0, hS0⟩ := hcut
  have HD0 := Aside0.mk hD0
  have HDD := Aside0.mk hd0
  have B5 := Aside0.mk hS0
  clear hD0 hd0 hS0 B1 HDK
  rcases open_cases HD0.out HNU.out.2.1 with ⟨er, hno⟩ | ⟨a, b, E, ha, hE⟩
  case inl =>
    have HNO := Aside0.mk hno
    clear hno
    go_wp2_with fail
    refine (sopen_nil B5.out HD0.out HNU.out.2.1 HNO.out).mono ?_
    rintro e w6 ⟨rfl, hS6⟩
    have B6 := Aside0.mk hS6.at2
    clear hS6
    go_wp2_with fail
    refine (ropen_nil B6.out HD0.out HNO.out).mono ?_
    rintro e w7 ⟨rfl, hS7⟩
    have B7 := Aside0.mk hS7.at2
    clear hS7
    go_wp2_with fail
    refine (Ref.alike18_ B7.out HD0.out.len).mono ?_
    rintro e w8 ⟨rfl, hS8⟩
    have B8 := Aside0.mk hS8
    clear hS8
    obtain ⟨gt, hgt⟩ : ∃ q, w8.heap.size = q := ⟨_, rfl⟩
    have B9 := Aside0.mk (B8.out.newBlk 56 #[.slice A1 n1 c1, .int .i64 0])
    rw [hgt] at B9
    go_wp2_with fail
    clear hgt
    go_loopg [15, 20] 1 (fun _ v p wr => v = .pointer none ∧ p = .int .i64 0 ∧ Sep w wr [Blk gt 56 #[.slice A1 n1 c1, .int .i64 0], Dsk g las0 wt0, RT gr n las0 wt0 d0])
    case atStart => exact ⟨rfl, rfl, B9.out⟩
    case round =>
      obtain ⟨rfl, rfl, hS⟩ := hrel
      have AS := Aside0.mk hS
      clear hS
      by_cases hz : 0 < n2
      · have hzi : (0 : Int) < (n2 : Int) := by omega
        go_wp2_with fail
        go_ret
        exact ⟨by first | rfl | (simp; done), AS.out.toBelow⟩
      · have hzi : ¬ (0 : Int) < (n2 : Int) := by omega
        go_wp2_with fail
        go_ret
        exact ⟨by first | rfl | (simp; done), AS.out.toBelow⟩
  case inr =>
  have HA := Aside0.mk ha
  have HE := Aside0.mk hE
  have HST := Aside0.mk (ha.opened hE)
  clear ha hE
  go_wp2_with fail
  refine (sopen_ok B5.out HA.out HE.out).mono ?_
  rintro e w6 ⟨gs, m, rfl, hS6⟩
  have B6 := Aside0.mk (Sep.pull [_, _] hS6)
  clear hS6
  go_wp2_with fail
  refine (ropen_all B6.out HA.out HE.out (by have := HDD.out; omega)).mono ?_
  rintro e w7 ⟨gx, rfl, d7, hd7, hS7⟩
  have HD7 := Aside0.mk hd7
  obtain ⟨ps, hps⟩ : ∃ p, shownG n a b E las0 wt0 = p := ⟨_, rfl⟩
  obtain ⟨L7, hL7⟩ : ∃ p, openG n a b E las0 wt0 = p := ⟨_, rfl⟩
  obtain ⟨nm7, hnm7⟩ : ∃ p, List.replicate b false = p := ⟨_, rfl⟩
  obtain ⟨ep, hep⟩ : ∃ p, E + 1 = p := ⟨_, rfl⟩
  rw [hps, hL7, hnm7, hep] at HST hS7
  have B7 : Aside0 (Sep w w7 [Dsk g L7 (fun _ => none), RT gr n L7 (fun _ => none) d7, StB gs g m (a : Int) (b : Int) ep ps [] 0 0, RStB gx gr (a : Int) (b : Int) ep ps nm7 0 0]) := ⟨Sep.push [_, _] (Sep.pull [_, _, _] (Sep.pull [_, _, _] (Sep.pull [_] hS7)))⟩
  clear hS7 hd7 hps hL7 hnm7 hep
  go_wp2_with fail
  refine (Ref.alike18_ B7.out HST.out.dk.len).mono ?_
  rintro e w8 ⟨rfl, hS8⟩
  have B8 := Aside0.mk hS8
  clear hS8
  obtain ⟨gt, hgt⟩ : ∃ q, w8.heap.size = q := ⟨_, rfl⟩
  have B9 := Aside0.mk (tpx_shut (Int.le_refl 0) (B8.out.newBlk 56 #[.slice A1 n1 c1, .int .i64 0]))
  rw [hgt] at B9
  go_wp2_with fail
  clear hgt
  have C9 : Aside0 (Two w _ g gr gs gx gt n A1 n1 c1 0) := ⟨m, d7, a, b, ep, L7, ⟨ps, [], nm7, 0, 0, fun _ => none⟩, HST.out, Nat.le_refl _, by have := HDD.out; have := HD7.out; omega, Sep.push [_, _, _, _] B9.out⟩
  clear B9 B8 B7 B6 B5 HST HD7 HDD HD0 HA HE
  go_loopg [15, 16, 17, 18, 20] 40 (fun k_ v15 v16 v17 v18 p wr => ∃ (i gs gx : Nat), v15 = .pointer (some ⟨gs, 0, none⟩) ∧ v17 = .pointer (some ⟨gx, 0, none⟩) ∧ p = .int .i64 (i : Int) ∧ i + k_ = 40 ∧ Two w wr g gr gs gx gt n A1 n1 c1 i)
  case atStart => exact ⟨0, gs, gx, rfl, rfl, rfl, by omega, C9.out⟩
  case round =>
    obtain ⟨i, gs, gx, rfl, rfl, rfl, hik, m, d, a, b, ep, las, c, hst, hsq, hd, hS⟩ := hrel
    obtain ⟨w10, rfl⟩ : ∃ x, x = wr := ⟨_, rfl⟩
    have AK := Aside0.mk hik
    have AS := Aside0.mk hS
    have HST := Aside0.mk hst
    have HSQ := Aside0.mk (And.intro hsq hd)
    clear hS hst hsq hd C9
    by_cases hj : i < n2 ∧ i < 40
    case neg =>
      by_cases hj1 : i < n2
      · obtain rfl : i = 40 := by omega
        have hji : ((40 : Nat) : Int) < (n2 : Int) := by omega
        clear hik hj
        go_wp2_with fail
        go_ret
        exact ⟨by first | rfl | (simp; done), AS.out.toBelow⟩
      · have hji : ¬ (i : Int) < (n2 : Int) := by omega
        clear hik hj
        go_wp2_with fail
        go_ret
        exact ⟨by first | rfl | (simp; done), AS.out.toBelow⟩
    case pos =>
    obtain ⟨hj1, hj2⟩ := hj
    have hji : (i : Int) < (n2 : Int) := by omega
    have hj4 : (i : Int) < 40 := by omega
    obtain ⟨hx, ad, B, cB, C, cC, rfl, e0, e1, e2, e3, e4, e5, e6, e7⟩ := askE_ H2.out.1 hj1
    replace e0 := cell_later AS.out.toBelow e0
    replace e1 := cell_later AS.out.toBelow e1
    replace e2 := cell_later AS.out.toBelow e2
    replace e3 := cell_later AS.out.toBelow e3
    have hBy := H2.out.2 _ (List.getElem_mem hx)
    obtain ⟨kk, xx, cu, raw, hxe⟩ : ∃ kk xx cu raw, asks[i] = (kk, xx, cu, raw) := ⟨_, _, _, _, rfl⟩
    rw [hxe] at e0 e1 e2 e3 e4 e5 e6 e7 hBy
    obtain ⟨nB, hnB⟩ : ∃ q, cu.length = q := ⟨_, rfl⟩
    obtain ⟨nC, hnC⟩ : ∃ q, raw.length = q := ⟨_, rfl⟩
    replace e0 : w10.cell? (ad.add (i * 4)) = some (.int .i64 kk) := e0
    replace e1 : w10.cell? ⟨(ad.add (i * 4)).block, (ad.add (i * 4)).off + 1, none⟩ = some (.int .i64 xx) := e1
    replace e2 : w10.cell? ⟨(ad.add (i * 4)).block, (ad.add (i * 4)).off + 2, none⟩ = some (.slice B nB cB) := by rw [← hnB]; exact e2
    replace e3 : w10.cell? ⟨(ad.add (i * 4)).block, (ad.add (i * 4)).off + 3, none⟩ = some (.slice C nC cC) := by rw [← hnC]; exact e3
    have HCU : Aside0 (I64.C w B nB cu) := ⟨by rw [← hnB]; exact e5⟩
    have HRW : Aside0 (KC.C w C nC raw ∧ ∀ c ∈ raw, Bytes c.2) := ⟨by rw [← hnC]; exact ⟨e7, hBy⟩⟩
    clear e4 e5 e6 e7 hxe hBy hnB hnC hx
    obtain ⟨G6, hG6⟩ : ∃ x, w10.heap.size = x := ⟨_, rfl⟩
    have BLK := Aside0.mk (AS.out.newBlk 83 #[.int .i64 kk, .int .i64 xx, .slice B nB cB, .slice C nC cC])
    rw [hG6] at BLK
    have AJ := Aside0.mk hj2
    have hnu := HST.out.nums
    have HNS : Aside0 (b ≤ 64 ∧ c.seq ≤ 1000 ∧ d ≤ 100000) := ⟨by have := HSQ.out; omega⟩
    have z0 := (BLK.out.cell 0).trans rfl
    clear hik hj1 hj2 hnu
    go_upto_block 2 with fail
    obtain ⟨w11, hw11⟩ : ∃ x, w10.alloc (.cells #[.int .i64 kk, .int .i64 xx, .slice B nB cB, .slice C nC cC] 83) = x := ⟨_, rfl⟩
    rw [hw11] at BLK z0 ⊢
    clear e0 e1 e2 e3 hw11 hG6 z0 AS
    go_cut [15, 16, 17, 18] from 87 to 186 (fun v15 v16 v17 v18 wx => OutP w wx g gr gt n A1 n1 c1 (i + 1) v15 v17)
    case first =>
      by_cases k4 : kk = 4
      case pos =>
        subst k4
        go_wp2_with fail
        refine (sync_ (Sep.pull [_, _] BLK.out.tail)).mono ?_
        rintro e w12 ⟨rfl, hS12⟩
        have B12 := Aside0.mk (Sep.pull [_, _] hS12)
        clear hS12
        go_wp2_with fail
        refine (Ref.rflush_ B12.out HST.out.dk.len HST.out.dk.wl (by have := HNS.out; omega)).mono ?_
        rintro e w13 ⟨rfl, hS13⟩
        have B13 := Aside0.mk (Sep.pull [_, _] hS13)
        clear hS13
        go_wp2_with fail
        go_meet
        case rel => exact .inr ⟨gs, gx, rfl, rfl, m, d + 1, a, b, ep, flushed las c.wt, ⟨c.pages, c.named, c.nm, c.used, c.seq, fun _ => none⟩, HST.out.flush, by have := HSQ.out; exact Nat.le_succ_of_le this.1, by have := HSQ.out; omega, B13.out⟩
      case neg =>
      by_cases k5 : kk = 5
      case pos =>
        subst k5
        by_cases he : ep = 4294967295
        case pos =>
          subst he
          go_wp2_with fail
          refine (check_full (Sep.pull [_, _] BLK.out.tail)).mono ?_
          rintro e w12 ⟨rfl, rfl⟩
          go_wp2_with fail
          refine (rcheck_full (Sep.pull [_, _, _] BLK.out.tail)).mono ?_
          rintro e w13 ⟨rfl, rfl⟩
          go_wp2_with fail
          go_meet
          case rel => exact .inr ⟨gs, gx, rfl, rfl, m, d, a, b, _, las, c, HST.out, by have := HSQ.out; omega, by have := HSQ.out; omega, BLK.out.tail⟩
        case neg =>
          have HE : Aside0 (ep < 4294967295) := ⟨by have := HST.out.e32; omega⟩
          clear he
          go_wp2_with fail
          refine (scheck_ (Sep.pull [_, _] BLK.out.tail) HST.out HE.out).mono ?_
          rintro e w12 ⟨rfl, hS12⟩
          have B12 := Aside0.mk (Sep.pull [_, _, _] (Sep.pull [_, _] hS12))
          clear hS12
          go_wp2_with fail
          refine (rcheck_all B12.out HST.out HE.out (by have := HNS.out; omega)).mono ?_
          rintro e w13 ⟨rfl, d13, hd13, hS13⟩
          have HD13 := Aside0.mk hd13
          have B13 := Aside0.mk (Sep.pull [_, _, _] (Sep.pull [_, _] (Sep.pull [_, _] hS13)))
          clear hS13 hd13
          go_wp2_with fail
          go_meet
          case rel => exact .inr ⟨gs, gx, rfl, rfl, m, d13, a, b, ep + 1, _, ⟨c.pages, [], List.replicate b false, 0, 0, fun _ => none⟩, HST.out.check HE.out, Nat.zero_le _, by have := HSQ.out; have := HD13.out; omega, B13.out⟩
      case neg =>
      by_cases k6 : kk = 6
      case pos =>
        subst k6
        have BD := Aside0.mk BLK.out.drew
        have z2 := (BD.out.cell 2).trans rfl
        have HDC := Aside0.mk (HST.out.dk.crash cu)
        obtain ⟨LC, hLC⟩ : ∃ L, crashed las c.wt cu = L := ⟨_, rfl⟩
        have HLC := Aside0.mk hLC
        rw [hLC] at HDC
        clear hLC
        go_upto_region 26 with fail
        refine start_ (n := 9) (S := fun w' => w'.cell? ⟨G6, 2, none⟩ = some (.slice B nB cB)) (ds := [7]) #[false, false, false, false, false, false, false, false, false] (by kernel_rfl) rfl rfl (z2) (fun hHeld => ?_)
        refine pure_ (i := 0) (N := some 136) (v := ?_) (a' := ?_) #[true, false, false, false, false, false, false, false, false] rfl rfl (by kernel_rfl) (fun _ _ _ h => h) (Or.inl ⟨by rfl, ?_⟩) ?_ ?_
        rotate_left
        · intro w'
          go_simp
          with_reducible rfl
        rotate_left
        · simp only [Act.put, sIB, sCz, sCs, i64_w, i32_w]
          rfl
        refine pure_ (i := 1) (N := some 137) (v := ?_) (a' := ?_) #[true, true, false, false, false, false, false, false, false] rfl rfl (by kernel_rfl) (fun _ _ _ h => h) (Or.inl ⟨by rfl, ?_⟩) ?_ ?_
        rotate_left
        · intro w'
          go_simp
          with_reducible rfl
        rotate_left
        · simp only [Act.put, sIB, sCz, sCs, i64_w, i32_w]
          rfl
        refine pure_ (i := 4) (N := some 140) (v := ?_) (a' := ?_) #[true, true, false, false, true, false, false, false, false] rfl rfl (by kernel_rfl) (fun _ _ _ h => h) (Or.inl ⟨by rfl, ?_⟩) ?_ ?_
        rotate_left
        · intro w'
          go_simp
          with_reducible rfl
        rotate_left
        · simp only [Act.put, sIB, sCz, sCs, i64_w, i32_w]
          rfl
        refine pure_ (i := 5) (N := some 141) (v := ?_) (a' := ?_) #[true, true, false, false, true, true, false, false, false] rfl rfl (by kernel_rfl) (fun _ _ _ h => h) (Or.inl ⟨by rfl, ?_⟩) ?_ ?_
        rotate_left
        · intro w'
          go_simp
          with_reducible rfl
        rotate_left
        · simp only [Act.put, sIB, sCz, sCs, i64_w, i32_w]
          rfl
        refine take_ (i := 2) (N := some 138) (v := ?_) (a' := ?_) #[true, true, true, false, true, true, false, false, false] rfl rfl (by kernel_rfl) (fun _ _ _ h => h) (Or.inl ⟨by rfl, ?_⟩) hHeld ?_ ?_
        rotate_left
        · intro w' s0
          go_simp
          with_reducible rfl
        rotate_left
        · simp only [Act.put, sIB, sCz, sCs, i64_w, i32_w]
          rfl
        refine take_ (i := 6) (N := some 142) (v := ?_) (a' := ?_) #[true, true, true, false, true, true, true, false, false] rfl rfl (by kernel_rfl) (fun _ _ _ h => h) (Or.inl ⟨by rfl, ?_⟩) hHeld ?_ ?_
        rotate_left
        · intro w' s0
          go_simp
          with_reducible rfl
        rotate_left
        · simp only [Act.put, sIB, sCz, sCs, i64_w, i32_w]
          rfl
        refine one_ (i := 3) (N := some 139) #[true, true, true, true, true, true, true, false, false] rfl rfl (by kernel_rfl) (by decide) (fun K hK => ?_)
        refine goes_ Tryz.func18 (by kernel_rfl) rfl #[.pointer (some ⟨g, 0, none⟩), .slice B nB cB] (by rfl) rfl rfl (by simp only [List.map_toArray, List.map_cons, List.map_nil]; rfl) ?_
        with_reducible refine (Disk.crash_ (cuts := cu) BD.out.at2 (fun W' h => Kd.C_below HCU.out h.toBelow)).mono ?_
        rintro e w12 ⟨rfl, hS12⟩
        refine ⟨_, rfl, ?_⟩
        rw [HLC.out] at hS12
        have B12 := Aside0.mk (Sep.pull [_, _] hS12)
        clear hS12
        refine hK.out _ _ ((B12.out.at3.cell 2).trans rfl) (fun hHeld => ?_)
        clear hK K
        refine norm_ (a' := ?_) ?_ ?_
        rotate_left
        · show Act.put _ (some 139) _ = _
          simp only [Act.put, sIB, sCz, sCs, i64_w, i32_w]
          rfl
        refine last_ (i := 7) (N := some 143) #[true, true, true, true, true, true, true, true, false] rfl rfl (by kernel_rfl) (by decide) (fun K hK => ?_)
        refine goes_ Tryz.func19 (by kernel_rfl) rfl #[.pointer (some ⟨gr, 0, none⟩), .slice B nB cB] (by rfl) rfl rfl (by simp only [List.map_toArray, List.map_cons, List.map_nil]; rfl) ?_
        with_reducible refine (Ref.rcrash_ (cuts := cu) B12.out HST.out.dk.len HST.out.dk.wl (fun W' h => Kd.C_below HCU.out h.toBelow)).mono ?_
        rintro e w13 ⟨rfl, hS13⟩
        refine ⟨_, rfl, ?_⟩
        rw [HLC.out] at hS13
        have B13 : Aside0 (Sep w w13 [Dsk g LC (fun _ => none), RT gr n LC (fun _ => none) d, TpX gt A1 n1 c1]) := ⟨Sep.weakR (L := [_, _, _]) (Sep.push [_, _] (Sep.pull [_, _, _, _, _] (Sep.pull [_] hS13)))⟩
        clear hS13
        refine hK.out _ _ ?_
        clear hK K
        refine norm_ (a' := ?_) ?_ ?_
        rotate_left
        · show Act.put _ (some 143) _ = _
          simp only [Act.put, sIB, sCz, sCs, i64_w, i32_w]
          rfl
        refine pure_ (i := 8) (N := some 144) (v := ?_) (a' := ?_) #[true, true, true, true, true, true, true, true, true] rfl rfl (by kernel_rfl) (fun _ _ _ h => h) (Or.inl ⟨by rfl, ?_⟩) ?_ ?_
        rotate_left
        · intro w'
          go_simp
          with_reducible rfl
        rotate_left
        · simp only [Act.put, sIB, sCz, sCs, i64_w, i32_w]
          rfl
        refine done_ (by kernel_rfl) ?_
        have HNN := HNU.out.2.1
        rcases open_cases HDC.out HNN with ⟨er, hno⟩ | ⟨a3, b3, E3, ha3, hE3⟩
        case inl =>
          have HNO := Aside0.mk hno
          clear hno HNN z2
          go_wp2_with fail
          refine (sopen_nil B13.out HDC.out HNU.out.2.1 HNO.out).mono ?_
          rintro e w14 ⟨rfl, hS14⟩
          have B14 := Aside0.mk hS14.at2
          clear hS14
          go_wp2_with fail
          refine (ropen_nil B14.out HDC.out HNO.out).mono ?_
          rintro e w15 ⟨rfl, hS15⟩
          have B15 := Aside0.mk hS15.at2
          clear hS15
          go_wp2_with fail
          go_meet
          case rel => exact .inl ⟨rfl, LC, _, d, HDC.out, Sep.weakR (L := [_, _]) B15.out⟩
        case inr =>
          have HA3 := Aside0.mk ha3
          have HE3 := Aside0.mk hE3
          have HS3 := Aside0.mk (ha3.opened hE3)
          clear ha3 hE3 HNN z2
          go_wp2_with fail
          refine (sopen_ok B13.out HA3.out HE3.out).mono ?_
          rintro e w14 ⟨gs3, m3, rfl, hS14⟩
          have B14 := Aside0.mk (Sep.pull [_, _] hS14)
          clear hS14
          go_wp2_with fail
          refine (ropen_all B14.out HA3.out HE3.out (by have := HNS.out; omega)).mono ?_
          rintro e w15 ⟨gx3, rfl, d15, hd15, hS15⟩
          have HD15 := Aside0.mk hd15
          have B15 := Aside0.mk (Sep.push [_, _] (Sep.pull [_, _, _] (Sep.pull [_, _, _] (Sep.pull [_] hS15))))
          clear hS15 hd15
          go_wp2_with fail
          go_meet
          case rel => exact .inr ⟨gs3, gx3, rfl, rfl, m3, d15, a3, b3, E3 + 1, _, ⟨shownG n a3 b3 E3 LC (fun _ => none), [], List.replicate b3 false, 0, 0, fun _ => none⟩, HS3.out, Nat.zero_le _, by have := HSQ.out; have := HD15.out; omega, B15.out⟩
      case neg =>
      by_cases k7 : kk = 7
      case pos =>
        subst k7
        have BD := Aside0.mk (Sep.pull [_, _, _] (Sep.pull [_] BLK.out.drew))
        have z3 := (BD.out.at3.cell 3).trans rfl
        obtain ⟨er, her⟩ : ∃ e, cmE (a : Int) (b : Int) c.used raw = e := ⟨_, rfl⟩
        obtain ⟨cx, hcx⟩ : ∃ e, cmR n (a : Int) (b : Int) ep las c raw = e := ⟨_, rfl⟩
        have HCM := Aside0.mk (HST.out.cm HRW.out.2)
        rw [hcx] at HCM
        have HER := Aside0.mk (And.intro her hcx)
        clear her hcx
        go_upto_region 33 with fail
        refine start_ (n := 9) (S := fun w' => w'.cell? ⟨G6, 3, none⟩ = some (.slice C nC cC)) (ds := [7]) #[false, false, false, false, false, false, false, false, false] (by kernel_rfl) rfl rfl (z3) (fun hHeld => ?_)
        refine pure_ (i := 0) (N := some 167) (v := ?_) (a' := ?_) #[true, false, false, false, false, false, false, false, false] rfl rfl (by kernel_rfl) (fun _ _ _ h => h) (Or.inl ⟨by rfl, ?_⟩) ?_ ?_
        rotate_left
        · intro w'
          go_simp
          with_reducible rfl
        rotate_left
        · simp only [Act.put, sIB, sCz, sCs, i64_w, i32_w]
          rfl
        refine pure_ (i := 1) (N := some 168) (v := ?_) (a' := ?_) #[true, true, false, false, false, false, false, false, false] rfl rfl (by kernel_rfl) (fun _ _ _ h => h) (Or.inl ⟨by rfl, ?_⟩) ?_ ?_
        rotate_left
        · intro w'
          go_simp
          with_reducible rfl
        rotate_left
        · simp only [Act.put, sIB, sCz, sCs, i64_w, i32_w]
          rfl
        refine pure_ (i := 4) (N := some 171) (v := ?_) (a' := ?_) #[true, true, false, false, true, false, false, false, false] rfl rfl (by kernel_rfl) (fun _ _ _ h => h) (Or.inl ⟨by rfl, ?_⟩) ?_ ?_
        rotate_left
        · intro w'
          go_simp
          with_reducible rfl
        rotate_left
        · simp only [Act.put, sIB, sCz, sCs, i64_w, i32_w]
          rfl
        refine pure_ (i := 5) (N := some 172) (v := ?_) (a' := ?_) #[true, true, false, false, true, true, false, false, false] rfl rfl (by kernel_rfl) (fun _ _ _ h => h) (Or.inl ⟨by rfl, ?_⟩) ?_ ?_
        rotate_left
        · intro w'
          go_simp
          with_reducible rfl
        rotate_left
        · simp only [Act.put, sIB, sCz, sCs, i64_w, i32_w]
          rfl
        refine take_ (i := 2) (N := some 169) (v := ?_) (a' := ?_) #[true, true, true, false, true, true, false, false, false] rfl rfl (by kernel_rfl) (fun _ _ _ h => h) (Or.inl ⟨by rfl, ?_⟩) hHeld ?_ ?_
        rotate_left
        · intro w' s0
          go_simp
          with_reducible rfl
        rotate_left
        · simp only [Act.put, sIB, sCz, sCs, i64_w, i32_w]
          rfl
        refine take_ (i := 6) (N := some 173) (v := ?_) (a' := ?_) #[true, true, true, false, true, true, true, false, false] rfl rfl (by kernel_rfl) (fun _ _ _ h => h) (Or.inl ⟨by rfl, ?_⟩) hHeld ?_ ?_
        rotate_left
        · intro w' s0
          go_simp
          with_reducible rfl
        rotate_left
        · simp only [Act.put, sIB, sCz, sCs, i64_w, i32_w]
          rfl
        refine one_ (i := 3) (N := some 170) #[true, true, true, true, true, true, true, false, false] rfl rfl (by kernel_rfl) (by decide) (fun K hK => ?_)
        refine goes_ Tryz.func32 (by kernel_rfl) rfl #[.pointer (some ⟨gs, 0, none⟩), .slice C nC cC] (by rfl) rfl rfl (by simp only [List.map_toArray, List.map_cons, List.map_nil]; rfl) ?_
        with_reducible refine (scommit_ (c := c) (l := raw) BD.out HST.out HNS.out.2.1 (fun W' hW => Kd.C_below HRW.out.1 hW.toBelow)).mono ?_
        rintro e w12 ⟨rfl, hS12⟩
        refine ⟨_, rfl, ?_⟩
        rw [HER.out.2] at hS12
        rw [HER.out.1]
        have B12 := Aside0.mk (Sep.pull [_, _, _, _] (Sep.pull [_, _, _] hS12))
        clear hS12
        refine hK.out _ _ ((B12.out.at5.cell 3).trans rfl) (fun hHeld => ?_)
        clear hK K
        refine norm_ (a' := ?_) ?_ ?_
        rotate_left
        · show Act.put _ (some 170) _ = _
          simp only [Act.put, sIB, sCz, sCs, i64_w, i32_w]
          rfl
        refine last_ (i := 7) (N := some 174) #[true, true, true, true, true, true, true, true, false] rfl rfl (by kernel_rfl) (by decide) (fun K hK => ?_)
        refine goes_ Tryz.func43 (by kernel_rfl) rfl #[.pointer (some ⟨gx, 0, none⟩), .slice C nC cC] (by rfl) rfl rfl (by simp only [List.map_toArray, List.map_cons, List.map_nil]; rfl) ?_
        with_reducible refine (rcommit_ (c := c) (l := raw) B12.out HST.out HNS.out.2.1 (by have := HNS.out; omega) (fun W' hW => Kd.C_below HRW.out.1 hW.toBelow)).mono ?_
        rintro e w13 ⟨rfl, d13, hd13, hS13⟩
        refine ⟨_, rfl, ?_⟩
        rw [HER.out.2] at hS13
        rw [HER.out.1]
        have B13 := Aside0.mk (Sep.pull [_, _, _, _] (Sep.pull [_, _, _] (Sep.pull [_, _] (Sep.pull [_, _] hS13)))).tail
        have HD13 := Aside0.mk hd13
        clear hS13 hd13
        refine hK.out _ _ ?_
        clear hK K
        refine norm_ (a' := ?_) ?_ ?_
        rotate_left
        · show Act.put _ (some 174) _ = _
          simp only [Act.put, sIB, sCz, sCs, i64_w, i32_w]
          rfl
        refine pure_ (i := 8) (N := some 175) (v := ?_) (a' := ?_) #[true, true, true, true, true, true, true, true, true] rfl rfl (by kernel_rfl) (fun _ _ _ h => h) (Or.inl ⟨by rfl, ?_⟩) ?_ ?_
        rotate_left
        · intro w'
          go_simp
          with_reducible rfl
        rotate_left
        · simp only [Act.put, sIB, sCz, sCs, i64_w, i32_w]
          rfl
        refine done_ (by kernel_rfl) ?_
        clear z3
        go_wp2_with fail
        go_meet
        case rel => exact .inr ⟨gs, gx, rfl, rfl, m, d13, a, b, ep, las, cx, HCM.out.1, by have := HSQ.out; have := HCM.out.2; omega, by have := HSQ.out; have := HD13.out; omega, B13.out⟩
      case neg =>
        have zb := rstb_b (Sep.pull [_, _, _] BLK.out.tail)
        go_wp2_with fail
        refine (changesX_ H1.out (Sep.pull [_, _, _, _] BLK.out.tail) b (by have := HNS.out; omega)).mono ?_
        rintro e w12 ⟨v12, l, rfl, hg, hS12⟩
        obtain ⟨n3, hn3⟩ : ∃ n, l.length = n := ⟨_, rfl⟩
        obtain ⟨A12, c12, rfl⟩ := hS12.rowN hn3
        have HCM := Aside0.mk (HST.out.cm hg.2.1)
        have B12 := Aside0.mk (Sep.pull [_, _, _, _] (Sep.pull [_, _] hS12))
        obtain ⟨er, her⟩ : ∃ e, cmE (a : Int) (b : Int) c.used l = e := ⟨_, rfl⟩
        obtain ⟨cx, hcx⟩ : ∃ e, cmR n (a : Int) (b : Int) ep las c l = e := ⟨_, rfl⟩
        rw [hcx] at HCM
        have HER := Aside0.mk (And.intro her hcx)
        clear her hcx hS12 hg zb hn3
        go_wp2_with fail
        refine (scommit_ (c := c) (l := l) B12.out HST.out HNS.out.2.1 (fun W' hW => hW.rowC')).mono ?_
        rintro e w13 ⟨rfl, hS13⟩
        rw [HER.out.2] at hS13
        rw [HER.out.1]
        have B13 := Aside0.mk (Sep.pull [_, _, _, _, _] (Sep.pull [_, _, _, _] (Sep.pull [_, _] hS13)))
        clear hS13
        go_wp2_with fail
        refine (rcommit_ (c := c) (l := l) B13.out HST.out HNS.out.2.1 (by have := HNS.out; omega) (fun W' hW => hW.rowC')).mono ?_
        rintro e w14 ⟨rfl, d14, hd14, hS14⟩
        rw [HER.out.2] at hS14
        rw [HER.out.1]
        have HD14 := Aside0.mk hd14
        have B14 := Aside0.mk (Sep.pull [_, _, _] (Sep.pull [_, _] (Sep.pull [_, _] (Sep.pull [_, _] hS14).tail)))
        clear hS14 hd14
        go_wp2_with fail
        go_meet
        case rel => exact .inr ⟨gs, gx, rfl, rfl, m, d14, a, b, ep, las, cx, HCM.out.1, by have := HSQ.out; have := HCM.out.2; omega, by have := HSQ.out; have := HD14.out; omega, B14.out⟩
    case rest =>
    rcases hcut with ⟨rfl, las2, wt2, d2, hD2, hS2⟩ | ⟨gs2, gx2, rfl, rfl, m2, d2, a2, b2, ep2, las2, cm2, hst2, hsq2, hd2, hS2⟩
    case inl =>
      have HD2 := Aside0.mk hD2
      have B12 := Aside0.mk hS2
      clear hD2 hS2 BLK
      go_wp2_with fail
      refine (Ref.alike18_ B12.out HD2.out.len).mono ?_
      rintro e w13 ⟨rfl, hS13⟩
      have B13 := Aside0.mk hS13
      clear hS13
      go_wp2_with fail
      go_ret
      exact ⟨by first | rfl | (simp; done), B13.out.toBelow⟩
    case inr =>
      have HST2 := Aside0.mk hst2
      have HSQ2 := Aside0.mk (And.intro hsq2 hd2)
      have B12 := Aside0.mk hS2
      clear hst2 hsq2 hd2 hS2 BLK
      go_wp2_with fail
      refine (same18_ B12.out HST2.out.dk.len (by rw [HST2.out.pl]; have := HST2.out.nums; omega) (fun p hp => by have := (HST2.out.p64 p hp).1; omega)).mono ?_
      rintro e w13 ⟨rfl, hS13⟩
      have B13 := Aside0.mk hS13
      clear hS13
      have hi40 : i < 40 := AJ.out
      go_wp2_with fail
      go_roundg (gk - 1)
      case measure => have := AK.out; omega
      case rel => exact ⟨i + 1, gs2, gx2, rfl, rfl, by go_num, by have := AK.out; omega, m2, d2, a2, b2, ep2, las2, cm2, HST2.out, HSQ2.out.1, HSQ2.out.2, B13.out⟩
end Go.Proofs.YtjngnigelkgekaaGreat.RStore
namespace Go.Proofs.YtjngnigelkgekaaGreat.Store
open Go.RowKit Go.Proofs.YtjngnigelkgekaaGreatW.PrintWords Go.Proofs.YtjngnigelkgekaaGreatW.PrintLast Go.Proofs.YtjngnigelkgekaaGreatW.PrintMore Go.Proofs.YtjngnigelkgekaaGreat.Kit Go.Proofs.YtjngnigelkgekaaGreat.Plain Go.Proofs.YtjngnigelkgekaaGreat.Disk Go.Proofs.YtjngnigelkgekaaGreat.Root
open Go.Proofs.YtjngnigelkgekaaGreat.Delta (Chg KC deltaF rightF)
open Go.Proofs.YtjngnigelkgekaaGreat.Redo (appR sizeF)
open Go.Proofs.YtjngnigelkgekaaGreat.Frame (frameF)
theorem k_size : ((0 : Nat) : Int) ≤ sizeF 9 := by decide +kernel
theorem k_flush' : flushed z2L (appR 20 z2L noW 9 4 2 ((0 : Nat) : Int) (frameF 2 ((0 : Nat) : Int) (deltaF [(2, s5)]))) = z3L := k_flush
theorem k_p2 {ps : List (List Int)} (h : applyF zps [(2, s5)] = ps) : ∃ hi : 2 < ps.length, ps[2] = s5 ∧ ps.length = 4 := by
  rw [k_app] at h
  subst h
  exact ⟨by decide, rfl, rfl⟩
set_option maxHeartbeats 3200000 in
set_option maxRecDepth 100000 in
theorem known_ (w : World) : Calls Tryz.prog 12 #[] w fun e w' => e = .returned (.bool true) ∧ Below w.heap.size w w' := by
  go_enter Tryz.func12, Tryz.ntmps12
  go_wp2_with fail
  refine (new_ok (n := 20) (by decide) (by decide)).mono ?_
  rintro e w1 ⟨g, rfl, hS1⟩
  have B1 := Aside0.mk hS1
  clear hS1
  go_wp2_with fail
  refine (k_open0 B1.out).mono ?_
  rintro e w2 ⟨rfl, hS2⟩
  have B2 := Aside0.mk hS2
  clear hS2
  go_wp2_with fail
  refine (k_format B2.out).mono ?_
  rintro e w3 ⟨rfl, hS3⟩
  have B3 := Aside0.mk hS3
  clear hS3
  go_wp2_with fail
  refine (k_open1 B3.out).mono ?_
  rintro e w4 ⟨gs, m, rfl, hS4⟩
  have B4 := Aside0.mk hS4
  clear hS4
  go_wp2_with fail
  refine (sector_ 5 _).mono ?_
  rintro e w5 ⟨v5, rfl, hS5⟩
  obtain ⟨A5, c5, rfl⟩ := hS5.rowN (n := 64) rfl
  have B5 := Aside0.mk ((B4.out.lift1 hS5).newBlk 75 #[.int .i64 2, .slice A5 64 c5])
  clear hS5
  go_wp2_with fail
  refine (commit_ok (n := 20) (l := [(2, s5)]) (n2 := 1) (c2 := 1) B5.out.at3.at4.at2 k_len2 (by decide) Ref.none_len (fun W' hW => chg_lit hW) k_r1 k_size k_fit (by decide) (by decide) (by decide) k_pl (by decide)).mono ?_
  rintro e w6 ⟨rfl, hS6⟩
  obtain ⟨ps, hps⟩ : ∃ p, applyF zps [(2, s5)] = p := ⟨_, rfl⟩
  have HPS := Aside0.mk (k_p2 hps)
  have HPE := Aside0.mk hps
  rw [hps] at hS6
  obtain ⟨nm, hnm⟩ : ∃ p, insAll [] [(2, s5)] = p := ⟨_, rfl⟩
  rw [hnm] at hS6
  obtain ⟨wt6, hwt6⟩ : ∃ t, appR 20 z2L noW 9 4 2 ((0 : Nat) : Int) (frameF 2 ((0 : Nat) : Int) (deltaF [(2, s5)])) = t := ⟨_, rfl⟩
  have HFL : Aside0 (flushed z2L wt6 = z3L) := ⟨by rw [← hwt6]; exact k_flush'⟩
  rw [hwt6] at hS6
  have B6 : Aside0 (Sep w w6 (StB gs g m 9 4 2 ps nm 84 1 :: Dsk g z2L wt6 :: _)) := ⟨hS6⟩
  clear hS6 hps hnm hwt6
  go_wp2_with fail
  refine (sector_ 5 _).mono ?_
  rintro e w7 ⟨v7, rfl, hS7⟩
  obtain ⟨A7, c7, rfl⟩ := hS7.rowN (n := 64) rfl
  have B7 := Aside0.mk ((B6.out.lift1 hS7).newBlk 75 #[.int .i64 4, .slice A7 64 c7])
  clear hS7
  go_wp2_with fail
  refine (commit_bad (l := [(4, s5)]) (n2 := 1) (c2 := 1) B7.out.at3 (chg_lit B7.out) k_r2).mono ?_
  rintro e w8 ⟨rfl, hS8⟩
  have B8 : Aside0 (Sep w w8 (StB gs g m 9 4 2 ps nm 84 1 :: Dsk g z2L wt6 :: _)) := ⟨hS8.at4.at2⟩
  clear hS8
  go_wp2_with fail
  obtain ⟨hi2, hp2, hp4⟩ := HPS.out
  refine (page_in B8.out 2 hi2 (by rw [hp2]; decide) (by rw [hp4]; decide)).mono ?_
  rintro e w9 ⟨v9, rfl, hS9⟩
  rw [hp2] at hS9
  obtain ⟨g9, c9, rfl⟩ := hS9.rowFormN (n := 64) rfl (by decide)
  have B9 := Aside0.mk hS9
  clear hS9
  go_wp2_with fail
  refine (used_ B9.out.at2).mono ?_
  rintro e w10 ⟨rfl, rfl⟩
  go_wp2_with fail
  refine (seq_ B9.out.at2).mono ?_
  rintro e w10 ⟨rfl, rfl⟩
  go_wp2_with fail
  refine (sync_ B9.out.to3).mono ?_
  rintro e w11 ⟨rfl, hS11⟩
  rw [HFL.out] at hS11
  have B11 := Aside0.mk hS11.at2
  clear hS11
  go_wp2_with fail
  refine (crash_ (cuts := []) (n := 0) (c := 0) (A := none) B11.out (fun W' hW => Kd.C_nil _ _)).mono ?_
  rintro e w12 ⟨rfl, hS12⟩
  rw [k_crash] at hS12
  have B12 := Aside0.mk hS12
  clear hS12
  generalize ((keysOf (z3L.length / 64) noW).length : Int) = q12
  go_wp2_with fail
  refine (k_open3 B12.out).mono ?_
  rintro e w13 ⟨gs2, m2, L4, rfl, hL4, hS13⟩
  rw [HPE.out] at hS13
  have HL4 := Aside0.mk hL4
  have B13 := Aside0.mk hS13
  clear hS13 hL4
  go_wp2_with fail
  refine (page_in B13.out 2 hi2 (by rw [hp2]; decide) (by rw [hp4]; decide)).mono ?_
  rintro e w14 ⟨v14, rfl, hS14⟩
  rw [hp2] at hS14
  obtain ⟨g14, c14, rfl⟩ := hS14.rowFormN (n := 64) rfl (by decide)
  have B14 := Aside0.mk hS14
  clear hS14
  have y1 := (B14.out.rowCell (0 : Int) 0 (by decide)).1
  have y2 := (B14.out.at5.rowCell (0 : Int) 0 (by decide)).1
  rw [show List.getD s5 0 0 = 5 from rfl] at y1 y2
  go_wp2_with fail
  refine (root_ B14.out.at2).mono ?_
  rintro e w15 ⟨rfl, hb15⟩
  have B15 := Aside0.mk (B14.out.below hb15)
  clear hb15 y1 y2
  have hfd : ∀ w : World, (Instr.field 80 (.agg #[.int .i64 9, .int .i64 4, .int .u32 3]) 2).run Tryz.prog w = .ok (.int .u32 3) w := fun _ => by kernel_rfl
  go_wp2_with fail
  refine (page_out B15.out.at2 9 (by rw [hp4]; decide)).mono ?_
  rintro e w16 ⟨rfl, rfl⟩
  go_wp2_with fail
  refine (format_bad (n := 20) B15.out.at3 HL4.out 99 1 (by decide +kernel)).mono ?_
  rintro e w17 ⟨rfl, hS17⟩
  have B17 := Aside0.mk hS17
  clear hS17
  go_wp2_with fail
  refine (format_nil 1 1 _).mono ?_
  rintro e w18 ⟨rfl, rfl⟩
  go_wp2_with fail
  go_ret
  exact ⟨by first | rfl | (simp; done), B17.out.toBelow⟩
end Go.Proofs.YtjngnigelkgekaaGreat.Store
namespace Go.Proofs.YtjngnigelkgekaaGreat.RStore
open Go.RowKit Go.Proofs.YtjngnigelkgekaaGreatW.PrintWords Go.Proofs.YtjngnigelkgekaaGreatW.PrintLast Go.Proofs.YtjngnigelkgekaaGreatW.PrintMore Go.Proofs.YtjngnigelkgekaaGreat.Kit Go.Proofs.YtjngnigelkgekaaGreat.Plain Go.Proofs.YtjngnigelkgekaaGreat.Disk Go.Proofs.YtjngnigelkgekaaGreat.Root
open Go.Proofs.YtjngnigelkgekaaGreat.Delta (Chg KC)
theorem infoB_ : (Tryz.prog.info? 5).map (fun i => (i.zero, i.size, i.bytes)) = some (some (.int .u8 0), 1, 1) := by kernel_rfl
set_option maxHeartbeats 6400000 in
set_option maxRecDepth 100000 in
theorem storePlays_ {A0 A1 A2 : Option Addr} {n0 c0 n1 c1 n2 c2 : Nat} {im tp : List Int} {asks : List Ask} {log pages : Int} {w : World} (h0 : U8.C w A0 n0 im) (hc0 : n0 ≤ c0) (hb0 : Bytes im) (h1 : I64.C w A1 n1 tp) (h2 : KA.C w A2 n2 asks) (hB : ∀ x ∈ asks, ∀ c ∈ x.2.2.2, Bytes c.2) :
    Calls Tryz.prog 3 #[.int .i64 log, .int .i64 pages, .slice A1 n1 c1, .slice A2 n2 c2, .slice A0 n0 c0] w fun e w' => e = .returned (.bool true) ∧ Below w.heap.size w w' := by
  have H0 := Aside0.mk (And.intro h0 (And.intro hc0 hb0))
  have H1 := Aside0.mk h1
  have H2 := Aside0.mk (And.intro h2 hB)
  have hmk : ∀ W : World, (Instr.makeSlice 24 (.int .i64 1920) (.int .i64 1920)).run Tryz.prog W = .ok (.slice (some ⟨W.heap.size, 0, none⟩) 1920 1920) (W.alloc (.cells (madeCells #[.int .u8 0] 1920) 5)) := Disk.make_ (m := 1920) (by omega)
  have hcut : 640 ≤ n0 → ∀ W : World, (Instr.slice 24 (.slice A0 n0 c0) none (some (.int .i64 640)) none).run Tryz.prog W = .ok (.slice A0 640 c0) W := fun hn W => cutHi Tryz.underlying24 infoB_ A0 n0 c0 640 rfl hn hc0 W
  have HCUT := Aside0.mk hcut
  clear h0 hc0 hb0 h1 h2 hB hcut
  go_enter Tryz.func3, Tryz.ntmps3
  go_wp2_with fail
  refine (Book.within_ log 1 14 _ (by decide) (by decide) (by decide)).mono ?_
  rintro e w1 ⟨rfl, rfl⟩
  obtain ⟨a, ha⟩ : ∃ a, Book.withinF log 1 14 = a := ⟨_, rfl⟩
  rw [ha]
  clear ha
  go_wp2_with fail
  refine (Book.within_ pages 1 9 _ (by decide) (by decide) (by decide)).mono ?_
  rintro e w1 ⟨rfl, rfl⟩
  obtain ⟨b, hb⟩ : ∃ a, Book.withinF pages 1 9 = a := ⟨_, rfl⟩
  rw [hb]
  clear hb
  go_upto_if 19 with fail
  go_cut [4] from 13 (fun v wx => ∃ (n3 : Nat) (im3 : List Int), v = .slice A0 n3 c0 ∧ U8.C w A0 n3 im3 ∧ n3 ≤ c0 ∧ Bytes im3 ∧ w = wx)
  case first =>
    by_cases hn : 640 < n0
    · have hni : (640 : Int) < (n0 : Int) := by omega
      have hq := HCUT.out (by omega)
      have HN := Aside0.mk hn
      clear hn
      go_wp2_with fail
      go_meet
      case rel => exact ⟨640, im.take 640, rfl, C_hi H0.out.1 (by have := HN.out; omega) H0.out.2.1, by have := HN.out; have := H0.out.2.1; omega, H0.out.2.2.take _, rfl⟩
    · have hni : ¬ (640 : Int) < (n0 : Int) := by omega
      clear hn
      go_wp2_with fail
      go_meet
      case rel => exact ⟨n0, im, rfl, H0.out.1, H0.out.2.1, H0.out.2.2, rfl⟩
  case rest =>
  obtain ⟨n3, im3, rfl, hC3, hc3, hb3, rfl⟩ := hcut
  have H3 := Aside0.mk (And.intro hC3 (And.intro hc3 hb3))
  have B1 := Aside0.mk (Disk.madeB 1920 (Sep.start w) (by omega))
  clear hC3 hc3 hb3
  go_wp2_with fail
  refine (play18_ (im := List.replicate 1920 0) B1.out.rowC' (Nat.le_refl _) (zeros_bytes _) (Kd.C_below H1.out B1.out.toBelow) (Kd.C_below H2.out.1 B1.out.toBelow) H2.out.2).mono ?_
  rintro e w2 ⟨rfl, hb2⟩
  have B2 := Aside0.mk (B1.out.below hb2)
  clear hb2 hmk
  go_wp2_with fail
  refine (play18_ (Kd.C_below H3.out.1 B2.out.toBelow) H3.out.2.1 H3.out.2.2 (Kd.C_below H1.out B2.out.toBelow) (Kd.C_below H2.out.1 B2.out.toBelow) H2.out.2).mono ?_
  rintro e w4 ⟨rfl, hb4⟩
  have B4 := Aside0.mk (B2.out.below hb4)
  clear hb4
  go_wp2_with fail
  refine (play18_ (Kd.C_below H3.out.1 B4.out.toBelow) H3.out.2.1 H3.out.2.2 (Kd.C_below H1.out B4.out.toBelow) (Kd.C_below H2.out.1 B4.out.toBelow) H2.out.2).mono ?_
  rintro e w5 ⟨rfl, hb5⟩
  have B5 := Aside0.mk (B4.out.below hb5)
  clear hb5
  go_wp2_with fail
  refine (Store.known_ _).mono ?_
  rintro e w6 ⟨rfl, hb6⟩
  have B6 := Aside0.mk (B5.out.below hb6)
  clear hb6
  go_wp2_with fail
  go_ret
  exact ⟨by first | rfl | (simp; done), B6.out.toBelow⟩
end Go.Proofs.YtjngnigelkgekaaGreat.RStore
namespace Go.Proofs.YtjngnigelkgekaaGreatW.PrintWords
end Go.Proofs.YtjngnigelkgekaaGreatW.PrintWords
