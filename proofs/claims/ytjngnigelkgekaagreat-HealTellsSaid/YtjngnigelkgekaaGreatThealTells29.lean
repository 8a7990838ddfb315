/- Heal5, Heal6, HealTells, Open, OpenRow, AskOpen, WSized: what HealTells needs. -/
import Derived.Test.YtjngnigelkgekaaGreatThealTells28
import Derived.Deep.Cut
import Derived.Deep.CutRange
import Derived.Test.YtjngnigelkgekaaGreatProg
import Derived.WalkKit
import Derived.ProofKit
import Derived.OpenShut
import Derived.ShutString
import Derived.ChangeOld
import Derived.Below
import Derived.SizedLaws
import Derived.Deep.Slices
import Derived.ChangeSame
import Derived.ChangeArms
import Derived.ChangeSlices
set_option linter.unusedVariables false
set_option linter.unusedSimpArgs false
namespace Go.Proofs.YtjngnigelkgekaaGreat.Heal
open Go.RowKit Go.Proofs.YtjngnigelkgekaaGreatW.PrintWords Go.Proofs.YtjngnigelkgekaaGreatW.PrintLast Go.Proofs.YtjngnigelkgekaaGreatW.PrintMore Go.Proofs.YtjngnigelkgekaaGreat.Kit Go.Proofs.YtjngnigelkgekaaGreat.Plain Go.Proofs.YtjngnigelkgekaaGreat.Disk Go.Proofs.YtjngnigelkgekaaGreat.Root
open Go.Proofs.YtjngnigelkgekaaGreat.Delta (Chg KC)
open Go.Proofs.YtjngnigelkgekaaGreat.RStore
open Go.Proofs.YtjngnigelkgekaaGreat.Deed
open Go.Proofs.YtjngnigelkgekaaGreat.Home (RT RTL pair19_)
open Go.Proofs.YtjngnigelkgekaaGreat.Redo (TpX tpx_shut changesX_ nextX_)
section
variable {w0 W : World} {F : List HP} {gr g n : Nat} {las : List Int} {wt : Wt}
theorem rb2 {gx : Nat} {a b ep : Int} {pages : List (List Int)} {nm : List Bool} {used seq : Nat} (h : Sep w0 W (RStB gx gr a b ep pages nm used seq :: F)) : W.cell? ⟨gx, 2, none⟩ = some (.int .i64 b) := by
  obtain ⟨_, gp, cp, gn, cn, hs⟩ := rstb_open h
  exact (hs.cell 2).trans rfl
theorem rformatX {d : Nat} (h : Sep w0 W (RT gr n las wt d :: F)) (hk : Dk n las wt) (hn : n ≤ 160) (hd : d ≤ 1000000) (log pages : Int) :
    Calls Tryz.prog 39 #[.pointer (some ⟨gr, 0, none⟩), .int .i64 log, .int .i64 pages] W fun e w' => ∃ er las' wt' d', e = .returned (.int .i64 er) ∧ Dk n las' wt' ∧ d' ≤ d + 200 ∧ Sep w0 w' (RT gr n las' wt' d' :: F) :=
  (rformat_ h hk hn hd log pages).mono (by rintro e w' ⟨rfl, d', h1, h2⟩; exact ⟨_, _, _, d', rfl, hk.fmt log pages, h1, h2⟩)
def MadeP (w : World) (e : Ending) (w' : World) : Prop := ∃ g gr L, e = .returned (.tuple #[.pointer (some ⟨g, 0, none⟩), .pointer (some ⟨gr, 0, none⟩)]) ∧ Dk 24 L (fun _ => none) ∧ Sep w w' [Dsk g L (fun _ => none), RT gr 24 L (fun _ => none) 0]
set_option maxHeartbeats 3200000 in
set_option maxRecDepth 100000 in
theorem made_ {A1 A2 : Option Addr} {n1 c1 n2 c2 : Nat} {tp cu : List Int} {w : World} (h1 : I64.C w A1 n1 tp) (h2 : I64.C w A2 n2 cu) :
    Calls Tryz.prog 13 #[.slice A1 n1 c1, .slice A2 n2 c2] w (MadeP w) := by
  have H1 := Aside0.mk h1
  have H2 := Aside0.mk h2
  clear h1 h2
  have HZ : Aside0 (Dk 24 (List.replicate (24 * 64) 0) (fun _ => none)) := ⟨⟨List.length_replicate, Ref.none_len, zeros_bytes _, Store.no_bytes⟩⟩
  go_enter Tryz.func13, Tryz.ntmps13
  go_wp2_with fail
  refine (Ref.newok_ (n := 24) (by decide) (by decide)).mono ?_
  rintro e w1 ⟨gr, rfl, hS1⟩
  obtain ⟨Z0, hZ0⟩ : ∃ z, List.replicate (24 * 64) (0 : Int) = z := ⟨_, rfl⟩
  rw [hZ0] at hS1 HZ
  have B1 : Aside0 (Sep w w1 [RT gr 24 Z0 (fun _ => none) 0]) := ⟨by
    show Sep w w1 [Ref.RD gr 24 Z0 (flushed Z0 (fun _ => none)) (Ref.waitL 24 (fun _ => none)) (-1) ((0 : Nat) : Int)]
    rw [flushed_none (n := 24) HZ.out.len, Ref.waitL_none]
    exact hS1⟩
  obtain ⟨gt, hgt⟩ : ∃ q, w1.heap.size = q := ⟨_, rfl⟩
  have B2 := Aside0.mk (tpx_shut (Int.le_refl 0) (B1.out.newBlk 56 #[.slice A1 n1 c1, .int .i64 0]))
  rw [hgt] at B2
  clear hS1 hZ0
  go_wp2_with fail
  clear hgt
  refine (nextX_ H1.out B2.out 9).mono ?_
  rintro e w3 ⟨r3, rfl, ho3, hS3⟩
  have B3 := Aside0.mk hS3
  have HO3 := Aside0.mk ho3
  clear hS3 ho3
  go_wp2_with fail
  refine (nextX_ H1.out B3.out 5).mono ?_
  rintro e w4 ⟨r4, rfl, ho4, hS4⟩
  have B4 := Aside0.mk hS4.at2
  have HO4 := Aside0.mk ho4
  clear hS4 ho4
  go_wp2_with fail
  refine (rformatX B4.out HZ.out (by decide) (by decide) _ _).mono ?_
  rintro e w5 ⟨er5, L5, wt5, d5, rfl, hk5, hd5, hS5⟩
  have HK5 := Aside0.mk hk5
  have HD5 := Aside0.mk hd5
  have B5 := Aside0.mk hS5
  clear hS5 hk5 hd5 HZ B4 B3 B2 B1
  rcases open_cases HK5.out (by decide) with ⟨er, hno⟩ | ⟨a, b, E, ha, hE⟩
  case inl =>
    have HNO := Aside0.mk hno
    clear hno
    go_wp2_with fail
    refine (ropen_nil B5.out HK5.out HNO.out).mono ?_
    rintro e w6 ⟨rfl, hS6⟩
    have B6 := Aside0.mk hS6.at2
    clear hS6
    go_wp2_with fail
    refine (nextX_ H1.out B6.out 6).mono ?_
    rintro e w7 ⟨r7, rfl, ho7, hS7⟩
    have B7 := Aside0.mk hS7.at2
    clear hS7
    go_wp2_with fail
    go_loopg [10] 1 (fun _ p wr => p = .int .i64 r7 ∧ w7 = wr)
    case atStart => exact ⟨rfl, rfl⟩
    case round =>
      obtain ⟨rfl, rfl⟩ := hrel
      by_cases hr : 0 < r7
      · go_wp2_with fail
        refine (Ref.rcrash_ (cuts := cu) B7.out (HK5.out).len (HK5.out).wl (fun W' h => Kd.C_below H2.out h.toBelow)).mono ?_
        rintro e w8 ⟨rfl, hS8⟩
        obtain ⟨LC, hLC⟩ : ∃ L, crashed L5 wt5 cu = L := ⟨_, rfl⟩
        have HDC := Aside0.mk ((HK5.out).crash cu)
        rw [hLC] at hS8 HDC
        obtain ⟨A8, c8, z8, hC8, hc8, _, _⟩ := rd_lasts hS8
        obtain ⟨N6, hN6⟩ : ∃ x, 64 * 24 = x := ⟨_, rfl⟩
        rw [hN6] at z8 hC8 hc8
        have HC8 := Aside0.mk (And.intro hC8 (And.intro hc8 hN6))
        have B8 := Aside0.mk hS8
        clear hS8 hLC hC8 hc8 hN6
        go_wp2_with fail
        refine (pair19_ HC8.out.1 HC8.out.2.1 HC8.out.2.2.symm (by decide) (by decide)).mono ?_
        rintro e w9 ⟨g9, gr9, rfl, hS9⟩
        have B9 := Aside0.mk (B8.out.lift hS9)
        clear hS9
        go_wp2_with fail
        go_ret2
        exact ⟨g9, gr9, LC, by first | rfl | (simp; done), HDC.out, Sep.weakR (L := [_, _]) B9.out⟩
      · go_wp2_with fail
        refine (Ref.rcrash_ (cuts := cu) B7.out (HK5.out).len (HK5.out).wl (fun W' h => Kd.C_below H2.out h.toBelow)).mono ?_
        rintro e w8 ⟨rfl, hS8⟩
        obtain ⟨LC, hLC⟩ : ∃ L, crashed L5 wt5 cu = L := ⟨_, rfl⟩
        have HDC := Aside0.mk ((HK5.out).crash cu)
        rw [hLC] at hS8 HDC
        obtain ⟨A8, c8, z8, hC8, hc8, _, _⟩ := rd_lasts hS8
        obtain ⟨N6, hN6⟩ : ∃ x, 64 * 24 = x := ⟨_, rfl⟩
        rw [hN6] at z8 hC8 hc8
        have HC8 := Aside0.mk (And.intro hC8 (And.intro hc8 hN6))
        have B8 := Aside0.mk hS8
        clear hS8 hLC hC8 hc8 hN6
        go_wp2_with fail
        refine (pair19_ HC8.out.1 HC8.out.2.1 HC8.out.2.2.symm (by decide) (by decide)).mono ?_
        rintro e w9 ⟨g9, gr9, rfl, hS9⟩
        have B9 := Aside0.mk (B8.out.lift hS9)
        clear hS9
        go_wp2_with fail
        go_ret2
        exact ⟨g9, gr9, LC, by first | rfl | (simp; done), HDC.out, Sep.weakR (L := [_, _]) B9.out⟩
  case inr =>
    have HA := Aside0.mk ha
    have HE := Aside0.mk hE
    have HST := Aside0.mk (ha.opened hE)
    clear ha hE
    go_wp2_with fail
    refine (ropen_all B5.out HA.out HE.out (by have := HD5.out; omega)).mono ?_
    rintro e w6 ⟨gx, rfl, d6, hd6, hS6⟩
    have HD6 := Aside0.mk hd6
    have B6 := Aside0.mk (Sep.pull [_, _] hS6)
    clear hS6 hd6
    go_wp2_with fail
    refine (nextX_ H1.out B6.out 6).mono ?_
    rintro e w7 ⟨r7, rfl, ho7, hS7⟩
    obtain ⟨R, hR⟩ := Int.eq_ofNat_of_zero_le ho7.1
    have hR6 : R < 6 := by have := ho7.2.1 (by decide); omega
    subst hR
    have C7 : Aside0 (∃ (ep : Int) (las : List Int) (c : Cm) (d : Nat), St 24 a b ep c.pages c.named c.nm c.used c.seq las c.wt ∧ c.seq + R ≤ 6 ∧ d + 100 * R ≤ 1600 ∧ Sep w w7 (TpX gt A1 n1 c1 :: RStB gx gr (a : Int) (b : Int) ep c.pages c.nm c.used c.seq :: RT gr 24 las c.wt d :: [])) :=
      ⟨_, _, ⟨_, [], List.replicate b false, 0, 0, fun _ => none⟩, d6, HST.out, by show 0 + R ≤ 6; omega, by have := HD6.out; have := HD5.out; omega, hS7⟩
    clear hS7 ho7
    go_wp2_with fail
    go_loopg [10] R (fun k_ p wr => p = .int .i64 (k_ : Int) ∧ ∃ (ep : Int) (las : List Int) (c : Cm) (d : Nat), St 24 a b ep c.pages c.named c.nm c.used c.seq las c.wt ∧ c.seq + k_ ≤ 6 ∧ d + 100 * k_ ≤ 1600 ∧ Sep w wr (TpX gt A1 n1 c1 :: RStB gx gr (a : Int) (b : Int) ep c.pages c.nm c.used c.seq :: RT gr 24 las c.wt d :: []))
    case atStart => exact ⟨rfl, C7.out⟩
    case round =>
      obtain ⟨rfl, ep, las, c, d, hst, hsq, hd, hS⟩ := hrel
      obtain ⟨w10, rfl⟩ : ∃ x, x = wr := ⟨_, rfl⟩
      have HS1 := Aside0.mk hst
      have HSQ := Aside0.mk (And.intro hsq hd)
      have AS := Aside0.mk hS
      clear hst hS C7
      by_cases hg : 0 < gk
      case neg =>
        obtain rfl : gk = 0 := by omega
        clear hsq hd
        go_wp2_with fail
        refine (Ref.rcrash_ (cuts := cu) (Sep.pull [_, _] AS.out) (HS1.out.dk).len (HS1.out.dk).wl (fun W' h => Kd.C_below H2.out h.toBelow)).mono ?_
        rintro e w8 ⟨rfl, hS8⟩
        obtain ⟨LC, hLC⟩ : ∃ L, crashed las c.wt cu = L := ⟨_, rfl⟩
        have HDC := Aside0.mk ((HS1.out.dk).crash cu)
        rw [hLC] at hS8 HDC
        obtain ⟨A8, c8, z8, hC8, hc8, _, _⟩ := rd_lasts hS8
        obtain ⟨N6, hN6⟩ : ∃ x, 64 * 24 = x := ⟨_, rfl⟩
        rw [hN6] at z8 hC8 hc8
        have HC8 := Aside0.mk (And.intro hC8 (And.intro hc8 hN6))
        have B8 := Aside0.mk hS8
        clear hS8 hLC hC8 hc8 hN6
        go_wp2_with fail
        refine (pair19_ HC8.out.1 HC8.out.2.1 HC8.out.2.2.symm (by decide) (by decide)).mono ?_
        rintro e w9 ⟨g9, gr9, rfl, hS9⟩
        have B9 := Aside0.mk (B8.out.lift hS9)
        clear hS9
        go_wp2_with fail
        go_ret2
        exact ⟨g9, gr9, LC, by first | rfl | (simp; done), HDC.out, Sep.weakR (L := [_, _]) B9.out⟩
      case pos =>
        have hgi : (0 : Int) < (gk : Int) := by omega
        have HGP := Aside0.mk hg
        have zb := rb2 AS.out.at2
        have hnu := HS1.out.nums
        have HNS : Aside0 (b ≤ 64 ∧ c.seq ≤ 1000 ∧ d ≤ 100000) := ⟨by omega⟩
        have hwk : wrap64 ((gk : Int) - 1) = ((gk - 1 : Nat) : Int) := by rw [IntWalk.wrap64_in _ (by omega)]; omega
        have HWK := Aside0.mk hwk
        clear hsq hd hnu hg hwk
        go_wp2_with fail
        refine (changesX_ H1.out AS.out b (by have := HNS.out; omega)).mono ?_
        rintro e w11 ⟨v11, l, rfl, hgd, hS11⟩
        obtain ⟨n3, hn3⟩ : ∃ n, l.length = n := ⟨_, rfl⟩
        obtain ⟨A11, c11, rfl⟩ := hS11.rowN hn3
        have HCM := Aside0.mk (HS1.out.cm hgd.2.1)
        have B11 := Aside0.mk (Sep.pull [_, _, _] (Sep.pull [_, _, _] hS11))
        obtain ⟨er, her⟩ : ∃ e, cmE (a : Int) (b : Int) c.used l = e := ⟨_, rfl⟩
        obtain ⟨cx, hcx⟩ : ∃ e, cmR 24 (a : Int) (b : Int) ep las c l = e := ⟨_, rfl⟩
        rw [hcx] at HCM
        have HER := Aside0.mk (And.intro her hcx)
        clear her hcx hS11 hgd zb hn3
        go_wp2_with fail
        refine (rcommit_ (c := c) (l := l) B11.out HS1.out HNS.out.2.1 (by have := HNS.out; omega) (fun W' hW => hW.rowC')).mono ?_
        rintro e w12 ⟨rfl, d12, hd12, hS12⟩
        rw [HER.out.2] at hS12
        have HD12 := Aside0.mk hd12
        have B12 := Aside0.mk (Sep.pull [_, _] (Sep.pull [_, _] hS12).tail)
        clear hS12 hd12
        go_wp2_with fail
        refine (nextX_ H1.out B12.out 3).mono ?_
        rintro e w13 ⟨r13, rfl, ho13, hS13⟩
        have B13 := Aside0.mk hS13
        clear hS13 ho13
        have hwk := HWK.out
        by_cases hr : r13 = 0
        · subst hr
          go_wp2_with fail
          refine (Ref.rflush_ (Sep.pull [_, _] B13.out) HCM.out.1.dk.len HCM.out.1.dk.wl (by have := HD12.out; have := HNS.out; omega)).mono ?_
          rintro e w14 ⟨rfl, hS14⟩
          have B14 := Aside0.mk (Sep.push [_, _] hS14)
          clear hS14
          go_wp2_with fail
          go_roundg (gk - 1)
          case measure => have := HGP.out; omega
          case rel => exact ⟨by first | rfl | (rw [hwk]) | simp [hwk], ep, flushed las cx.wt, ⟨cx.pages, cx.named, cx.nm, cx.used, cx.seq, fun _ => none⟩, d12 + 1, HCM.out.1.flush, by show cx.seq + (gk - 1) ≤ 6; have := HCM.out.2; have := HSQ.out; have := HGP.out; omega, by have := HD12.out; have := HSQ.out; have := HGP.out; omega, B14.out⟩
        · go_wp2_with fail
          go_roundg (gk - 1)
          case measure => have := HGP.out; omega
          case rel => exact ⟨by first | rfl | (rw [hwk]) | simp [hwk], ep, las, cx, d12, HCM.out.1, by have := HCM.out.2; have := HSQ.out; have := HGP.out; omega, by have := HD12.out; have := HSQ.out; have := HGP.out; omega, B13.out⟩
end
end Go.Proofs.YtjngnigelkgekaaGreat.Heal
namespace Go.Proofs.YtjngnigelkgekaaGreat.Heal
open Go.RowKit Go.Proofs.YtjngnigelkgekaaGreatW.PrintWords Go.Proofs.YtjngnigelkgekaaGreatW.PrintLast Go.Proofs.YtjngnigelkgekaaGreatW.PrintMore Go.Proofs.YtjngnigelkgekaaGreat.Kit Go.Proofs.YtjngnigelkgekaaGreat.Plain Go.Proofs.YtjngnigelkgekaaGreat.Disk Go.Proofs.YtjngnigelkgekaaGreat.Root
open Go.Proofs.YtjngnigelkgekaaGreat.Store (fmtL format_ok zz64 unroot_zeros Com noW no_bytes)
open Go.Proofs.YtjngnigelkgekaaGreat.RStore
open Go.Proofs.YtjngnigelkgekaaGreat.Deed
theorem sec_zeros {n j : Nat} (hj : j < n) : secF n (List.replicate (n * 64) 0) (fun _ => none) j = zz64 := by
  unfold secF
  rw [if_pos hj]
  show sec _ j = _
  unfold sec
  rw [List.drop_replicate, List.take_replicate]
  congr 1
  omega
theorem zeros_no {n : Nat} (hn : 2 ≤ n) : NoOpen n (List.replicate (n * 64) 0) (fun _ => none) 22 := .inl ⟨rfl, by
  show decide (0 < (pickF n (pickF n (0, 0, 0) (secF n (List.replicate (n * 64) 0) (fun _ => none) 0)) (secF n (List.replicate (n * 64) 0) (fun _ => none) 1)).2.2) = false
  rw [sec_zeros (by omega), sec_zeros (by omega)]
  unfold pickF
  rw [unroot_zeros]
  rfl⟩
theorem zeros_dk (n : Nat) : Dk n (List.replicate (n * 64) 0) (fun _ => none) := ⟨by rw [List.length_replicate, Nat.mul_comm], Ref.none_len, zeros_bytes _, no_bytes⟩
abbrev FL12 : List Int := fmtL 12 (List.replicate (12 * 64) 0) (fun _ => none) 3 2
theorem com12 : Com 12 3 2 1 (List.replicate 2 zz64) [] FL12 := Com.start List.length_replicate (zeros_bytes _) Ref.none_len no_bytes (by decide)
theorem any12 : Any 12 FL12 (fun _ => none) 3 2 1 := ⟨⟨com12.lay.len, Ref.none_len, com12.lay.byt, no_bytes⟩, by decide, com12.lay.best, com12.lay.right, by decide⟩
theorem ds12 : dsOf 12 FL12 (fun _ => none) = [none, none, rootD 3 2 1, none] := by
  rw [ds_any any12 (by decide)]
  have h1 : rowsG 12 3 2 1 FL12 (fun _ => none) = [] := com12.rows
  unfold keyL
  rw [h1]
  rfl
theorem run_ff {n : Nat} {L : List Int} (h : L.length = 64 * n) : runD (L, fun _ => none) [none, none] = (L, fun _ => none) := by
  show (flushed (flushed L (fun _ => none)) (fun _ => none), (fun _ => none : Wt)) = (L, fun _ => none)
  rw [flushed_none (n := n) h, flushed_none (n := n) h]
theorem run12 : runD (FL12, fun _ => none) ((dsOf 12 FL12 (fun _ => none)).take 2) = (FL12, fun _ => none) := by
  rw [ds12]
  exact run_ff (n := 12) com12.lay.len
section
variable {w0 W : World} {F : List HP} {g n : Nat} {las : List Int} {wt : Wt}
theorem hDeedsN {N : Nat} (h : Sep w0 W (Dsk g las wt :: F)) (hd : Dk n las wt) (hn : n ≤ 160) (hN : (dsOf n las wt).length = N) :
    Calls Tryz.prog 22 #[.pointer (some ⟨g, 0, none⟩)] W fun e w' => e = .returned (.int .i64 (N : Int)) ∧ Sep w0 w' (Dsk g las wt :: F) := by
  subst hN; exact hDeeds_ h hd hn
theorem hPartN {N k : Nat} {T : DS} (h : Sep w0 W (Dsk g las wt :: F)) (hd : Dk n las wt) (hn : n ≤ 160) (m : Int) (hN : (dsOf n las wt).length = N) (hk : partK m N = k) (hT : runD (las, wt) ((dsOf n las wt).take k) = T) :
    Calls Tryz.prog 23 #[.pointer (some ⟨g, 0, none⟩), .int .i64 m] W fun e w' => e = .returned (.int .i64 (k : Int)) ∧ Sep w0 w' (Dsk g T.1 T.2 :: F) := by
  subst hN; subst hk; subst hT; exact hPart_ h hd hn m
set_option maxHeartbeats 1600000 in
set_option maxRecDepth 100000 in
theorem known19_ (w : World) : Calls Tryz.prog 17 #[] w fun e w' => e = .returned (.bool true) ∧ Below w.heap.size w w' := by
  obtain ⟨Z, hZ⟩ : ∃ z, List.replicate (12 * 64) (0 : Int) = z := ⟨_, rfl⟩
  obtain ⟨FF, hFF⟩ : ∃ z, FL12 = z := ⟨_, rfl⟩
  have HZ : Aside0 (Dk 12 Z (fun _ => none) ∧ NoOpen 12 Z (fun _ => none) 22) := ⟨by rw [← hZ]; exact ⟨zeros_dk 12, zeros_no (by decide)⟩⟩
  have HF1 : Aside0 (fmtL 12 Z (fun _ => none) 3 2 = FF) := ⟨by rw [← hZ]; exact hFF⟩
  have HF2 : Aside0 (Dk 12 FF (fun _ => none) ∧ (dsOf 12 FF (fun _ => none)).length = 4 ∧ runD (FF, fun _ => none) ((dsOf 12 FF (fun _ => none)).take 2) = (FF, fun _ => none)) := ⟨by rw [← hFF]; exact ⟨any12.dk, by rw [ds12]; rfl, run12⟩⟩
  have HZE := Aside0.mk hZ
  clear hZ hFF
  go_enter Tryz.func17, Tryz.ntmps17
  go_wp2_with fail
  refine (Disk.new_ok (n := 12) (by decide) (by decide)).mono ?_
  rintro e w1 ⟨g, rfl, hS1⟩
  rw [HZE.out] at hS1
  have B1 := Aside0.mk hS1
  clear hS1
  go_wp2_with fail
  refine (hDeedsN (N := 0) B1.out HZ.out.1 (by decide) (by rw [ds_no HZ.out.2]; rfl)).mono ?_
  rintro e w2 ⟨rfl, hS2⟩
  have B2 := Aside0.mk hS2
  clear hS2
  go_wp2_with fail
  refine (hPartN (N := 0) (k := 0) (T := (Z, fun _ => none)) B2.out HZ.out.1 (by decide) 5 (by rw [ds_no HZ.out.2]; rfl) (by decide) (by rw [ds_no HZ.out.2]; rfl)).mono ?_
  rintro e w3 ⟨rfl, hS3⟩
  have B3 : Aside0 (Sep w w3 (Dsk g Z (fun _ => none) :: [])) := ⟨hS3⟩
  clear hS3
  go_wp2_with fail
  refine (hDeeds_nil _).mono ?_
  rintro e w4 ⟨rfl, hb4⟩
  have B4 := Aside0.mk (B3.out.below hb4)
  clear hb4
  go_wp2_with fail
  refine (format_ok (n := 12) B4.out HZ.out.1.len (by decide) Ref.none_len 3 2 (by decide)).mono ?_
  rintro e w5 ⟨rfl, hS5⟩
  rw [HF1.out] at hS5
  have B5 := Aside0.mk hS5
  clear hS5
  go_wp2_with fail
  refine (hDeedsN (N := 4) B5.out HF2.out.1 (by decide) HF2.out.2.1).mono ?_
  rintro e w6 ⟨rfl, hS6⟩
  have B6 := Aside0.mk hS6
  clear hS6
  go_wp2_with fail
  refine (hPartN (N := 4) (k := 0) (T := (FF, fun _ => none)) B6.out HF2.out.1 (by decide) 0 HF2.out.2.1 (by decide) rfl).mono ?_
  rintro e w7 ⟨rfl, hS7⟩
  have B7 : Aside0 (Sep w w7 (Dsk g FF (fun _ => none) :: [])) := ⟨hS7⟩
  clear hS7
  go_wp2_with fail
  refine (hPartN (N := 4) (k := 2) (T := (FF, fun _ => none)) B7.out HF2.out.1 (by decide) 2 HF2.out.2.1 (by decide) HF2.out.2.2).mono ?_
  rintro e w8 ⟨rfl, hS8⟩
  have B8 : Aside0 (Sep w w8 (Dsk g FF (fun _ => none) :: [])) := ⟨hS8⟩
  clear hS8
  go_wp2_with fail
  refine (hPartN (N := 4) (k := 4) B8.out HF2.out.1 (by decide) 99 HF2.out.2.1 (by decide) rfl).mono ?_
  rintro e w9 ⟨rfl, hS9⟩
  have B9 := Aside0.mk hS9
  clear hS9
  go_wp2_with fail
  go_ret
  exact ⟨by first | rfl | (simp; done), B9.out.toBelow⟩
end
end Go.Proofs.YtjngnigelkgekaaGreat.Heal
namespace Go.Proofs.YtjngnigelkgekaaGreat.Heal
open Go.RowKit Go.Proofs.YtjngnigelkgekaaGreatW.PrintWords Go.Proofs.YtjngnigelkgekaaGreatW.PrintLast Go.Proofs.YtjngnigelkgekaaGreatW.PrintMore Go.Proofs.YtjngnigelkgekaaGreat.Kit Go.Proofs.YtjngnigelkgekaaGreat.Plain Go.Proofs.YtjngnigelkgekaaGreat.Disk Go.Proofs.YtjngnigelkgekaaGreat.Root
open Go.Proofs.YtjngnigelkgekaaGreat.RStore
open Go.Proofs.YtjngnigelkgekaaGreat.Deed
open Go.Proofs.YtjngnigelkgekaaGreat.Home (RT RTL pair19_ pair19_none)
theorem infoB9 : (Tryz.prog.info? 5).map (fun i => (i.zero, i.size, i.bytes)) = some (some (.int .u8 0), 1, 1) := by kernel_rfl
set_option maxHeartbeats 6400000 in
set_option maxRecDepth 100000 in
theorem healTells_ {A0 A1 A2 A3 : Option Addr} {n0 c0 n1 c1 n2 c2 n3 c3 : Nat} {im tp cu ag : List Int} {nn mm : Int} {w : World} (h1 : I64.C w A1 n1 tp) (h2 : I64.C w A2 n2 cu) (h3 : I64.C w A3 n3 ag) (h0 : U8.C w A0 n0 im) (hc0 : n0 ≤ c0) (hb0 : Bytes im) :
    Calls Tryz.prog 5 #[.slice A1 n1 c1, .slice A2 n2 c2, .int .i64 nn, .int .i64 mm, .slice A3 n3 c3, .slice A0 n0 c0] w fun e w' => e = .returned (.bool true) ∧ Below w.heap.size w w' := by
  have H0 := Aside0.mk (And.intro h0 (And.intro hc0 hb0))
  have H1 := Aside0.mk h1
  have H2 := Aside0.mk h2
  have H3 := Aside0.mk h3
  have hcut : 640 ≤ n0 → ∀ W : World, (Instr.slice 24 (.slice A0 n0 c0) none (some (.int .i64 640)) none).run Tryz.prog W = .ok (.slice A0 640 c0) W := fun hn W => cutHi Tryz.underlying24 infoB9 A0 n0 c0 640 rfl hn hc0 W
  have HCUT := Aside0.mk hcut
  clear h0 hc0 hb0 h1 h2 h3 hcut
  go_enter Tryz.func5, Tryz.ntmps5
  go_wp2_with fail
  refine (made_ H1.out H2.out).mono ?_
  rintro e w1 ⟨g, gr, L, rfl, hk1, hS1⟩
  have HK1 := Aside0.mk hk1
  have B1 := Aside0.mk hS1
  clear hk1 hS1
  go_wp2_with fail
  refine (Book.within_ nn (-1) 12 _ (by decide) (by decide) (by decide)).mono ?_
  rintro e w2 ⟨rfl, rfl⟩
  obtain ⟨a, ha⟩ : ∃ a, Book.withinF nn (-1) 12 = a := ⟨_, rfl⟩
  rw [ha]
  clear ha
  go_wp2_with fail
  refine (same19_ B1.out HK1.out (by decide) (by decide) a).mono ?_
  rintro e w3 ⟨rfl, L3, wt3, d3, hk3, hd3, hS3⟩
  have HK3 := Aside0.mk hk3
  have HD3 := Aside0.mk hd3
  have B3 := Aside0.mk hS3
  clear hk3 hd3 hS3
  go_wp2_with fail
  refine (Disk.crash_ (cuts := ag) B3.out (fun W' h => Kd.C_below H3.out h.toBelow)).mono ?_
  rintro e w4 ⟨rfl, hS4⟩
  obtain ⟨LC, hLC⟩ : ∃ x, crashed L3 wt3 ag = x := ⟨_, rfl⟩
  have HLC := Aside0.mk hLC
  have HKC := Aside0.mk (HK3.out.crash ag)
  rw [hLC] at hS4 HKC
  have B4 := Aside0.mk hS4.at2
  clear hS4 hLC
  go_wp2_with fail
  refine (Ref.rcrash_ (cuts := ag) B4.out HK3.out.len HK3.out.wl (fun W' h => Kd.C_below H3.out h.toBelow)).mono ?_
  rintro e w5 ⟨rfl, hS5⟩
  rw [HLC.out] at hS5
  have B5 : Aside0 (Sep w w5 [Dsk g LC (fun _ => none), RT gr 24 LC (fun _ => none) d3]) := ⟨hS5.at2⟩
  clear hS5
  go_wp2_with fail
  refine (Book.within_ mm (-1) 12 _ (by decide) (by decide) (by decide)).mono ?_
  rintro e w6 ⟨rfl, rfl⟩
  obtain ⟨b, hb⟩ : ∃ a, Book.withinF mm (-1) 12 = a := ⟨_, rfl⟩
  rw [hb]
  clear hb
  go_wp2_with fail
  refine (same19_ B5.out HKC.out (by decide) (by have := HD3.out; omega) b).mono ?_
  rintro e w7 ⟨rfl, L7, wt7, d7, hk7, hd7, hS7⟩
  have HK7 := Aside0.mk hk7
  have HD7 := Aside0.mk hd7
  have B7 := Aside0.mk hS7
  clear hk7 hd7 hS7
  go_wp2_with fail
  refine (same19_ B7.out HK7.out (by decide) (by have := HD3.out; have := HD7.out; omega) nn).mono ?_
  rintro e w8 ⟨rfl, L8, wt8, d8, hk8, hd8, hS8⟩
  have B8 := Aside0.mk hS8
  clear hk8 hd8 hS8
  go_upto_if 53 with fail
  go_cut [5] from 18 (fun v wx => ∃ (n4 : Nat) (im4 : List Int), v = .slice A0 n4 c0 ∧ U8.C w A0 n4 im4 ∧ n4 ≤ c0 ∧ Bytes im4 ∧ w8 = wx)
  case first =>
    by_cases hn : 640 < n0
    · have hni : (640 : Int) < (n0 : Int) := by omega
      have hq := HCUT.out (by omega)
      have HN := Aside0.mk hn
      clear hn
      go_wp2_with fail
      go_meet
      case rel => exact ⟨640, im.take 640, rfl, C_hi H0.out.1 (by have := HN.out; omega) H0.out.2.1, by have := HN.out; have := H0.out.2.1; omega, H0.out.2.2.take _, rfl⟩
    · have hni : ¬ (640 : Int) < (n0 : Int) := by omega
      clear hn
      go_wp2_with fail
      go_meet
      case rel => exact ⟨n0, im, rfl, H0.out.1, H0.out.2.1, H0.out.2.2, rfl⟩
  case rest =>
  obtain ⟨n4, im4, rfl, hC4, hc4, hb4, rfl⟩ := hcut
  have H4 := Aside0.mk (And.intro (Kd.C_below hC4 B8.out.toBelow) (And.intro hc4 hb4))
  clear hC4 hc4 hb4
  by_cases hbad : n4 = 0 ∨ n4 % 64 ≠ 0 ∨ 10240 < n4
  case pos =>
    have HBD := Aside0.mk hbad
    clear hbad
    go_wp2_with fail
    refine (pair19_none H4.out.1 HBD.out).mono ?_
    rintro e w9 ⟨rfl, rfl⟩
    go_wp2_with fail
    refine (known19_ _).mono ?_
    rintro e w10 ⟨rfl, hb10⟩
    have B10 := Aside0.mk (B8.out.below hb10)
    clear hb10
    go_wp2_with fail
    go_ret
    exact ⟨by first | rfl | (simp; done), B10.out.toBelow⟩
  case neg =>
  obtain ⟨n, hn4⟩ : ∃ n, n4 = 64 * n := ⟨n4 / 64, by omega⟩
  have HNU : Aside0 (1 ≤ n ∧ n ≤ 160 ∧ n4 = 64 * n) := ⟨by omega⟩
  have HDK : Aside0 (Dk n im4 (fun _ => none)) := ⟨⟨H4.out.1.1.trans hn4, Ref.none_len, H4.out.2.2, Store.no_bytes⟩⟩
  clear hbad hn4
  go_wp2_with fail
  refine (pair19_ H4.out.1 H4.out.2.1 HNU.out.2.2 HNU.out.1 HNU.out.2.1).mono ?_
  rintro e w9 ⟨g9, gr9, rfl, hS9⟩
  have B9 := Aside0.mk (B8.out.lift hS9)
  clear hS9
  go_wp2_with fail
  refine (same19_ B9.out HDK.out HNU.out.2.1 (by decide) nn).mono ?_
  rintro e w10 ⟨rfl, L10, wt10, d10, hk10, hd10, hS10⟩
  have B10 := Aside0.mk hS10
  clear hk10 hd10 hS10
  go_wp2_with fail
  refine (known19_ _).mono ?_
  rintro e w11 ⟨rfl, hb11⟩
  have B11 := Aside0.mk (B10.out.below hb11)
  clear hb11
  go_wp2_with fail
  go_ret
  exact ⟨by first | rfl | (simp; done), B11.out.toBelow⟩
end Go.Proofs.YtjngnigelkgekaaGreat.Heal
namespace Go.Proofs.YtjngnigelkgekaaGreat.Kit
open Go.ChangeShapes Go.WideShapes Go.ChangeAt Go.RowKit Go.Proofs.YtjngnigelkgekaaGreatW.PrintWords
section
variable {H : Type} {enc : TypeId × Value → H} {P : Program} {W : World} {base : Nat} {sp : Nat → Bool} {held : Bool}
theorem ints_C {T E : TypeId} {k : IntKind} {a : Option Addr} {len cap : Nat} {d : DataW H} {p : List MemPlace} (hT : P.underlying T = some (.slice E)) (hE : P.underlying E = some (.int k)) (hc : P.cellsOf E = 1)
    (h : DataW.Trod enc P W base (fun _ => true) held T (.slice a len cap) d p) : ∃ xs : List Int, len ≤ cap ∧ (Kd.int k).C W a len xs ∧ ∀ n ∈ xs, (Lit.int k n).wf = true := by
  obtain ⟨fuel, hf⟩ := h
  rcases open_ints hT hE hc hf with ⟨hcs, _⟩ | ⟨x, l, c, zs, hcs, _, hl, hm, hz, _, hcell, hwz⟩
  · simp [Value.cells] at hcs
    obtain ⟨rfl, rfl, rfl⟩ := hcs
    exact ⟨[], Nat.le_refl _, Kd.C_nil _ _, by simp⟩
  · simp [Value.cells] at hcs
    obtain ⟨rfl, rfl, rfl⟩ := hcs
    simp at hz
    simp only [maxLen] at hm
    refine ⟨zs.take len, hl, Kd.C_of_reads (d := (0 : Int)) (h1 := fun _ => rfl) ⟨by rw [List.length_take]; omega, by omega, fun h0 => ⟨x, rfl, fun j hj => ?_⟩⟩, fun n hn => hwz n (List.mem_of_mem_take hn)⟩
    rw [hcell j (by omega), List.getD_eq_getElem?_getD, List.getD_eq_getElem?_getD, List.getElem?_take, if_pos hj]
end
end Go.Proofs.YtjngnigelkgekaaGreat.Kit
namespace Go.Proofs.YtjngnigelkgekaaGreat.Kit
open Go.ChangeShapes Go.WideShapes Go.ChangeAt Go.RowKit Go.Proofs.YtjngnigelkgekaaGreatW.PrintWords
theorem add_twice (a : Addr) (m j : Nat) : (a.add m).add j = a.add (m + j) := by
  unfold Addr.add
  by_cases h1 : m = 0
  · subst h1; simp
  · by_cases h2 : j = 0
    · subst h2; simp
    · simp [h1, h2]; omega
theorem C_each {α : Type} {d : Kd α} {W : World} {A : Option Addr} {n : Nat} (hn : n ≤ 9223372036854775807) {Q : α → Prop}
    (h : ∀ i, i < n → ∃ (ad : Addr) (x : α) (cs : List Value), A = some ad ∧ cs.length = d.sz ∧ d.K W x cs ∧ Q x ∧ ∀ (j : Nat) u, cs[j]? = some u → W.cell? (ad.add (i * d.sz + j)) = some u) : ∃ xs : List α, d.C W A n xs ∧ ∀ x ∈ xs, Q x := by
  have hm : ∀ m, m ≤ n → ∃ xs : List α, xs.length = m ∧ ∀ (i : Nat) x, xs[i]? = some x → Q x ∧ ∃ (ad : Addr) (cs : List Value), A = some ad ∧ cs.length = d.sz ∧ d.K W x cs ∧ ∀ (j : Nat) u, cs[j]? = some u → W.cell? (ad.add (i * d.sz + j)) = some u := by
    intro m
    induction m with
    | zero => exact fun _ => ⟨[], rfl, fun i x hx => by simp at hx⟩
    | succ m ih =>
      intro hle
      obtain ⟨xs, hl, hx⟩ := ih (by omega)
      obtain ⟨ad, x, cs, h1, h2, h3, h4, h5⟩ := h m (by omega)
      refine ⟨xs ++ [x], by simp [hl], fun i y hy => ?_⟩
      by_cases hi : i < m
      · rw [List.getElem?_append_left (by omega)] at hy
        exact hx i y hy
      · have : i = m := by
          have := (List.getElem?_eq_some_iff.1 hy).1
          simp [hl] at this; omega
        subst this
        rw [List.getElem?_append_right (by omega), hl, Nat.sub_self] at hy
        simp at hy
        subst hy
        exact ⟨h4, ad, cs, h1, h2, h3, h5⟩
  obtain ⟨xs, hl, hx⟩ := hm n (Nat.le_refl _)
  refine ⟨xs, ⟨hl, hn, fun hp => ?_⟩, fun x hm => ?_⟩
  · obtain ⟨ad, _, _, e, _⟩ := h 0 hp
    refine ⟨ad, e, fun j x hj => ?_⟩
    obtain ⟨_, ad2, cs, e2, h2, h3, h5⟩ := hx j x hj
    rw [e] at e2
    cases e2
    exact ⟨cs, h2, h3, h5⟩
  · obtain ⟨i, hi⟩ := List.getElem?_of_mem hm
    exact (hx i x hi).1
section
variable {H : Type} {enc : TypeId × Value → H} {P : Program} {W : World} {base : Nat} {held : Bool}
theorem slice_cell {α : Type} {T E : TypeId} {d : Kd α} {Q : α → Prop} {fuel : Nat} {v : Value} {y : DataW H × List MemPlace} (hT : P.underlying T = some (.slice E)) (hc : P.cellsOf E = d.sz)
    (hK : ∀ (cs : List Value) (fuel : Nat) (y : DataW H × List MemPlace), cs.length = d.sz → DataW.trod enc P W base (fun _ => true) held fuel E cs = some y → ∃ x, d.K W x cs ∧ Q x)
    (h : DataW.trod enc P W base (fun _ => true) held fuel T [v] = some y) : ∃ A m c xs, v = .slice A m c ∧ m ≤ c ∧ d.C W A m xs ∧ ∀ x ∈ xs, Q x := by
  rcases Go.Deep.open_slice hT h with ⟨hcs, _⟩ | ⟨x, l, c, m, n, D, Pl, hcs, hb, hl, hm, hmm, hx, hi⟩
  · exact ⟨none, 0, 0, [], (List.cons.inj hcs).1, Nat.le_refl _, Kd.C_nil _ _, by simp⟩
  · simp at hmm
    simp only [maxLen] at hm
    obtain ⟨xs, h1, h2⟩ := C_each (d := d) (W := W) (A := some x) (n := l) (Q := Q) (by omega) (fun i hlt => by
      obtain ⟨cs', hc', ht'⟩ := hi i (by omega)
      obtain ⟨_, hcl, hat⟩ := World.cells?_some hc'
      rw [hc] at hcl hat
      obtain ⟨z, hz, hQ⟩ := hK cs' _ _ hcl ht'
      refine ⟨x, z, cs', rfl, hcl, hz, hQ, fun j u hj => ?_⟩
      have hjl := (List.getElem?_eq_some_iff.1 hj).1
      have := hat j (by omega)
      rw [add_twice, hj] at this
      exact this)
    exact ⟨some x, l, c, xs, (List.cons.inj hcs).1, hl, h1, h2⟩
theorem slice_open {α : Type} {T E : TypeId} {d : Kd α} {Q : α → Prop} {a : Option Addr} {len cap : Nat} {dd : DataW H} {p : List MemPlace} (hT : P.underlying T = some (.slice E)) (hc : P.cellsOf E = d.sz)
    (hK : ∀ (cs : List Value) (fuel : Nat) (y : DataW H × List MemPlace), cs.length = d.sz → DataW.trod enc P W base (fun _ => true) held fuel E cs = some y → ∃ x, d.K W x cs ∧ Q x)
    (h : DataW.Trod enc P W base (fun _ => true) held T (.slice a len cap) dd p) : ∃ xs : List α, len ≤ cap ∧ d.C W a len xs ∧ ∀ x ∈ xs, Q x := by
  obtain ⟨fuel, hf⟩ := h
  obtain ⟨A, m, c, xs, e, h1, h2, h3⟩ := slice_cell hT hc hK (v := .slice a len cap) hf
  cases e
  exact ⟨xs, h1, h2, h3⟩
theorem int_cell {T : TypeId} {k : IntKind} {fuel : Nat} {cs : List Value} {y : DataW H × List MemPlace} (hT : P.underlying T = some (.int k)) (h : DataW.trod enc P W base (fun _ => true) held fuel T cs = some y) : ∃ n, (Kd.int k).K W n cs ∧ (Lit.int k n).wf = true := by
  obtain ⟨n, h1, _, h2⟩ := DataW.trod_int hT h
  exact ⟨n, h1, h2⟩
end
end Go.Proofs.YtjngnigelkgekaaGreat.Kit
namespace Go.Proofs.YtjngnigelkgekaaGreat.RStore
open Go.ChangeShapes Go.WideShapes Go.ChangeAt Go.RowKit Go.Proofs.YtjngnigelkgekaaGreatW.PrintWords Go.Proofs.YtjngnigelkgekaaGreat.Kit Go.Proofs.YtjngnigelkgekaaGreat.Plain
open Go.Proofs.YtjngnigelkgekaaGreat.Delta (Chg KC)
theorem u8wf_ {x : Int} (h : (Lit.int .u8 x).wf = true) : 0 ≤ x ∧ x ≤ 255 := by
  simp only [Lit.wf, IntKind.min, IntKind.max, IntKind.signed, IntKind.bits, Bool.and_eq_true] at h
  simp at h; omega
section
variable {H : Type} {enc : TypeId × Value → H} {W : World} {base : Nat} {held : Bool}
theorem bytes18_open {a : Option Addr} {len cap : Nat} {d : DataW H} {p : List MemPlace} (h : DataW.Trod enc Tryz.prog W base (fun _ => true) held 24 (.slice a len cap) d p) : ∃ xs : List Int, len ≤ cap ∧ (Kd.int .u8).C W a len xs ∧ Bytes xs := by
  refine slice_open (d := Kd.int .u8) (Q := fun x => 0 ≤ x ∧ x ≤ 255) Tryz.underlying24 (by kernel_rfl) (fun cs fuel y hl ht => ?_) h
  obtain ⟨n, e, hw⟩ := int_cell Tryz.underlying5 ht
  exact ⟨n, e, u8wf_ hw⟩
end
end Go.Proofs.YtjngnigelkgekaaGreat.RStore
namespace Go.Proofs.YtjngnigelkgekaaGreatW.PrintWords
end Go.Proofs.YtjngnigelkgekaaGreatW.PrintWords
