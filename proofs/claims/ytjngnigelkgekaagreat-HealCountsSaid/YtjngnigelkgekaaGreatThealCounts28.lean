/- StFmt2, StCm, Heal5, Heal6: what HealCounts needs. -/
import Derived.Test.YtjngnigelkgekaaGreatThealCounts27
set_option linter.unusedVariables false
set_option linter.unusedSimpArgs false
namespace Go.Proofs.YtjngnigelkgekaaGreat.RStore
open Go.RowKit Go.Proofs.YtjngnigelkgekaaGreatW.PrintWords Go.Proofs.YtjngnigelkgekaaGreatW.PrintLast Go.Proofs.YtjngnigelkgekaaGreatW.PrintMore Go.Proofs.YtjngnigelkgekaaGreat.Kit Go.Proofs.YtjngnigelkgekaaGreat.Plain Go.Proofs.YtjngnigelkgekaaGreat.Disk Go.Proofs.YtjngnigelkgekaaGreat.Root
open Go.Proofs.YtjngnigelkgekaaGreat.Store (fmtL fmt_len format_bad format_ok putsW_bytes putsW_len zz64 no_bytes)
open Go.Proofs.YtjngnigelkgekaaGreat.Home (RT RTL)
open Go.Proofs.YtjngnigelkgekaaGreat.Deed
def fmtE (n : Nat) (log pages : Int) : Int := if rightR log pages 1 n = true then 0 else 25
def fmtS (n : Nat) (las : List Int) (wt : Wt) (log pages : Int) : DS := if rightR log pages 1 n = true then (fmtL n las wt log.toNat pages.toNat, fun _ => none) else (las, wt)
theorem zz_bytes : Bytes zz64 := fun x hx => by
  have := List.eq_of_mem_replicate hx
  omega
theorem Dk.fmt {n : Nat} {las : List Int} {wt : Wt} (h : Dk n las wt) (log pages : Int) : Dk n (fmtS n las wt log pages).1 (fmtS n las wt log pages).2 := by
  unfold fmtS
  split
  · refine ⟨fmt_len h.len h.wl, Ref.none_len, ?_, no_bytes⟩
    show Bytes (fmtL n las wt log.toNat pages.toNat)
    unfold fmtL
    exact Redo.flushed_bytes (Redo.flushed_bytes (Redo.flushed_bytes h.byt (putsW_bytes zz_bytes 2 h.wb)) (putsW_bytes zz_bytes _ no_bytes)) (putW_bytes no_bytes (rootF_bytes _ _ _))
  · exact h
section
variable {w0 W : World} {F : List HP} {g gr n d : Nat} {las : List Int} {wt : Wt}
theorem rformat_ (h : Sep w0 W (RT gr n las wt d :: F)) (hk : Dk n las wt) (hn : n ≤ 160) (hd : d ≤ 1000000) (log pages : Int) :
    Calls Tryz.prog 39 #[.pointer (some ⟨gr, 0, none⟩), .int .i64 log, .int .i64 pages] W fun e w' => e = .returned (.int .i64 (fmtE n log pages)) ∧ ∃ d' : Nat, d' ≤ d + 200 ∧ Sep w0 w' (RT gr n (fmtS n las wt log pages).1 (fmtS n las wt log pages).2 d' :: F) := by
  unfold fmtE fmtS
  cases hr : rightR log pages 1 n with
  | false =>
    rw [if_neg (by decide), if_neg (by decide)]
    exact (rformat_bad h log pages hr).mono (by rintro e w' ⟨rfl, hS⟩; exact ⟨rfl, d, by omega, hS⟩)
  | true =>
    have h1 := of_decide_eq_true hr
    obtain ⟨a, rfl⟩ := Int.eq_ofNat_of_zero_le (show 0 ≤ log by omega)
    obtain ⟨b, rfl⟩ := Int.eq_ofNat_of_zero_le (show 0 ≤ pages by omega)
    rw [if_pos rfl, if_pos rfl, Int.toNat_natCast, Int.toNat_natCast]
    exact (rformat_ok h hk.len hn hk.wl hd a b hr).mono (by rintro e w' ⟨rfl, hS⟩; exact ⟨rfl, _, by omega, hS⟩)
end
end Go.Proofs.YtjngnigelkgekaaGreat.RStore
namespace Go.Proofs.YtjngnigelkgekaaGreat.RStore
open Go.RowKit Go.Proofs.YtjngnigelkgekaaGreatW.PrintWords Go.Proofs.YtjngnigelkgekaaGreatW.PrintLast Go.Proofs.YtjngnigelkgekaaGreatW.PrintMore Go.Proofs.YtjngnigelkgekaaGreat.Kit Go.Proofs.YtjngnigelkgekaaGreat.Plain Go.Proofs.YtjngnigelkgekaaGreat.Disk Go.Proofs.YtjngnigelkgekaaGreat.Root
open Go.Proofs.YtjngnigelkgekaaGreat.Delta (Chg KC deltaF rightF)
open Go.Proofs.YtjngnigelkgekaaGreat.Store (KP StB applyF insAll commit_bad commit_full commit_ok fitsF)
open Go.Proofs.YtjngnigelkgekaaGreat.Home (RT RTL)
open Go.Proofs.YtjngnigelkgekaaGreat.Redo (appR sizeF)
open Go.Proofs.YtjngnigelkgekaaGreat.Frame (frameF)
structure Cm where
  pages : List (List Int)
  named : List Int
  nm : List Bool
  used : Nat
  seq : Nat
  wt : Wt
def cmE (a b : Int) (used : Nat) (l : List Chg) : Int := if rightF l b = true then (if fitsF a used l.length = true then 0 else 24) else 1
def cmR (n : Nat) (a b ep : Int) (las : List Int) (c : Cm) (l : List Chg) : Cm :=
  if rightF l b = true then (if fitsF a c.used l.length = true then ⟨applyF c.pages l, insAll c.named l, nmF c.nm l, c.used + (18 + 66 * l.length), c.seq + 1, appR n las c.wt a b ep (c.used : Int) (frameF ep (c.seq : Int) (deltaF l))⟩ else c) else c
section
variable {n a b : Nat} {ep : Int} {las : List Int} {c : Cm}
theorem St.cm {l : List Chg} (h : St n a b ep c.pages c.named c.nm c.used c.seq las c.wt) (hB : ∀ x ∈ l, Bytes x.2) : St n a b ep (cmR n a b ep las c l).pages (cmR n a b ep las c l).named (cmR n a b ep las c l).nm (cmR n a b ep las c l).used (cmR n a b ep las c l).seq las (cmR n a b ep las c l).wt ∧ (cmR n a b ep las c l).seq ≤ c.seq + 1 := by
  unfold cmR
  split
  · rename_i hr
    split
    · rename_i hf
      exact ⟨h.commit hr hf hB, Nat.le_refl _⟩
    · exact ⟨h, Nat.le_succ _⟩
  · exact ⟨h, Nat.le_succ _⟩
end
section
variable {w0 W : World} {F : List HP} {g gr gs gx m n a b : Nat} {ep : Int} {las : List Int} {c : Cm}
theorem rcommit_ {d : Nat} {A2 : Option Addr} {n2 c2 : Nat} {l : List Chg} (h : Sep w0 W (RStB gx gr (a : Int) (b : Int) ep c.pages c.nm c.used c.seq :: RT gr n las c.wt d :: F)) (hs : St n a b ep c.pages c.named c.nm c.used c.seq las c.wt) (hq : c.seq ≤ 1000) (hd : d ≤ 900000) (hC : ∀ W', Sep w0 W' F → KC.C W' A2 n2 l) :
    Calls Tryz.prog 43 #[.pointer (some ⟨gx, 0, none⟩), .slice A2 n2 c2] W fun e w' => e = .returned (.int .i64 (cmE a b c.used l)) ∧ ∃ d' : Nat, d' ≤ d + 64 ∧ Sep w0 w' (RStB gx gr (a : Int) (b : Int) ep (cmR n a b ep las c l).pages (cmR n a b ep las c l).nm (cmR n a b ep las c l).used (cmR n a b ep las c l).seq :: RT gr n las (cmR n a b ep las c l).wt d' :: F) := by
  have hC0 := hC W h.tail.tail
  obtain rfl : l.length = n2 := hC0.1
  have hnu := hs.nums
  unfold cmE cmR
  cases hr : rightF l (b : Int) with
  | false =>
    rw [if_neg (by decide), if_neg (by decide)]
    exact (rcommit_bad h hC0 hr).mono (by rintro e w' ⟨rfl, hS⟩; exact ⟨rfl, d, by omega, hS⟩)
  | true =>
    rw [if_pos rfl, if_pos rfl]
    cases hf : fitsF (a : Int) c.used l.length with
    | false =>
      rw [if_neg (by decide), if_neg (by decide)]
      exact (rcommit_full h hC0 hr hs.us hf).mono (by rintro e w' ⟨rfl, hS⟩; exact ⟨rfl, d, by omega, hS⟩)
    | true =>
      rw [if_pos rfl, if_pos rfl]
      exact rcommit_ok h hs.dk.len hs.n160 hd hs.dk.wl hC hr hs.us hf ⟨by omega, hs.e32⟩ (by omega) (by rw [hs.pl])
end
end Go.Proofs.YtjngnigelkgekaaGreat.RStore
namespace Go.Proofs.YtjngnigelkgekaaGreat.Heal
open Go.RowKit Go.Proofs.YtjngnigelkgekaaGreatW.PrintWords Go.Proofs.YtjngnigelkgekaaGreatW.PrintLast Go.Proofs.YtjngnigelkgekaaGreatW.PrintMore Go.Proofs.YtjngnigelkgekaaGreat.Kit Go.Proofs.YtjngnigelkgekaaGreat.Plain Go.Proofs.YtjngnigelkgekaaGreat.Disk Go.Proofs.YtjngnigelkgekaaGreat.Root
open Go.Proofs.YtjngnigelkgekaaGreat.Delta (Chg KC)
open Go.Proofs.YtjngnigelkgekaaGreat.RStore
open Go.Proofs.YtjngnigelkgekaaGreat.Deed
open Go.Proofs.YtjngnigelkgekaaGreat.Home (RT RTL pair19_)
open Go.Proofs.YtjngnigelkgekaaGreat.Redo (TpX tpx_shut changesX_ nextX_)
section
variable {w0 W : World} {F : List HP} {gr g n : Nat} {las : List Int} {wt : Wt}
theorem rb2 {gx : Nat} {a b ep : Int} {pages : List (List Int)} {nm : List Bool} {used seq : Nat} (h : Sep w0 W (RStB gx gr a b ep pages nm used seq :: F)) : W.cell? ⟨gx, 2, none⟩ = some (.int .i64 b) := by
  obtain ⟨_, gp, cp, gn, cn, hs⟩ := rstb_open h
  exact (hs.cell 2).trans rfl
theorem rformatX {d : Nat} (h : Sep w0 W (RT gr n las wt d :: F)) (hk : Dk n las wt) (hn : n ≤ 160) (hd : d ≤ 1000000) (log pages : Int) :
    Calls Tryz.prog 39 #[.pointer (some ⟨gr, 0, none⟩), .int .i64 log, .int .i64 pages] W fun e w' => ∃ er las' wt' d', e = .returned (.int .i64 er) ∧ Dk n las' wt' ∧ d' ≤ d + 200 ∧ Sep w0 w' (RT gr n las' wt' d' :: F) :=
  (rformat_ h hk hn hd log pages).mono (by rintro e w' ⟨rfl, d', h1, h2⟩; exact ⟨_, _, _, d', rfl, hk.fmt log pages, h1, h2⟩)
def MadeP (w : World) (e : Ending) (w' : World) : Prop := ∃ g gr L, e = .returned (.tuple #[.pointer (some ⟨g, 0, none⟩), .pointer (some ⟨gr, 0, none⟩)]) ∧ Dk 24 L (fun _ => none) ∧ Sep w w' [Dsk g L (fun _ => none), RT gr 24 L (fun _ => none) 0]
set_option maxHeartbeats 3200000 in
set_option maxRecDepth 100000 in
theorem made_ {A1 A2 : Option Addr} {n1 c1 n2 c2 : Nat} {tp cu : List Int} {w : World} (h1 : I64.C w A1 n1 tp) (h2 : I64.C w A2 n2 cu) :
    Calls Tryz.prog 13 #[.slice A1 n1 c1, .slice A2 n2 c2] w (MadeP w) := by
  have H1 := Aside0.mk h1
  have H2 := Aside0.mk h2
  clear h1 h2
  have HZ : Aside0 (Dk 24 (List.replicate (24 * 64) 0) (fun _ => none)) := ⟨⟨List.length_replicate, Ref.none_len, zeros_bytes _, Store.no_bytes⟩⟩
  go_enter Tryz.func13, Tryz.ntmps13
  go_wp2_with fail
  refine (Ref.newok_ (n := 24) (by decide) (by decide)).mono ?_
  rintro e w1 ⟨gr, rfl, hS1⟩
  obtain ⟨Z0, hZ0⟩ : ∃ z, List.replicate (24 * 64) (0 : Int) = z := ⟨_, rfl⟩
  rw [hZ0] at hS1 HZ
  have B1 : Aside0 (Sep w w1 [RT gr 24 Z0 (fun _ => none) 0]) := ⟨by
    show Sep w w1 [Ref.RD gr 24 Z0 (flushed Z0 (fun _ => none)) (Ref.waitL 24 (fun _ => none)) (-1) ((0 : Nat) : Int)]
    rw [flushed_none (n := 24) HZ.out.len, Ref.waitL_none]
    exact hS1⟩
  obtain ⟨gt, hgt⟩ : ∃ q, w1.heap.size = q := ⟨_, rfl⟩
  have B2 := Aside0.mk (tpx_shut (Int.le_refl 0) (B1.out.newBlk 56 #[.slice A1 n1 c1, .int .i64 0]))
  rw [hgt] at B2
  clear hS1 hZ0
  go_wp2_with fail
  clear hgt
  refine (nextX_ H1.out B2.out 9).mono ?_
  rintro e w3 ⟨r3, rfl, ho3, hS3⟩
  have B3 := Aside0.mk hS3
  have HO3 := Aside0.mk ho3
  clear hS3 ho3
  go_wp2_with fail
  refine (nextX_ H1.out B3.out 5).mono ?_
  rintro e w4 ⟨r4, rfl, ho4, hS4⟩
  have B4 := Aside0.mk hS4.at2
  have HO4 := Aside0.mk ho4
  clear hS4 ho4
  go_wp2_with fail
  refine (rformatX B4.out HZ.out (by decide) (by decide) _ _).mono ?_
  rintro e w5 ⟨er5, L5, wt5, d5, rfl, hk5, hd5, hS5⟩
  have HK5 := Aside0.mk hk5
  have HD5 := Aside0.mk hd5
  have B5 := Aside0.mk hS5
  clear hS5 hk5 hd5 HZ B4 B3 B2 B1
  rcases open_cases HK5.out (by decide) with ⟨er, hno⟩ | ⟨a, b, E, ha, hE⟩
  case inl =>
    have HNO := Aside0.mk hno
    clear hno
    go_wp2_with fail
    refine (ropen_nil B5.out HK5.out HNO.out).mono ?_
    rintro e w6 ⟨rfl, hS6⟩
    have B6 := Aside0.mk hS6.at2
    clear hS6
    go_wp2_with fail
    refine (nextX_ H1.out B6.out 6).mono ?_
    rintro e w7 ⟨r7, rfl, ho7, hS7⟩
    have B7 := Aside0.mk hS7.at2
    clear hS7
    go_wp2_with fail
    go_loopg [10] 1 (fun _ p wr => p = .int .i64 r7 ∧ w7 = wr)
    case atStart => exact ⟨rfl, rfl⟩
    case round =>
      obtain ⟨rfl, rfl⟩ := hrel
      by_cases hr : 0 < r7
      · go_wp2_with fail
        refine (Ref.rcrash_ (cuts := cu) B7.out (HK5.out).len (HK5.out).wl (fun W' h => Kd.C_below H2.out h.toBelow)).mono ?_
        rintro e w8 ⟨rfl, hS8⟩
        obtain ⟨LC, hLC⟩ : ∃ L, crashed L5 wt5 cu = L := ⟨_, rfl⟩
        have HDC := Aside0.mk ((HK5.out).crash cu)
        rw [hLC] at hS8 HDC
        obtain ⟨A8, c8, z8, hC8, hc8, _, _⟩ := rd_lasts hS8
        obtain ⟨N6, hN6⟩ : ∃ x, 64 * 24 = x := ⟨_, rfl⟩
        rw [hN6] at z8 hC8 hc8
        have HC8 := Aside0.mk (And.intro hC8 (And.intro hc8 hN6))
        have B8 := Aside0.mk hS8
        clear hS8 hLC hC8 hc8 hN6
        go_wp2_with fail
        refine (pair19_ HC8.out.1 HC8.out.2.1 HC8.out.2.2.symm (by decide) (by decide)).mono ?_
        rintro e w9 ⟨g9, gr9, rfl, hS9⟩
        have B9 := Aside0.mk (B8.out.lift hS9)
        clear hS9
        go_wp2_with fail
        go_ret2
        exact ⟨g9, gr9, LC, by first | rfl | (simp; done), HDC.out, Sep.weakR (L := [_, _]) B9.out⟩
      · go_wp2_with fail
        refine (Ref.rcrash_ (cuts := cu) B7.out (HK5.out).len (HK5.out).wl (fun W' h => Kd.C_below H2.out h.toBelow)).mono ?_
        rintro e w8 ⟨rfl, hS8⟩
        obtain ⟨LC, hLC⟩ : ∃ L, crashed L5 wt5 cu = L := ⟨_, rfl⟩
        have HDC := Aside0.mk ((HK5.out).crash cu)
        rw [hLC] at hS8 HDC
        obtain ⟨A8, c8, z8, hC8, hc8, _, _⟩ := rd_lasts hS8
        obtain ⟨N6, hN6⟩ : ∃ x, 64 * 24 = x := ⟨_, rfl⟩
        rw [hN6] at z8 hC8 hc8
        have HC8 := Aside0.mk (And.intro hC8 (And.intro hc8 hN6))
        have B8 := Aside0.mk hS8
        clear hS8 hLC hC8 hc8 hN6
        go_wp2_with fail
        refine (pair19_ HC8.out.1 HC8.out.2.1 HC8.out.2.2.symm (by decide) (by decide)).mono ?_
        rintro e w9 ⟨g9, gr9, rfl, hS9⟩
        have B9 := Aside0.mk (B8.out.lift hS9)
        clear hS9
        go_wp2_with fail
        go_ret2
        exact ⟨g9, gr9, LC, by first | rfl | (simp; done), HDC.out, Sep.weakR (L := [_, _]) B9.out⟩
  case inr =>
    have HA := Aside0.mk ha
    have HE := Aside0.mk hE
    have HST := Aside0.mk (ha.opened hE)
    clear ha hE
    go_wp2_with fail
    refine (ropen_all B5.out HA.out HE.out (by have := HD5.out; omega)).mono ?_
    rintro e w6 ⟨gx, rfl, d6, hd6, hS6⟩
    have HD6 := Aside0.mk hd6
    have B6 := Aside0.mk (Sep.pull [_, _] hS6)
    clear hS6 hd6
    go_wp2_with fail
    refine (nextX_ H1.out B6.out 6).mono ?_
    rintro e w7 ⟨r7, rfl, ho7, hS7⟩
    obtain ⟨R, hR⟩ := Int.eq_ofNat_of_zero_le ho7.1
    have hR6 : R < 6 := by have := ho7.2.1 (by decide); omega
    subst hR
    have C7 : Aside0 (∃ (ep : Int) (las : List Int) (c : Cm) (d : Nat), St 24 a b ep c.pages c.named c.nm c.used c.seq las c.wt ∧ c.seq + R ≤ 6 ∧ d + 100 * R ≤ 1600 ∧ Sep w w7 (TpX gt A1 n1 c1 :: RStB gx gr (a : Int) (b : Int) ep c.pages c.nm c.used c.seq :: RT gr 24 las c.wt d :: [])) :=
      ⟨_, _, ⟨_, [], List.replicate b false, 0, 0, fun _ => none⟩, d6, HST.out, by show 0 + R ≤ 6; omega, by have := HD6.out; have := HD5.out; omega, hS7⟩
    clear hS7 ho7
    go_wp2_with fail
    go_loopg [10] R (fun k_ p wr => p = .int .i64 (k_ : Int) ∧ ∃ (ep : Int) (las : List Int) (c : Cm) (d : Nat), St 24 a b ep c.pages c.named c.nm c.used c.seq las c.wt ∧ c.seq + k_ ≤ 6 ∧ d + 100 * k_ ≤ 1600 ∧ Sep w wr (TpX gt A1 n1 c1 :: RStB gx gr (a : Int) (b : Int) ep c.pages c.nm c.used c.seq :: RT gr 24 las c.wt d :: []))
    case atStart => exact ⟨rfl, C7.out⟩
    case round =>
      obtain ⟨rfl, ep, las, c, d, hst, hsq, hd, hS⟩ := hrel
      obtain ⟨w10, rfl⟩ : ∃ x, x = wr := ⟨_, rfl⟩
      have HS1 := Aside0.mk hst
      have HSQ := Aside0.mk (And.intro hsq hd)
      have AS := Aside0.mk hS
      clear hst hS C7
      by_cases hg : 0 < gk
      case neg =>
        obtain rfl : gk = 0 := by omega
        clear hsq hd
        go_wp2_with fail
        refine (Ref.rcrash_ (cuts := cu) (Sep.pull [_, _] AS.out) (HS1.out.dk).len (HS1.out.dk).wl (fun W' h => Kd.C_below H2.out h.toBelow)).mono ?_
        rintro e w8 ⟨rfl, hS8⟩
        obtain ⟨LC, hLC⟩ : ∃ L, crashed las c.wt cu = L := ⟨_, rfl⟩
        have HDC := Aside0.mk ((HS1.out.dk).crash cu)
        rw [hLC] at hS8 HDC
        obtain ⟨A8, c8, z8, hC8, hc8, _, _⟩ := rd_lasts hS8
        obtain ⟨N6, hN6⟩ : ∃ x, 64 * 24 = x := ⟨_, rfl⟩
        rw [hN6] at z8 hC8 hc8
        have HC8 := Aside0.mk (And.intro hC8 (And.intro hc8 hN6))
        have B8 := Aside0.mk hS8
        clear hS8 hLC hC8 hc8 hN6
        go_wp2_with fail
        refine (pair19_ HC8.out.1 HC8.out.2.1 HC8.out.2.2.symm (by decide) (by decide)).mono ?_
        rintro e w9 ⟨g9, gr9, rfl, hS9⟩
        have B9 := Aside0.mk (B8.out.lift hS9)
        clear hS9
        go_wp2_with fail
        go_ret2
        exact ⟨g9, gr9, LC, by first | rfl | (simp; done), HDC.out, Sep.weakR (L := [_, _]) B9.out⟩
      case pos =>
        have hgi : (0 : Int) < (gk : Int) := by omega
        have HGP := Aside0.mk hg
        have zb := rb2 AS.out.at2
        have hnu := HS1.out.nums
        have HNS : Aside0 (b ≤ 64 ∧ c.seq ≤ 1000 ∧ d ≤ 100000) := ⟨by omega⟩
        have hwk : wrap64 ((gk : Int) - 1) = ((gk - 1 : Nat) : Int) := by rw [IntWalk.wrap64_in _ (by omega)]; omega
        have HWK := Aside0.mk hwk
        clear hsq hd hnu hg hwk
        go_wp2_with fail
        refine (changesX_ H1.out AS.out b (by have := HNS.out; omega)).mono ?_
        rintro e w11 ⟨v11, l, rfl, hgd, hS11⟩
        obtain ⟨n3, hn3⟩ : ∃ n, l.length = n := ⟨_, rfl⟩
        obtain ⟨A11, c11, rfl⟩ := hS11.rowN hn3
        have HCM := Aside0.mk (HS1.out.cm hgd.2.1)
        have B11 := Aside0.mk (Sep.pull [_, _, _] (Sep.pull [_, _, _] hS11))
        obtain ⟨er, her⟩ : ∃ e, cmE (a : Int) (b : Int) c.used l = e := ⟨_, rfl⟩
        obtain ⟨cx, hcx⟩ : ∃ e, cmR 24 (a : Int) (b : Int) ep las c l = e := ⟨_, rfl⟩
        rw [hcx] at HCM
        have HER := Aside0.mk (And.intro her hcx)
        clear her hcx hS11 hgd zb hn3
        go_wp2_with fail
        refine (rcommit_ (c := c) (l := l) B11.out HS1.out HNS.out.2.1 (by have := HNS.out; omega) (fun W' hW => hW.rowC')).mono ?_
        rintro e w12 ⟨rfl, d12, hd12, hS12⟩
        rw [HER.out.2] at hS12
        have HD12 := Aside0.mk hd12
        have B12 := Aside0.mk (Sep.pull [_, _] (Sep.pull [_, _] hS12).tail)
        clear hS12 hd12
        go_wp2_with fail
        refine (nextX_ H1.out B12.out 3).mono ?_
        rintro e w13 ⟨r13, rfl, ho13, hS13⟩
        have B13 := Aside0.mk hS13
        clear hS13 ho13
        have hwk := HWK.out
        by_cases hr : r13 = 0
        · subst hr
          go_wp2_with fail
          refine (Ref.rflush_ (Sep.pull [_, _] B13.out) HCM.out.1.dk.len HCM.out.1.dk.wl (by have := HD12.out; have := HNS.out; omega)).mono ?_
          rintro e w14 ⟨rfl, hS14⟩
          have B14 := Aside0.mk (Sep.push [_, _] hS14)
          clear hS14
          go_wp2_with fail
          go_roundg (gk - 1)
          case measure => have := HGP.out; omega
          case rel => exact ⟨by first | rfl | (rw [hwk]) | simp [hwk], ep, flushed las cx.wt, ⟨cx.pages, cx.named, cx.nm, cx.used, cx.seq, fun _ => none⟩, d12 + 1, HCM.out.1.flush, by show cx.seq + (gk - 1) ≤ 6; have := HCM.out.2; have := HSQ.out; have := HGP.out; omega, by have := HD12.out; have := HSQ.out; have := HGP.out; omega, B14.out⟩
        · go_wp2_with fail
          go_roundg (gk - 1)
          case measure => have := HGP.out; omega
          case rel => exact ⟨by first | rfl | (rw [hwk]) | simp [hwk], ep, las, cx, d12, HCM.out.1, by have := HCM.out.2; have := HSQ.out; have := HGP.out; omega, by have := HD12.out; have := HSQ.out; have := HGP.out; omega, B13.out⟩
end
end Go.Proofs.YtjngnigelkgekaaGreat.Heal
namespace Go.Proofs.YtjngnigelkgekaaGreat.Heal
open Go.RowKit Go.Proofs.YtjngnigelkgekaaGreatW.PrintWords Go.Proofs.YtjngnigelkgekaaGreatW.PrintLast Go.Proofs.YtjngnigelkgekaaGreatW.PrintMore Go.Proofs.YtjngnigelkgekaaGreat.Kit Go.Proofs.YtjngnigelkgekaaGreat.Plain Go.Proofs.YtjngnigelkgekaaGreat.Disk Go.Proofs.YtjngnigelkgekaaGreat.Root
open Go.Proofs.YtjngnigelkgekaaGreat.Store (fmtL format_ok zz64 unroot_zeros Com noW no_bytes)
open Go.Proofs.YtjngnigelkgekaaGreat.RStore
open Go.Proofs.YtjngnigelkgekaaGreat.Deed
theorem sec_zeros {n j : Nat} (hj : j < n) : secF n (List.replicate (n * 64) 0) (fun _ => none) j = zz64 := by
  unfold secF
  rw [if_pos hj]
  show sec _ j = _
  unfold sec
  rw [List.drop_replicate, List.take_replicate]
  congr 1
  omega
theorem zeros_no {n : Nat} (hn : 2 ≤ n) : NoOpen n (List.replicate (n * 64) 0) (fun _ => none) 22 := .inl ⟨rfl, by
  show decide (0 < (pickF n (pickF n (0, 0, 0) (secF n (List.replicate (n * 64) 0) (fun _ => none) 0)) (secF n (List.replicate (n * 64) 0) (fun _ => none) 1)).2.2) = false
  rw [sec_zeros (by omega), sec_zeros (by omega)]
  unfold pickF
  rw [unroot_zeros]
  rfl⟩
theorem zeros_dk (n : Nat) : Dk n (List.replicate (n * 64) 0) (fun _ => none) := ⟨by rw [List.length_replicate, Nat.mul_comm], Ref.none_len, zeros_bytes _, no_bytes⟩
abbrev FL12 : List Int := fmtL 12 (List.replicate (12 * 64) 0) (fun _ => none) 3 2
theorem com12 : Com 12 3 2 1 (List.replicate 2 zz64) [] FL12 := Com.start List.length_replicate (zeros_bytes _) Ref.none_len no_bytes (by decide)
theorem any12 : Any 12 FL12 (fun _ => none) 3 2 1 := ⟨⟨com12.lay.len, Ref.none_len, com12.lay.byt, no_bytes⟩, by decide, com12.lay.best, com12.lay.right, by decide⟩
theorem ds12 : dsOf 12 FL12 (fun _ => none) = [none, none, rootD 3 2 1, none] := by
  rw [ds_any any12 (by decide)]
  have h1 : rowsG 12 3 2 1 FL12 (fun _ => none) = [] := com12.rows
  unfold keyL
  rw [h1]
  rfl
theorem run_ff {n : Nat} {L : List Int} (h : L.length = 64 * n) : runD (L, fun _ => none) [none, none] = (L, fun _ => none) := by
  show (flushed (flushed L (fun _ => none)) (fun _ => none), (fun _ => none : Wt)) = (L, fun _ => none)
  rw [flushed_none (n := n) h, flushed_none (n := n) h]
theorem run12 : runD (FL12, fun _ => none) ((dsOf 12 FL12 (fun _ => none)).take 2) = (FL12, fun _ => none) := by
  rw [ds12]
  exact run_ff (n := 12) com12.lay.len
section
variable {w0 W : World} {F : List HP} {g n : Nat} {las : List Int} {wt : Wt}
theorem hDeedsN {N : Nat} (h : Sep w0 W (Dsk g las wt :: F)) (hd : Dk n las wt) (hn : n ≤ 160) (hN : (dsOf n las wt).length = N) :
    Calls Tryz.prog 22 #[.pointer (some ⟨g, 0, none⟩)] W fun e w' => e = .returned (.int .i64 (N : Int)) ∧ Sep w0 w' (Dsk g las wt :: F) := by
  subst hN; exact hDeeds_ h hd hn
theorem hPartN {N k : Nat} {T : DS} (h : Sep w0 W (Dsk g las wt :: F)) (hd : Dk n las wt) (hn : n ≤ 160) (m : Int) (hN : (dsOf n las wt).length = N) (hk : partK m N = k) (hT : runD (las, wt) ((dsOf n las wt).take k) = T) :
    Calls Tryz.prog 23 #[.pointer (some ⟨g, 0, none⟩), .int .i64 m] W fun e w' => e = .returned (.int .i64 (k : Int)) ∧ Sep w0 w' (Dsk g T.1 T.2 :: F) := by
  subst hN; subst hk; subst hT; exact hPart_ h hd hn m
set_option maxHeartbeats 1600000 in
set_option maxRecDepth 100000 in
theorem known19_ (w : World) : Calls Tryz.prog 17 #[] w fun e w' => e = .returned (.bool true) ∧ Below w.heap.size w w' := by
  obtain ⟨Z, hZ⟩ : ∃ z, List.replicate (12 * 64) (0 : Int) = z := ⟨_, rfl⟩
  obtain ⟨FF, hFF⟩ : ∃ z, FL12 = z := ⟨_, rfl⟩
  have HZ : Aside0 (Dk 12 Z (fun _ => none) ∧ NoOpen 12 Z (fun _ => none) 22) := ⟨by rw [← hZ]; exact ⟨zeros_dk 12, zeros_no (by decide)⟩⟩
  have HF1 : Aside0 (fmtL 12 Z (fun _ => none) 3 2 = FF) := ⟨by rw [← hZ]; exact hFF⟩
  have HF2 : Aside0 (Dk 12 FF (fun _ => none) ∧ (dsOf 12 FF (fun _ => none)).length = 4 ∧ runD (FF, fun _ => none) ((dsOf 12 FF (fun _ => none)).take 2) = (FF, fun _ => none)) := ⟨by rw [← hFF]; exact ⟨any12.dk, by rw [ds12]; rfl, run12⟩⟩
  have HZE := Aside0.mk hZ
  clear hZ hFF
  go_enter Tryz.func17, Tryz.ntmps17
  go_wp2_with fail
  refine (Disk.new_ok (n := 12) (by decide) (by decide)).mono ?_
  rintro e w1 ⟨g, rfl, hS1⟩
  rw [HZE.out] at hS1
  have B1 := Aside0.mk hS1
  clear hS1
  go_wp2_with fail
  refine (hDeedsN (N := 0) B1.out HZ.out.1 (by decide) (by rw [ds_no HZ.out.2]; rfl)).mono ?_
  rintro e w2 ⟨rfl, hS2⟩
  have B2 := Aside0.mk hS2
  clear hS2
  go_wp2_with fail
  refine (hPartN (N := 0) (k := 0) (T := (Z, fun _ => none)) B2.out HZ.out.1 (by decide) 5 (by rw [ds_no HZ.out.2]; rfl) (by decide) (by rw [ds_no HZ.out.2]; rfl)).mono ?_
  rintro e w3 ⟨rfl, hS3⟩
  have B3 : Aside0 (Sep w w3 (Dsk g Z (fun _ => none) :: [])) := ⟨hS3⟩
  clear hS3
  go_wp2_with fail
  refine (hDeeds_nil _).mono ?_
  rintro e w4 ⟨rfl, hb4⟩
  have B4 := Aside0.mk (B3.out.below hb4)
  clear hb4
  go_wp2_with fail
  refine (format_ok (n := 12) B4.out HZ.out.1.len (by decide) Ref.none_len 3 2 (by decide)).mono ?_
  rintro e w5 ⟨rfl, hS5⟩
  rw [HF1.out] at hS5
  have B5 := Aside0.mk hS5
  clear hS5
  go_wp2_with fail
  refine (hDeedsN (N := 4) B5.out HF2.out.1 (by decide) HF2.out.2.1).mono ?_
  rintro e w6 ⟨rfl, hS6⟩
  have B6 := Aside0.mk hS6
  clear hS6
  go_wp2_with fail
  refine (hPartN (N := 4) (k := 0) (T := (FF, fun _ => none)) B6.out HF2.out.1 (by decide) 0 HF2.out.2.1 (by decide) rfl).mono ?_
  rintro e w7 ⟨rfl, hS7⟩
  have B7 : Aside0 (Sep w w7 (Dsk g FF (fun _ => none) :: [])) := ⟨hS7⟩
  clear hS7
  go_wp2_with fail
  refine (hPartN (N := 4) (k := 2) (T := (FF, fun _ => none)) B7.out HF2.out.1 (by decide) 2 HF2.out.2.1 (by decide) HF2.out.2.2).mono ?_
  rintro e w8 ⟨rfl, hS8⟩
  have B8 : Aside0 (Sep w w8 (Dsk g FF (fun _ => none) :: [])) := ⟨hS8⟩
  clear hS8
  go_wp2_with fail
  refine (hPartN (N := 4) (k := 4) B8.out HF2.out.1 (by decide) 99 HF2.out.2.1 (by decide) rfl).mono ?_
  rintro e w9 ⟨rfl, hS9⟩
  have B9 := Aside0.mk hS9
  clear hS9
  go_wp2_with fail
  go_ret
  exact ⟨by first | rfl | (simp; done), B9.out.toBelow⟩
end
end Go.Proofs.YtjngnigelkgekaaGreat.Heal
