/- HealS, Heal5, HealMade, StKnown2, HealTwice, Open, OpenRow, OpenInts, WSized: what HealTwice needs. -/
import Derived.Test.YtjngnigelkgekaaGreatThealTwice23
import Derived.Deep.Cut
import Derived.Deep.CutRange
import Derived.Test.YtjngnigelkgekaaGreatProg
import Derived.WalkKit
import Derived.ProofKit
import Derived.OpenShut
import Derived.ShutString
import Derived.ChangeOld
import Derived.Below
import Derived.SizedLaws
import Derived.Deep.Slices
import Derived.ChangeSame
import Derived.ChangeArms
import Derived.ChangeSlices
set_option linter.unusedVariables false
set_option linter.unusedSimpArgs false
namespace Go.Proofs.YtjngnigelkgekaaGreat.Heal
open Go.RowKit Go.Proofs.YtjngnigelkgekaaGreatW.PrintWords Go.Proofs.YtjngnigelkgekaaGreatW.PrintLast Go.Proofs.YtjngnigelkgekaaGreatW.PrintMore Go.Proofs.YtjngnigelkgekaaGreat.Kit Go.Proofs.YtjngnigelkgekaaGreat.Plain Go.Proofs.YtjngnigelkgekaaGreat.Disk Go.Proofs.YtjngnigelkgekaaGreat.Root
open Go.Proofs.YtjngnigelkgekaaGreat.Delta (Chg deltaF)
open Go.Proofs.YtjngnigelkgekaaGreat.Store (Lay noW rowsF shownF openL chkL lay_fmt fmtL zz64 sortK sortK_perm crash_sec crash_mix m32_nat homeW_at homeW homeW_len Off off_none pgAll)
open Go.Proofs.YtjngnigelkgekaaGreat.Home (atF)
open Go.Proofs.YtjngnigelkgekaaGreat.Redo (appR appW appW_flushed logF logF_of)
open Go.Proofs.YtjngnigelkgekaaGreat.Frame (frameF frameF_len)
open Go.Proofs.YtjngnigelkgekaaGreat.RStore
open Go.Proofs.YtjngnigelkgekaaGreat.Deed
theorem crashed_no {n : Nat} {L : List Int} (h : L.length = 64 * n) (cuts : List Int) : crashed L noW cuts = L := by
  unfold crashed
  rw [show L.length / 64 = n by omega]
  exact secs_self h
section
variable {n a b : Nat} {E : Int} {P : List (List Int)} {L las : List Int} {wt : Wt}
theorem lg_zero {E : Int} (hE : 0 ≤ E) (h : sec L 2 = zz64) : Lg L E := by
  have hg : ∀ j, j < 64 → L[128 + j]? = some 0 := fun j hj => by
    have h1 := sec_get L 2 j hj
    rw [h, List.getElem?_replicate, if_pos hj] at h1
    exact h1.symm
  exact ⟨hg 0 (by decide), hg 1 (by decide), hg 2 (by decide), 0, hg 3 (by decide), hE⟩
theorem fmt_cases (log pages : Int) : (fmtS 24 (List.replicate (24 * 64) 0) (fun _ => none) log pages).2 = noW ∧ ((∃ er, NoOpen 24 (fmtS 24 (List.replicate (24 * 64) 0) (fun _ => none) log pages).1 noW er) ∨ ∃ (a b : Nat) (P : List (List Int)), HL0 24 a b 1 P (fmtS 24 (List.replicate (24 * 64) 0) (fun _ => none) log pages).1) := by
  unfold fmtS
  cases hr : rightR log pages 1 (24 : Nat) with
  | false =>
    rw [if_neg (by decide)]
    exact ⟨rfl, .inl ⟨22, zeros_no (by decide)⟩⟩
  | true =>
    rw [if_pos rfl]
    have h1 := of_decide_eq_true hr
    obtain ⟨a, rfl⟩ := Int.eq_ofNat_of_zero_le (show 0 ≤ log by omega)
    obtain ⟨b, rfl⟩ := Int.eq_ofNat_of_zero_le (show 0 ≤ pages by omega)
    have h2 := lay_fmt (zeros_dk 24).len (zeros_dk 24).byt (zeros_dk 24).wl (zeros_dk 24).wb hr
    refine ⟨rfl, .inr ⟨a, b, _, h2.1, lg_zero (by decide) (h2.2 0 (by omega)), rfl⟩⟩
theorem open_other (h : Lay n a b E L) : sec (openL n a b E L) (E % 2).toNat = sec L (E % 2).toNat := by
  have hr := h.rgt
  have hs := h.shown
  obtain ⟨q, hqd⟩ : ∃ q, (E % 2).toNat = q := ⟨_, rfl⟩
  obtain ⟨p, hpd⟩ : ∃ p, ((E + 1) % 2).toNat = p := ⟨_, rfl⟩
  have hpq : p < 2 ∧ q < 2 ∧ q ≠ p := by omega
  have hp1 : ∀ k : Nat, k < b → ((shownF n a b E L).getD k []).length = 64 := fun k hk => by
    rw [List.getD_eq_getElem?_getD, List.getElem?_eq_getElem (by omega)]
    exact (hs.2 _ (List.getElem_mem _)).1
  have hks : ∀ k ∈ sortK (Store.openN (rowsF n a b E L)), 0 ≤ k ∧ k < (b : Int) := fun k h2 => by
    refine Store.nmAll_mem (P := fun k => 0 ≤ k ∧ k < (b : Int)) (fun k hk => by cases hk) (fun x hx c hc => ?_) k (Store.openN_mem.1 ((sortK_perm _).mem_iff.2 h2))
    have := (h.rows.2 x hx).2 c hc
    exact ⟨this.1, this.2.1⟩
  have hW := homeW_at h.right hp1 _ noW hks q
  rw [if_neg (by rintro ⟨k, hk, he⟩; have := hks k hk; unfold atF at he; omega)] at hW
  have hWl := homeW_len (n := n) (a := (a : Int)) (b := (b : Int)) (c := E) (pages := shownF n a b E L) (sortK (Store.openN (rowsF n a b E L))) Ref.none_len
  have l1 := Ref.flushed_len h.len hWl
  rw [hqd]
  show sec (chkL n L noW (a : Int) (b : Int) E (shownF n a b E L) (Store.openN (rowsF n a b E L))) q = _
  unfold chkL
  rw [flushed_none h.len, hpd, Ref.sec_flushed l1 (putW_len Ref.none_len) (by omega)]
  have hpw : putW n (fun _ => none) p (rootF (m32 (a : Int)) (m32 (b : Int)) (E + 1)) q = none := by
    unfold putW
    split
    · exact if_neg hpq.2.2
    · rfl
  rw [hpw]
  show sec (flushed L _) q = _
  rw [Ref.sec_flushed h.len hWl (by omega), hW]
  rfl
theorem HL0.opened (h : HL0 n a b E P L) (hE : E ≤ 200) : HL n a b (E + 1) P (openL n a b E L) := by
  have hr := h.lay.rgt
  have ho := open_other h.lay
  have hsh := h.sh
  obtain ⟨h1, h2, h3⟩ := h.lay.opened (by omega)
  obtain ⟨L2, hL2⟩ : ∃ x, openL n a b E L = x := ⟨_, rfl⟩
  rw [hL2] at h1 h2 h3 ho ⊢
  have hat : ∀ j, j < 64 → L2[128 + j]? = L[128 + j]? := fun j hj => by
    rw [logF_of h1.len Ref.none_len h1.right, logF_of h.lay.len Ref.none_len h.lay.right, flushed_none h1.len, flushed_none h.lay.len] at h3
    have h4 := congrArg (fun l => l[j]?) h3
    simp only [List.getElem?_drop, List.getElem?_take] at h4
    rw [if_pos (by omega), if_pos (by omega)] at h4
    exact h4
  have hlg : Lg L2 E := by
    obtain ⟨g0, g1, g2, v, g3, hv⟩ := h.lg
    exact ⟨(hat 0 (by decide)).trans g0, (hat 1 (by decide)).trans g1, (hat 2 (by decide)).trans g2, v, (hat 3 (by decide)).trans g3, hv⟩
  refine ⟨⟨h1, hlg.le (by omega), ?_⟩, E, .inl (by omega), ?_⟩
  · show pgAll _ (rowsF n a b (E + 1) L2) = P
    rw [rows_new h1 hlg (by omega), h2]
    exact hsh
  · rw [show ((E + 1 + 1) % 2).toNat = (E % 2).toNat by omega, ho, h.lay.rt]
    exact rootF_take _ _ _
structure CW (n a b : Nat) (used : Nat) (las : List Int) (wt : Wt) : Prop where
  lay : Lay n a b 2 las
  os : (sec las 1).take 16 = headR (a : Int) (b : Int) 1
  off : Off a wt
  l1 : Lg las 2
  l2 : Lg (flushed las wt) 2
  us : used = 0 ∨ 4 ≤ used
theorem HL.cw (h : HL n a b 2 P L) (hos : (sec L 1).take 16 = headR (a : Int) (b : Int) 1) : CW n a b 0 L noW := by
  refine ⟨h.h0.lay, hos, off_none a, h.h0.lg, ?_, .inl rfl⟩
  rw [flushed_none h.h0.lay.len]
  exact h.h0.lg
theorem CW.flush {used : Nat} (h : CW n a b used las wt) (hd : Dk n las wt) : CW n a b used (flushed las wt) noW := by
  have hr := h.lay.rgt
  have hf := hd.flush
  have hs : ∀ i, i < 2 → sec (flushed las wt) i = sec las i := fun i hi => by
    rw [Ref.sec_flushed hd.len hd.wl (by omega), h.off i (.inl hi)]; rfl
  refine ⟨⟨hf.len, hf.byt, hr, by rw [hs _ (by decide)]; exact h.lay.rt, by rw [hs _ (by decide)]; exact h.lay.ot⟩, by rw [hs _ (by decide)]; exact h.os, off_none a, h.l2, ?_, h.us⟩
  rw [flushed_none hf.len]
  exact h.l2
theorem lg_over {x : List Int} {used : Nat} (hlen : 192 ≤ L.length) (h : Lg L 2) (hu : used = 0 ∨ 4 ≤ used) (hfit : 128 + used + x.length ≤ L.length) (hx : x[0]? = some 0 ∧ x[1]? = some 0 ∧ x[2]? = some 0 ∧ x[3]? = some 2) : Lg (over L (128 + used) x) 2 := by
  have hxl := (List.getElem?_eq_some_iff.1 hx.2.2.2).1
  rcases hu with rfl | hu
  · have hg : ∀ j, j < 4 → (over L (128 + 0) x)[128 + j]? = x[j]? := fun j hj => by
      rw [over_get hfit, if_pos (by omega), show 128 + j - (128 + 0) = j by omega]
    exact ⟨(hg 0 (by decide)).trans hx.1, (hg 1 (by decide)).trans hx.2.1, (hg 2 (by decide)).trans hx.2.2.1, 2, (hg 3 (by decide)).trans hx.2.2.2, by omega⟩
  · have hg : ∀ j, j < 4 → (over L (128 + used) x)[128 + j]? = L[128 + j]? := fun j hj => by
      rw [over_get hfit, if_neg (by omega)]
    obtain ⟨g0, g1, g2, v, g3, hv⟩ := h
    exact ⟨(hg 0 (by decide)).trans g0, (hg 1 (by decide)).trans g1, (hg 2 (by decide)).trans g2, v, (hg 3 (by decide)).trans g3, hv⟩
theorem CW.commit {c : Cm} (h : CW n a b c.used las c.wt) (hd : Dk n las c.wt) (l : List Chg) : CW n a b (cmR n a b 2 las c l).used las (cmR n a b 2 las c l).wt := by
  have hr := h.lay.rgt
  unfold cmR
  split
  · split
    · refine ⟨h.lay, h.os, h.off.app, h.l1, ?_, .inr (by show 4 ≤ c.used + (18 + 66 * l.length); omega)⟩
      show Lg (flushed las (appR n las c.wt (a : Int) (b : Int) 2 (c.used : Int) (frameF 2 (c.seq : Int) (deltaF l)))) 2
      unfold appR
      split
      · rename_i hok
        have h1 := Redo.ok_in hok
        have hfl := Ref.flushed_len hd.len hd.wl
        have hfit : 128 + c.used + (frameF 2 (c.seq : Int) (deltaF l)).length ≤ 64 * n := by omega
        rw [Int.toNat_natCast, appW_flushed hd.len hd.wl hfit]
        refine lg_over (by omega) h.l2 h.us (by omega) ?_
        unfold frameF
        exact ⟨rfl, rfl, rfl, rfl⟩
      · exact h.l2
    · exact h
  · exact h
theorem CW.crash {used : Nat} (h : CW n a b used las wt) (hd : Dk n las wt) (cuts : List Int) : HL n a b 2 (shownF n a b 2 (crashed las wt cuts)) (crashed las wt cuts) := by
  have hr := h.lay.rgt
  have hc := hd.crash cuts
  have hs : ∀ i, i < 2 → sec (crashed las wt cuts) i = sec las i := fun i hi => crash_sec hd.len hd.wl (by omega) (h.off i (.inl hi))
  refine ⟨⟨⟨hc.len, hc.byt, hr, by rw [hs _ (by decide)]; exact h.lay.rt, by rw [hs _ (by decide)]; exact h.lay.ot⟩, ?_, rfl⟩, 1, .inl rfl, ?_⟩
  · obtain ⟨g0, g1, g2, v, g3, hv⟩ := h.l1
    obtain ⟨k0, k1, k2, u, k3, hu⟩ := h.l2
    have hm := fun p => crash_mix (cuts := cuts) hd.len hd.wl p
    refine ⟨by rcases hm 128 with e | e <;> rw [e] <;> assumption, by rcases hm 129 with e | e <;> rw [e] <;> assumption, by rcases hm 130 with e | e <;> rw [e] <;> assumption, ?_⟩
    rcases hm 131 with e | e
    · exact ⟨v, e.trans g3, hv⟩
    · exact ⟨u, e.trans k3, hu⟩
  · show (sec (crashed las wt cuts) 1).take 16 = _
    rw [hs 1 (by decide)]
    exact h.os
end
end Go.Proofs.YtjngnigelkgekaaGreat.Heal
namespace Go.Proofs.YtjngnigelkgekaaGreat.Heal
open Go.RowKit Go.Proofs.YtjngnigelkgekaaGreatW.PrintWords Go.Proofs.YtjngnigelkgekaaGreatW.PrintLast Go.Proofs.YtjngnigelkgekaaGreatW.PrintMore Go.Proofs.YtjngnigelkgekaaGreat.Kit Go.Proofs.YtjngnigelkgekaaGreat.Plain Go.Proofs.YtjngnigelkgekaaGreat.Disk Go.Proofs.YtjngnigelkgekaaGreat.Root
open Go.Proofs.YtjngnigelkgekaaGreat.Delta (Chg KC)
open Go.Proofs.YtjngnigelkgekaaGreat.RStore
open Go.Proofs.YtjngnigelkgekaaGreat.Deed
open Go.Proofs.YtjngnigelkgekaaGreat.Home (RT RTL pair19_)
open Go.Proofs.YtjngnigelkgekaaGreat.Redo (TpX tpx_shut changesX_ nextX_)
section
variable {w0 W : World} {F : List HP} {gr g n : Nat} {las : List Int} {wt : Wt}
theorem rb2 {gx : Nat} {a b ep : Int} {pages : List (List Int)} {nm : List Bool} {used seq : Nat} (h : Sep w0 W (RStB gx gr a b ep pages nm used seq :: F)) : W.cell? ⟨gx, 2, none⟩ = some (.int .i64 b) := by
  obtain ⟨_, gp, cp, gn, cn, hs⟩ := rstb_open h
  exact (hs.cell 2).trans rfl
end
end Go.Proofs.YtjngnigelkgekaaGreat.Heal
namespace Go.Proofs.YtjngnigelkgekaaGreat.Heal
open Go.RowKit Go.Proofs.YtjngnigelkgekaaGreatW.PrintWords Go.Proofs.YtjngnigelkgekaaGreatW.PrintLast Go.Proofs.YtjngnigelkgekaaGreatW.PrintMore Go.Proofs.YtjngnigelkgekaaGreat.Kit Go.Proofs.YtjngnigelkgekaaGreat.Plain Go.Proofs.YtjngnigelkgekaaGreat.Disk Go.Proofs.YtjngnigelkgekaaGreat.Root
open Go.Proofs.YtjngnigelkgekaaGreat.Delta (Chg KC)
open Go.Proofs.YtjngnigelkgekaaGreat.RStore
open Go.Proofs.YtjngnigelkgekaaGreat.Deed
open Go.Proofs.YtjngnigelkgekaaGreat.Store (noW openL)
open Go.Proofs.YtjngnigelkgekaaGreat.Home (RT RTL pair19_)
open Go.Proofs.YtjngnigelkgekaaGreat.Redo (TpX tpx_shut changesX_ nextX_)
section
variable {w0 W : World} {F : List HP} {gr g n : Nat} {las : List Int} {wt : Wt}
theorem rformatY {d : Nat} (h : Sep w0 W (RT gr n las wt d :: F)) (hk : Dk n las wt) (hn : n ≤ 160) (hd : d ≤ 1000000) (log pages : Int) {Q : DS → Prop} (hq : ∀ lg pg : Int, Q (fmtS n las wt lg pg)) :
    Calls Tryz.prog 39 #[.pointer (some ⟨gr, 0, none⟩), .int .i64 log, .int .i64 pages] W fun e w' => ∃ er las' wt' d', e = .returned (.int .i64 er) ∧ Q (las', wt') ∧ Dk n las' wt' ∧ d' ≤ d + 200 ∧ Sep w0 w' (RT gr n las' wt' d' :: F) :=
  (rformat_ h hk hn hd log pages).mono (by rintro e w' ⟨rfl, d', h1, h2⟩; exact ⟨_, (fmtS n las wt log pages).1, (fmtS n las wt log pages).2, d', rfl, hq log pages, hk.fmt log pages, h1, h2⟩)
def FQ (S : DS) : Prop := S.2 = noW ∧ ((∃ er, NoOpen 24 S.1 noW er) ∨ ∃ (a b : Nat) (P : List (List Int)), HL0 24 a b 1 P S.1)
def LQ (L : List Int) : Prop := (∃ er, NoOpen 24 L noW er) ∨ ∃ (a b : Nat) (P : List (List Int)), HL 24 a b 2 P L
theorem openCW {n a b : Nat} {P : List (List Int)} {L : List Int} (h : HL0 n a b 1 P L) : CW n a b 0 (openL n a b 1 L) noW := by
  have h1 : HL n a b 2 P (openL n a b 1 L) := h.opened (by decide)
  refine h1.cw ?_
  have h2 : sec (openL n a b 1 L) 1 = sec L 1 := open_other h.lay
  have h3 : sec L 1 = rootF (a : Int) (b : Int) 1 := h.lay.rt
  rw [h2, h3]
  exact rootF_take _ _ _
def MadeR (w : World) (e : Ending) (w' : World) : Prop := ∃ g gr L, e = .returned (.tuple #[.pointer (some ⟨g, 0, none⟩), .pointer (some ⟨gr, 0, none⟩)]) ∧ Dk 24 L (fun _ => none) ∧ LQ L ∧ Sep w w' [Dsk g L (fun _ => none), RT gr 24 L (fun _ => none) 0]
set_option maxHeartbeats 3200000 in
set_option maxRecDepth 100000 in
theorem madeR_ {A1 A2 : Option Addr} {n1 c1 n2 c2 : Nat} {tp cu : List Int} {w : World} (h1 : I64.C w A1 n1 tp) (h2 : I64.C w A2 n2 cu) :
    Calls Tryz.prog 13 #[.slice A1 n1 c1, .slice A2 n2 c2] w (MadeR w) := by
  have H1 := Aside0.mk h1
  have H2 := Aside0.mk h2
  clear h1 h2
  have HZ : Aside0 (Dk 24 (List.replicate (24 * 64) 0) (fun _ => none)) := ⟨⟨List.length_replicate, Ref.none_len, zeros_bytes _, Store.no_bytes⟩⟩
  go_enter Tryz.func13, Tryz.ntmps13
  go_wp2_with fail
  refine (Ref.newok_ (n := 24) (by decide) (by decide)).mono ?_
  rintro e w1 ⟨gr, rfl, hS1⟩
  obtain ⟨Z0, hZ0⟩ : ∃ z, List.replicate (24 * 64) (0 : Int) = z := ⟨_, rfl⟩
  have HFC : Aside0 (∀ lg pg : Int, FQ (fmtS 24 Z0 (fun _ => none) lg pg)) := ⟨fun lg pg => by rw [← hZ0]; exact fmt_cases lg pg⟩
  rw [hZ0] at hS1 HZ
  have B1 : Aside0 (Sep w w1 [RT gr 24 Z0 (fun _ => none) 0]) := ⟨by
    show Sep w w1 [Ref.RD gr 24 Z0 (flushed Z0 (fun _ => none)) (Ref.waitL 24 (fun _ => none)) (-1) ((0 : Nat) : Int)]
    rw [flushed_none (n := 24) HZ.out.len, Ref.waitL_none]
    exact hS1⟩
  obtain ⟨gt, hgt⟩ : ∃ q, w1.heap.size = q := ⟨_, rfl⟩
  have B2 := Aside0.mk (tpx_shut (Int.le_refl 0) (B1.out.newBlk 56 #[.slice A1 n1 c1, .int .i64 0]))
  rw [hgt] at B2
  clear hS1 hZ0
  go_wp2_with fail
  clear hgt
  refine (nextX_ H1.out B2.out 9).mono ?_
  rintro e w3 ⟨r3, rfl, ho3, hS3⟩
  have B3 := Aside0.mk hS3
  have HO3 := Aside0.mk ho3
  clear hS3 ho3
  go_wp2_with fail
  refine (nextX_ H1.out B3.out 5).mono ?_
  rintro e w4 ⟨r4, rfl, ho4, hS4⟩
  have B4 := Aside0.mk hS4.at2
  have HO4 := Aside0.mk ho4
  clear hS4 ho4
  go_wp2_with fail
  refine (rformatY B4.out HZ.out (by decide) (by decide) _ _ HFC.out).mono ?_
  rintro e w5 ⟨er5, L5, wt5, d5, rfl, hq5, hk5, hd5, hS5⟩
  obtain ⟨h5, hq5⟩ := hq5
  replace h5 : wt5 = fun _ => none := h5
  subst h5
  have HK5 := Aside0.mk hk5
  have HD5 := Aside0.mk hd5
  have B5 := Aside0.mk hS5
  clear hS5 hk5 hd5 HZ HFC B4 B3 B2 B1
  rcases hq5 with ⟨er, hno⟩ | ⟨a, b, P0, hl0⟩
  case inl =>
    have HNO : Aside0 (NoOpen 24 L5 (fun _ => none) er) := ⟨hno⟩
    have HLQ : Aside0 (LQ (crashed L5 (fun _ => none) cu)) := ⟨.inl ⟨er, by rw [crashed_no HK5.out.len]; exact hno⟩⟩
    clear hno
    go_wp2_with fail
    refine (ropen_nil B5.out HK5.out HNO.out).mono ?_
    rintro e w6 ⟨rfl, hS6⟩
    have B6 := Aside0.mk hS6.at2
    clear hS6
    go_wp2_with fail
    refine (nextX_ H1.out B6.out 6).mono ?_
    rintro e w7 ⟨r7, rfl, ho7, hS7⟩
    have B7 := Aside0.mk hS7.at2
    clear hS7
    go_wp2_with fail
    go_loopg [10] 1 (fun _ p wr => p = .int .i64 r7 ∧ w7 = wr)
    case atStart => exact ⟨rfl, rfl⟩
    case round =>
      obtain ⟨rfl, rfl⟩ := hrel
      by_cases hr : 0 < r7
      · go_wp2_with fail
        refine (Ref.rcrash_ (cuts := cu) B7.out (HK5.out).len (HK5.out).wl (fun W' h => Kd.C_below H2.out h.toBelow)).mono ?_
        rintro e w8 ⟨rfl, hS8⟩
        obtain ⟨LC, hLC⟩ : ∃ L, crashed L5 (fun _ => none) cu = L := ⟨_, rfl⟩
        have HDC := Aside0.mk ((HK5.out).crash cu)
        rw [hLC] at hS8 HDC HLQ
        obtain ⟨A8, c8, z8, hC8, hc8, _, _⟩ := rd_lasts hS8
        obtain ⟨N6, hN6⟩ : ∃ x, 64 * 24 = x := ⟨_, rfl⟩
        rw [hN6] at z8 hC8 hc8
        have HC8 := Aside0.mk (And.intro hC8 (And.intro hc8 hN6))
        have B8 := Aside0.mk hS8
        clear hS8 hLC hC8 hc8 hN6
        go_wp2_with fail
        refine (pair19_ HC8.out.1 HC8.out.2.1 HC8.out.2.2.symm (by decide) (by decide)).mono ?_
        rintro e w9 ⟨g9, gr9, rfl, hS9⟩
        have B9 := Aside0.mk (B8.out.lift hS9)
        clear hS9
        go_wp2_with fail
        go_ret2
        exact ⟨g9, gr9, LC, by first | rfl | (simp; done), HDC.out, HLQ.out, Sep.weakR (L := [_, _]) B9.out⟩
      · go_wp2_with fail
        refine (Ref.rcrash_ (cuts := cu) B7.out (HK5.out).len (HK5.out).wl (fun W' h => Kd.C_below H2.out h.toBelow)).mono ?_
        rintro e w8 ⟨rfl, hS8⟩
        obtain ⟨LC, hLC⟩ : ∃ L, crashed L5 (fun _ => none) cu = L := ⟨_, rfl⟩
        have HDC := Aside0.mk ((HK5.out).crash cu)
        rw [hLC] at hS8 HDC HLQ
        obtain ⟨A8, c8, z8, hC8, hc8, _, _⟩ := rd_lasts hS8
        obtain ⟨N6, hN6⟩ : ∃ x, 64 * 24 = x := ⟨_, rfl⟩
        rw [hN6] at z8 hC8 hc8
        have HC8 := Aside0.mk (And.intro hC8 (And.intro hc8 hN6))
        have B8 := Aside0.mk hS8
        clear hS8 hLC hC8 hc8 hN6
        go_wp2_with fail
        refine (pair19_ HC8.out.1 HC8.out.2.1 HC8.out.2.2.symm (by decide) (by decide)).mono ?_
        rintro e w9 ⟨g9, gr9, rfl, hS9⟩
        have B9 := Aside0.mk (B8.out.lift hS9)
        clear hS9
        go_wp2_with fail
        go_ret2
        exact ⟨g9, gr9, LC, by first | rfl | (simp; done), HDC.out, HLQ.out, Sep.weakR (L := [_, _]) B9.out⟩
  case inr =>
    have HA : Aside0 (Any 24 L5 (fun _ => none) a b 1) := ⟨any_lay hl0.lay (by decide)⟩
    have HE : Aside0 ((1 : Int) < 4294967295) := ⟨by decide⟩
    have HST := Aside0.mk (HA.out.opened HE.out)
    have HCW : Aside0 (CW 24 a b 0 (openG 24 a b 1 L5 (fun _ => none)) (fun _ => none)) := ⟨openCW hl0⟩
    rw [show (1 : Int) + 1 = 2 from rfl] at HST
    clear hl0
    go_wp2_with fail
    refine (ropen_all B5.out HA.out HE.out (by have := HD5.out; omega)).mono ?_
    rintro e w6 ⟨gx, rfl, d6, hd6, hS6⟩
    have HD6 := Aside0.mk hd6
    rw [show (1 : Int) + 1 = 2 from rfl] at hS6
    have B6 := Aside0.mk (Sep.pull [_, _] hS6)
    clear hS6 hd6
    go_wp2_with fail
    refine (nextX_ H1.out B6.out 6).mono ?_
    rintro e w7 ⟨r7, rfl, ho7, hS7⟩
    obtain ⟨R, hR⟩ := Int.eq_ofNat_of_zero_le ho7.1
    have hR6 : R < 6 := by have := ho7.2.1 (by decide); omega
    subst hR
    have C7 : Aside0 (∃ (las : List Int) (c : Cm) (d : Nat), St 24 a b 2 c.pages c.named c.nm c.used c.seq las c.wt ∧ CW 24 a b c.used las c.wt ∧ c.seq + R ≤ 6 ∧ d + 100 * R ≤ 1600 ∧ Sep w w7 (TpX gt A1 n1 c1 :: RStB gx gr (a : Int) (b : Int) 2 c.pages c.nm c.used c.seq :: RT gr 24 las c.wt d :: [])) :=
      ⟨_, ⟨_, [], List.replicate b false, 0, 0, fun _ => none⟩, d6, HST.out, HCW.out, by show 0 + R ≤ 6; omega, by have := HD6.out; have := HD5.out; omega, hS7⟩
    clear hS7 ho7
    go_wp2_with fail
    go_loopg [10] R (fun k_ p wr => p = .int .i64 (k_ : Int) ∧ ∃ (las : List Int) (c : Cm) (d : Nat), St 24 a b 2 c.pages c.named c.nm c.used c.seq las c.wt ∧ CW 24 a b c.used las c.wt ∧ c.seq + k_ ≤ 6 ∧ d + 100 * k_ ≤ 1600 ∧ Sep w wr (TpX gt A1 n1 c1 :: RStB gx gr (a : Int) (b : Int) 2 c.pages c.nm c.used c.seq :: RT gr 24 las c.wt d :: []))
    case atStart => exact ⟨rfl, C7.out⟩
    case round =>
      obtain ⟨rfl, las, c, d, hst, hcw, hsq, hd, hS⟩ := hrel
      obtain ⟨w10, rfl⟩ : ∃ x, x = wr := ⟨_, rfl⟩
      have HS1 := Aside0.mk hst
      have HC1 := Aside0.mk hcw
      have HSQ := Aside0.mk (And.intro hsq hd)
      have AS := Aside0.mk hS
      clear hst hcw hS C7
      by_cases hg : 0 < gk
      case neg =>
        obtain rfl : gk = 0 := by omega
        clear hsq hd
        go_wp2_with fail
        refine (Ref.rcrash_ (cuts := cu) (Sep.pull [_, _] AS.out) (HS1.out.dk).len (HS1.out.dk).wl (fun W' h => Kd.C_below H2.out h.toBelow)).mono ?_
        rintro e w8 ⟨rfl, hS8⟩
        obtain ⟨LC, hLC⟩ : ∃ L, crashed las c.wt cu = L := ⟨_, rfl⟩
        have HDC := Aside0.mk ((HS1.out.dk).crash cu)
        have HLQ : Aside0 (LQ (crashed las c.wt cu)) := ⟨.inr ⟨a, b, _, HC1.out.crash HS1.out.dk cu⟩⟩
        rw [hLC] at hS8 HDC HLQ
        obtain ⟨A8, c8, z8, hC8, hc8, _, _⟩ := rd_lasts hS8
        obtain ⟨N6, hN6⟩ : ∃ x, 64 * 24 = x := ⟨_, rfl⟩
        rw [hN6] at z8 hC8 hc8
        have HC8 := Aside0.mk (And.intro hC8 (And.intro hc8 hN6))
        have B8 := Aside0.mk hS8
        clear hS8 hLC hC8 hc8 hN6
        go_wp2_with fail
        refine (pair19_ HC8.out.1 HC8.out.2.1 HC8.out.2.2.symm (by decide) (by decide)).mono ?_
        rintro e w9 ⟨g9, gr9, rfl, hS9⟩
        have B9 := Aside0.mk (B8.out.lift hS9)
        clear hS9
        go_wp2_with fail
        go_ret2
        exact ⟨g9, gr9, LC, by first | rfl | (simp; done), HDC.out, HLQ.out, Sep.weakR (L := [_, _]) B9.out⟩
      case pos =>
        have hgi : (0 : Int) < (gk : Int) := by omega
        have HGP := Aside0.mk hg
        have zb := rb2 AS.out.at2
        have hnu := HS1.out.nums
        have HNS : Aside0 (b ≤ 64 ∧ c.seq ≤ 1000 ∧ d ≤ 100000) := ⟨by omega⟩
        have hwk : wrap64 ((gk : Int) - 1) = ((gk - 1 : Nat) : Int) := by rw [IntWalk.wrap64_in _ (by omega)]; omega
        have HWK := Aside0.mk hwk
        clear hsq hd hnu hg hwk
        go_wp2_with fail
        refine (changesX_ H1.out AS.out b (by have := HNS.out; omega)).mono ?_
        rintro e w11 ⟨v11, l, rfl, hgd, hS11⟩
        obtain ⟨n3, hn3⟩ : ∃ n, l.length = n := ⟨_, rfl⟩
        obtain ⟨A11, c11, rfl⟩ := hS11.rowN hn3
        have HCM := Aside0.mk (HS1.out.cm hgd.2.1)
        have B11 := Aside0.mk (Sep.pull [_, _, _] (Sep.pull [_, _, _] hS11))
        obtain ⟨er, her⟩ : ∃ e, cmE (a : Int) (b : Int) c.used l = e := ⟨_, rfl⟩
        obtain ⟨cx, hcx⟩ : ∃ e, cmR 24 (a : Int) (b : Int) 2 las c l = e := ⟨_, rfl⟩
        have HCC := Aside0.mk (HC1.out.commit HS1.out.dk l)
        rw [hcx] at HCM HCC
        have HER := Aside0.mk (And.intro her hcx)
        clear her hcx hS11 hgd zb hn3
        go_wp2_with fail
        refine (rcommit_ (c := c) (l := l) B11.out HS1.out HNS.out.2.1 (by have := HNS.out; omega) (fun W' hW => hW.rowC')).mono ?_
        rintro e w12 ⟨rfl, d12, hd12, hS12⟩
        rw [HER.out.2] at hS12
        have HD12 := Aside0.mk hd12
        have B12 := Aside0.mk (Sep.pull [_, _] (Sep.pull [_, _] hS12).tail)
        clear hS12 hd12
        go_wp2_with fail
        refine (nextX_ H1.out B12.out 3).mono ?_
        rintro e w13 ⟨r13, rfl, ho13, hS13⟩
        have B13 := Aside0.mk hS13
        clear hS13 ho13
        have hwk := HWK.out
        by_cases hr : r13 = 0
        · subst hr
          go_wp2_with fail
          refine (Ref.rflush_ (Sep.pull [_, _] B13.out) HCM.out.1.dk.len HCM.out.1.dk.wl (by have := HD12.out; have := HNS.out; omega)).mono ?_
          rintro e w14 ⟨rfl, hS14⟩
          have B14 := Aside0.mk (Sep.push [_, _] hS14)
          clear hS14
          go_wp2_with fail
          go_roundg (gk - 1)
          case measure => have := HGP.out; omega
          case rel => exact ⟨by first | rfl | (rw [hwk]) | simp [hwk], flushed las cx.wt, ⟨cx.pages, cx.named, cx.nm, cx.used, cx.seq, fun _ => none⟩, d12 + 1, HCM.out.1.flush, HCC.out.flush HCM.out.1.dk, by show cx.seq + (gk - 1) ≤ 6; have := HCM.out.2; have := HSQ.out; have := HGP.out; omega, by have := HD12.out; have := HSQ.out; have := HGP.out; omega, B14.out⟩
        · go_wp2_with fail
          go_roundg (gk - 1)
          case measure => have := HGP.out; omega
          case rel => exact ⟨by first | rfl | (rw [hwk]) | simp [hwk], las, cx, d12, HCM.out.1, HCC.out, by have := HCM.out.2; have := HSQ.out; have := HGP.out; omega, by have := HD12.out; have := HSQ.out; have := HGP.out; omega, B13.out⟩
end
end Go.Proofs.YtjngnigelkgekaaGreat.Heal
namespace Go.Proofs.YtjngnigelkgekaaGreat.Store
end Go.Proofs.YtjngnigelkgekaaGreat.Store
namespace Go.Proofs.YtjngnigelkgekaaGreat.Heal
open Go.RowKit Go.Proofs.YtjngnigelkgekaaGreatW.PrintWords Go.Proofs.YtjngnigelkgekaaGreatW.PrintLast Go.Proofs.YtjngnigelkgekaaGreatW.PrintMore Go.Proofs.YtjngnigelkgekaaGreat.Kit Go.Proofs.YtjngnigelkgekaaGreat.Plain Go.Proofs.YtjngnigelkgekaaGreat.Disk Go.Proofs.YtjngnigelkgekaaGreat.Root
open Go.Proofs.YtjngnigelkgekaaGreat.Store (noW StB KP ov_at ov_C all_)
open Go.Proofs.YtjngnigelkgekaaGreat.RStore
open Go.Proofs.YtjngnigelkgekaaGreat.Deed
open Go.Proofs.YtjngnigelkgekaaGreat.Home (RT RTL)
abbrev KI2 : Kd (List Int) := Kd.slice 3 (Kd.int .i64)
theorem KI2_at {W : World} {A : Option Addr} {n : Nat} {l : List (List Int)} (h : KI2.C W A n l) {j : Nat} (hj : j < n) : ∃ (hx : j < l.length) (ad : Addr) (B : Option Addr) (c : Nat), A = some ad ∧ W.cell? (ad.add j) = some (.slice B (l[j]).length c) ∧ I64.C W B (l[j]).length l[j] := by
  obtain ⟨hx, ad, cs, he, hk, hc0, _⟩ := elem_ h hj
  obtain ⟨B, c, hcs, hmc, hC⟩ := hk
  subst hcs
  have := hc0 _ rfl
  rw [show j * KI2.sz = j from Nat.mul_one j] at this
  exact ⟨hx, ad, B, c, he, this, hC⟩
def StepQ (Q : Nat → List Int → Prop) : Prop := ∀ (i : Nat) (x : List Int), i < 8 → Q i x → ∀ (j : Nat) (cuts : List Int), Q (i + 1) (crashed (runD (x, noW) ((dsOf 24 x noW).take j)).1 (runD (x, noW) ((dsOf 24 x noW).take j)).2 cuts)
def FinP (v12 v13 : Value) (Q : Nat → List Int → Prop) (F : List HP) : Prop := (∃ er, v12 = .pointer none ∧ v13 = .int .i64 er ∧ ∀ i x, Q i x → NoOpen 24 x noW er) ∨
  ∃ (gs g2 m a b : Nat) (ep : Int) (P : List (List Int)) (F2 : List HP), v12 = .pointer (some ⟨gs, 0, none⟩) ∧ v13 = .int .i64 0 ∧ F = StB gs g2 m (a : Int) (b : Int) ep P [] 0 0 :: F2 ∧ ∀ (i : Nat) (x : List Int), i ≤ 8 → Q i x → ∃ E : Int, E ≤ 100 ∧ HL 24 a b E P x
def TwiceR (w wx : World) (g : Nat) (L : List Int) (v12 v13 : Value) : Prop := ∃ (Q : Nat → List Int → Prop) (F : List HP), Q 0 L ∧ StepQ Q ∧ Sep w wx (Dsk g L (fun _ => none) :: F) ∧ FinP v12 v13 Q F
theorem step_nil {L : List Int} {er : Int} (hk : Dk 24 L noW) (hno : NoOpen 24 L noW er) : StepQ (fun _ x => x = L) := fun i x _ hx j cuts => by
  rw [hx, ds_no hno, List.take_nil]
  exact crashed_no hk.len cuts
theorem step_ok {a b : Nat} {P : List (List Int)} : StepQ (fun i x => ∃ E : Int, E ≤ 2 + (i : Int) ∧ HL 24 a b E P x) := fun i x hi hx j cuts => by
  obtain ⟨E, he, h⟩ := hx
  rcases h.round (by decide) (by omega) cuts j with h | h
  · exact ⟨E, by omega, h⟩
  · exact ⟨E + 1, by omega, h⟩
set_option maxHeartbeats 6400000 in
set_option maxRecDepth 100000 in
theorem healTwice_ {A0 A1 A2 A3 : Option Addr} {n0 c0 n1 c1 n2 c2 n3 c3 : Nat} {tp cu nn : List Int} {cs : List (List Int)} {w : World} (h0 : I64.C w A0 n0 tp) (h1 : I64.C w A1 n1 cu) (h2 : I64.C w A2 n2 nn) (h3 : KI2.C w A3 n3 cs) :
    Calls Tryz.prog 7 #[.slice A0 n0 c0, .slice A1 n1 c1, .slice A2 n2 c2, .slice A3 n3 c3] w fun e w' => e = .returned (.bool true) ∧ Below w.heap.size w w' := by
  have hn2m : n2 ≤ 9223372036854775807 := h2.2.1
  have hn3m : n3 ≤ 9223372036854775807 := h3.2.1
  have H0 := Aside0.mk h0
  have H1 := Aside0.mk h1
  have H2 := Aside0.mk h2
  have H3 := Aside0.mk h3
  clear h0 h1 h2 h3
  go_enter Tryz.func7, Tryz.ntmps7
  go_wp2_with fail
  refine (madeR_ H0.out H1.out).mono ?_
  rintro e w1 ⟨g, gr, L, rfl, hk1, hq1, hS1⟩
  have HK1 := Aside0.mk hk1
  have HQ1 := Aside0.mk hq1
  have B1 := Aside0.mk hS1
  clear hk1 hq1 hS1
  go_wp2_with fail
  refine (Disk.image_ B1.out).mono ?_
  rintro e w2 ⟨v2, rfl, hS2⟩
  obtain ⟨N6, hN6⟩ : ∃ x, 64 * 24 = x := ⟨_, rfl⟩
  obtain ⟨Ai, ci, rfl⟩ := hS2.rowN (n := N6) (by rw [HK1.out.len]; exact hN6)
  have HR := Aside0.mk (And.intro hS2.rowC' (And.intro hS2.rowC.2.1 hN6.symm))
  have B2 := Aside0.mk hS2.tail
  clear hS2 hN6
  go_wp2_with fail
  refine (Disk.of_ok HR.out.1 HR.out.2.1 HR.out.2.2 (by decide) (by decide)).mono ?_
  rintro e w3 ⟨g2, rfl, hS3⟩
  have B3 := Aside0.mk (B2.out.lift hS3)
  clear hS3
  go_upto_region 7 with fail
  go_cut [12, 13] from 20 (fun v12 v13 wx => TwiceR w wx g L v12 v13)
  case first =>
    rcases HQ1.out with ⟨er, hno⟩ | ⟨a, b, P, hl⟩
    · have HNO := Aside0.mk hno
      clear hno
      go_wp2_with fail
      refine (sopen_nil B3.out HK1.out (by decide) HNO.out).mono ?_
      rintro e w4 ⟨rfl, hS4⟩
      have B4 := Aside0.mk hS4.at2
      clear hS4
      go_wp2_with fail
      go_meet
      case rel => exact ⟨_, _, rfl, step_nil HK1.out HNO.out, B4.out, .inl ⟨er, rfl, rfl, fun i x hx => by rw [hx]; exact HNO.out⟩⟩
    · have HLL := Aside0.mk hl
      clear hl
      go_wp2_with fail
      refine (sopen_ok B3.out (any_lay HLL.out.h0.lay (by decide)) (by decide)).mono ?_
      rintro e w4 ⟨gs, m, rfl, hS4⟩
      rw [show shownG 24 a b 2 L (fun _ => none) = P from HLL.out.h0.sh] at hS4
      have B4 := Aside0.mk (Sep.pull [_, _] hS4)
      clear hS4
      go_wp2_with fail
      go_meet
      case rel => exact ⟨_, _, ⟨2, by omega, HLL.out⟩, step_ok (a := a) (b := b) (P := P), B4.out, .inr ⟨gs, g2, m, a, b, _, P, _, rfl, rfl, rfl, fun i x hi hx => by
        obtain ⟨E, he, h⟩ := hx
        exact ⟨E, by omega, h⟩⟩⟩
  case rest =>
  obtain ⟨Q, F, hq0, hst, hS4, hfin⟩ := hcut
  have HSQ := Aside0.mk hst
  have HFIN := Aside0.mk hfin
  have HQ0 := Aside0.mk hq0
  have B4 := Aside0.mk hS4
  clear hq0 hst hS4 hfin
  go_wp2_with fail
  go_loopg [14] 8 (fun k_ p wr => ∃ (i : Nat), p = .int .i64 (i : Int) ∧ i + k_ = 8 ∧ ∃ x : List Int, Dk 24 x (fun _ => none) ∧ Q i x ∧ Sep w wr (Dsk g x (fun _ => none) :: F))
  case atStart => exact ⟨0, rfl, by decide, L, HK1.out, HQ0.out, B4.out⟩
  case round =>
    obtain ⟨i, rfl, hik, x, hdk, hq, hS⟩ := hrel
    obtain ⟨w5, rfl⟩ : ∃ y, y = wr := ⟨_, rfl⟩
    have AK := Aside0.mk hik
    have HD := Aside0.mk hdk
    have HQ := Aside0.mk hq
    have AS := Aside0.mk hS
    clear hdk hq hS B4 B3 B2 HQ0
    by_cases hj : i < n2 ∧ i < 8
    case pos =>
      obtain ⟨hj1, hj2⟩ := hj
      have HJ := Aside0.mk hj2
      have hji : (i : Int) < (n2 : Int) := by omega
      have hj4 : (i : Int) < 8 := by omega
      obtain ⟨ad, hA, hcc⟩ := Kd.at_int (Kd.C_below H2.out AS.out.toBelow) (i : Int) (by omega) (by omega)
      rw [Int.toNat_natCast] at hcc
      obtain ⟨kk, hkk⟩ : ∃ k, rd nn (i : Int) = k := ⟨_, rfl⟩
      rw [hkk] at hcc
      subst hA
      clear hik hj1 hj2 hkk
      go_wp2_with fail
      refine (Book.within_ kk 0 11 _ (by decide) (by decide) (by decide)).mono ?_
      rintro e w6 ⟨rfl, rfl⟩
      obtain ⟨mm, hmm⟩ : ∃ a, Book.withinF kk 0 11 = a := ⟨_, rfl⟩
      rw [hmm]
      clear hmm
      go_wp2_with fail
      refine (hPart_ AS.out HD.out (by decide) mm).mono ?_
      rintro e w7 ⟨rfl, hS7⟩
      obtain ⟨J, hJ⟩ : ∃ J, partK mm (dsOf 24 x (fun _ => none)).length = J := ⟨_, rfl⟩
      rw [hJ] at hS7 ⊢
      obtain ⟨S, hS⟩ : ∃ S, runD (x, fun _ => none) ((dsOf 24 x (fun _ => none)).take J) = S := ⟨_, rfl⟩
      have HDS : Aside0 (Dk 24 S.1 S.2) := ⟨by rw [← hS]; exact dk_part HD.out (by decide) J⟩
      have HQS : Aside0 (∀ cuts, Q (i + 1) (crashed S.1 S.2 cuts)) := ⟨by rw [← hS]; exact fun cuts => HSQ.out i x HJ.out HQ.out J cuts⟩
      rw [hS] at hS7
      have B7 := Aside0.mk hS7
      clear hS7 hJ hS hcc
      by_cases c3 : i < n3
      · have h3l : (i : Int) < (n3 : Int) := by omega
        obtain ⟨hx3, ad3, Bx, cb3, hA3, g1, g2⟩ := KI2_at H3.out c3
        obtain ⟨cx, hcx⟩ : ∃ q, cs[i] = q := ⟨_, rfl⟩
        rw [hcx] at g1 g2
        obtain ⟨nx, hnx⟩ : ∃ q, cx.length = q := ⟨_, rfl⟩
        rw [hnx] at g1 g2
        have HG := Aside0.mk g2
        replace g1 := cell_later B7.out.toBelow g1
        subst hA3
        clear g2 hnx hcx hx3 c3
        go_wp2_with fail
        refine (Disk.crash_ (cuts := cx) B7.out (fun W' h => Kd.C_below HG.out h.toBelow)).mono ?_
        rintro e w8 ⟨rfl, hS8⟩
        have B8 := Aside0.mk hS8
        clear hS8
        go_wp2_with fail
        go_roundg (gk - 1)
        case measure => have := AK.out; have := HJ.out; omega
        case rel => exact ⟨i + 1, by go_num, by have := AK.out; have := HJ.out; omega, _, HDS.out.crash _, HQS.out _, B8.out⟩
      · have h3l : ¬ (i : Int) < (n3 : Int) := by omega
        clear c3
        go_wp2_with fail
        refine (Disk.crash_ (cuts := []) B7.out (fun W' h => Kd.C_nil I64 _)).mono ?_
        rintro e w8 ⟨rfl, hS8⟩
        have B8 := Aside0.mk hS8
        clear hS8
        go_wp2_with fail
        go_roundg (gk - 1)
        case measure => have := AK.out; have := HJ.out; omega
        case rel => exact ⟨i + 1, by go_num, by have := AK.out; have := HJ.out; omega, _, HDS.out.crash _, HQS.out _, B8.out⟩
    case neg =>
    have HI8 : Aside0 (i ≤ 8) := ⟨by omega⟩
    by_cases hj1 : i < n2
    case pos =>
      obtain rfl : i = 8 := by omega
      have hji : ((8 : Nat) : Int) < (n2 : Int) := by omega
      clear hik hj
      rcases HFIN.out with ⟨er, e12, e13, hf⟩ | ⟨gs, g2, m, a, b, ep, P, F2, e12, e13, eF, hf⟩
      case inl =>
        have HNO := Aside0.mk (hf 8 x HQ.out)
        subst e12 e13
        clear hf
        go_wp2_with fail
        refine (sopen_nil AS.out HD.out (by decide) HNO.out).mono ?_
        rintro e w9 ⟨rfl, hS9⟩
        have B9 := Aside0.mk hS9
        clear hS9
        go_wp2_with fail
        refine (known19_ _).mono ?_
        rintro e w10 ⟨rfl, hb10⟩
        have B10 := Aside0.mk (B9.out.below hb10)
        clear hb10
        go_wp2_with fail
        go_ret
        exact ⟨by first | rfl | (simp; done), B10.out.toBelow⟩
      case inr =>
      obtain ⟨E, hE, hl⟩ := hf 8 x HI8.out HQ.out
      have HLL := Aside0.mk hl
      have HE := Aside0.mk hE
      subst e12 e13 eF
      clear hf hl hE
      have HSG := Aside0.mk HLL.out.h0.lay.shown
      rw [HLL.out.h0.sh] at HSG
      have HB := Aside0.mk HLL.out.h0.lay.rgt
      obtain ⟨N, hN⟩ : ∃ N, P.length = N := ⟨_, rfl⟩
      have HN := Aside0.mk hN
      have HNB : Aside0 (1 ≤ N ∧ N ≤ 64) := ⟨by have := HSG.out.1; have := HB.out; omega⟩
      clear hN
      go_wp2_with fail
      refine (sopen_ok AS.out (any_lay HLL.out.h0.lay (by decide)) (by have := HE.out; omega)).mono ?_
      rintro e w9 ⟨gs2, m2, rfl, hS9⟩
      rw [show shownG 24 a b E x (fun _ => none) = P from HLL.out.h0.sh] at hS9
      have B9 := Aside0.mk (Sep.pull [_, _] hS9)
      clear hS9
      go_wp2_with fail
      refine (all_ B9.out (by rw [HN.out]; have := HNB.out; omega) (fun p hp => by have := (HSG.out.2 p hp).1; omega)).mono ?_
      rintro e w10 ⟨v10, rfl, hS10⟩
      have B10 := Aside0.mk (Sep.pull [_, _] hS10)
      clear hS10
      go_wp2_with fail
      refine (all_ B10.out (by rw [HN.out]; have := HNB.out; omega) (fun p hp => by have := (HSG.out.2 p hp).1; omega)).mono ?_
      rintro e w11 ⟨v11, rfl, hS11⟩
      have hS12 := Sep.pull [_, _] hS11
      obtain ⟨A10, c10, rfl⟩ := Sep.rowVN hS12 HN.out
      obtain ⟨A11, c11, rfl⟩ := Sep.rowVN hS11 HN.out
      obtain ⟨ga, rfl⟩ := hS12.rowVForm (by have := HNB.out; omega)
      obtain ⟨gb, rfl⟩ := hS11.rowVForm (by have := HNB.out; omega)
      obtain ⟨ca, hSa⟩ := hS12.rowV_open
      obtain ⟨cb, hSb⟩ := (Sep.pull [_, _] hSa).rowV_open
      have B12 := Aside0.mk hSb
      clear hS11 hS12 hSa hSb
      go_wp2_with fail
      go_loopg [100] N (fun k_ p wr => ∃ (j : Nat), p = .int .i64 (j : Int) ∧ j + k_ = N ∧ ∃ F3, Sep w wr (Row KV 24 (.slice (some ⟨gb, 0, none⟩) N c11) cb :: Fx (EachV KP P cb) :: Row KV 24 (.slice (some ⟨ga, 0, none⟩) N c10) ca :: Fx (EachV KP P ca) :: F3))
      case atStart => exact ⟨0, rfl, by omega, _, B12.out⟩
      case round =>
        obtain ⟨j, rfl, hjk, F3, hS⟩ := hrel
        obtain ⟨w13, rfl⟩ : ∃ y, y = wr := ⟨_, rfl⟩
        have AJ := Aside0.mk hjk
        have BS := Aside0.mk hS
        have HN2 := HNB.out.2
        clear hS B12
        by_cases cj : j < N
        case neg =>
          obtain rfl : j = N := by omega
          have hjl : ¬ (j : Int) < (j : Int) := by omega
          clear hjk cj
          go_wp2_with fail
          refine (known19_ _).mono ?_
          rintro e w14 ⟨rfl, hb14⟩
          have B14 := Aside0.mk (BS.out.below hb14)
          clear hb14
          go_wp2_with fail
          go_ret
          exact ⟨by first | rfl | (simp; done), B14.out.toBelow⟩
        case pos =>
        have hjl : (j : Int) < (N : Int) := by omega
        have HCJ := Aside0.mk cj
        have hkp : j < P.length := by rw [HN.out]; exact cj
        obtain ⟨hc1, X1, d1, hov1, hlc1⟩ := ov_at BS.out.at4.fx hkp
        obtain ⟨hc2, X2, d2, hov2, hlc2⟩ := ov_at BS.out.at2.fx hkp
        have u1 := fun q => kv_cell (BS.out.drewN q).at3 cj hc1 hov1
        have u2 := fun q => kv_cell (BS.out.drewN q) cj hc2 hov2
        have u3 := fun q => Str.strC (c := d1) (ov_C (BS.out.drewN q).at4.fx hkp hc1 hov1)
        have u4 := fun q => Str.strC (c := d2) (ov_C (BS.out.drewN q).at2.fx hkp hc2 hov2)
        obtain ⟨s, hs⟩ : ∃ s, strOfNums P[j] = s := ⟨_, rfl⟩
        obtain ⟨xl, hxl⟩ : ∃ s, (P[j]).length = s := ⟨_, rfl⟩
        rw [hxl] at u1 u2 u3 u4
        rw [hs] at u3 u4
        have hss : (s.toList == s.toList) = true := by simp
        clear hjk cj hkp hov1 hov2 hlc1 hlc2 hs hxl hc1 hc2
        go_wp2_with fail
        go_quiet (fail)
        go_wp2_with fail
        go_roundg (gk - 1)
        case measure => have := AJ.out; have := HCJ.out; omega
        case rel => exact ⟨j + 1, by go_num, by have := AJ.out; have := HCJ.out; omega, F3, BS.out.drewN _⟩
    case neg =>
      have hji : ¬ (i : Int) < (n2 : Int) := by omega
      clear hik hj
      rcases HFIN.out with ⟨er, e12, e13, hf⟩ | ⟨gs, g2, m, a, b, ep, P, F2, e12, e13, eF, hf⟩
      case inl =>
        have HNO := Aside0.mk (hf i x HQ.out)
        subst e12 e13
        clear hf
        go_wp2_with fail
        refine (sopen_nil AS.out HD.out (by decide) HNO.out).mono ?_
        rintro e w9 ⟨rfl, hS9⟩
        have B9 := Aside0.mk hS9
        clear hS9
        go_wp2_with fail
        refine (known19_ _).mono ?_
        rintro e w10 ⟨rfl, hb10⟩
        have B10 := Aside0.mk (B9.out.below hb10)
        clear hb10
        go_wp2_with fail
        go_ret
        exact ⟨by first | rfl | (simp; done), B10.out.toBelow⟩
      case inr =>
      obtain ⟨E, hE, hl⟩ := hf i x HI8.out HQ.out
      have HLL := Aside0.mk hl
      have HE := Aside0.mk hE
      subst e12 e13 eF
      clear hf hl hE
      have HSG := Aside0.mk HLL.out.h0.lay.shown
      rw [HLL.out.h0.sh] at HSG
      have HB := Aside0.mk HLL.out.h0.lay.rgt
      obtain ⟨N, hN⟩ : ∃ N, P.length = N := ⟨_, rfl⟩
      have HN := Aside0.mk hN
      have HNB : Aside0 (1 ≤ N ∧ N ≤ 64) := ⟨by have := HSG.out.1; have := HB.out; omega⟩
      clear hN
      go_wp2_with fail
      refine (sopen_ok AS.out (any_lay HLL.out.h0.lay (by decide)) (by have := HE.out; omega)).mono ?_
      rintro e w9 ⟨gs2, m2, rfl, hS9⟩
      rw [show shownG 24 a b E x (fun _ => none) = P from HLL.out.h0.sh] at hS9
      have B9 := Aside0.mk (Sep.pull [_, _] hS9)
      clear hS9
      go_wp2_with fail
      refine (all_ B9.out (by rw [HN.out]; have := HNB.out; omega) (fun p hp => by have := (HSG.out.2 p hp).1; omega)).mono ?_
      rintro e w10 ⟨v10, rfl, hS10⟩
      have B10 := Aside0.mk (Sep.pull [_, _] hS10)
      clear hS10
      go_wp2_with fail
      refine (all_ B10.out (by rw [HN.out]; have := HNB.out; omega) (fun p hp => by have := (HSG.out.2 p hp).1; omega)).mono ?_
      rintro e w11 ⟨v11, rfl, hS11⟩
      have hS12 := Sep.pull [_, _] hS11
      obtain ⟨A10, c10, rfl⟩ := Sep.rowVN hS12 HN.out
      obtain ⟨A11, c11, rfl⟩ := Sep.rowVN hS11 HN.out
      obtain ⟨ga, rfl⟩ := hS12.rowVForm (by have := HNB.out; omega)
      obtain ⟨gb, rfl⟩ := hS11.rowVForm (by have := HNB.out; omega)
      obtain ⟨ca, hSa⟩ := hS12.rowV_open
      obtain ⟨cb, hSb⟩ := (Sep.pull [_, _] hSa).rowV_open
      have B12 := Aside0.mk hSb
      clear hS11 hS12 hSa hSb
      go_wp2_with fail
      go_loopg [100] N (fun k_ p wr => ∃ (j : Nat), p = .int .i64 (j : Int) ∧ j + k_ = N ∧ ∃ F3, Sep w wr (Row KV 24 (.slice (some ⟨gb, 0, none⟩) N c11) cb :: Fx (EachV KP P cb) :: Row KV 24 (.slice (some ⟨ga, 0, none⟩) N c10) ca :: Fx (EachV KP P ca) :: F3))
      case atStart => exact ⟨0, rfl, by omega, _, B12.out⟩
      case round =>
        obtain ⟨j, rfl, hjk, F3, hS⟩ := hrel
        obtain ⟨w13, rfl⟩ : ∃ y, y = wr := ⟨_, rfl⟩
        have AJ := Aside0.mk hjk
        have BS := Aside0.mk hS
        have HN2 := HNB.out.2
        clear hS B12
        by_cases cj : j < N
        case neg =>
          obtain rfl : j = N := by omega
          have hjl : ¬ (j : Int) < (j : Int) := by omega
          clear hjk cj
          go_wp2_with fail
          refine (known19_ _).mono ?_
          rintro e w14 ⟨rfl, hb14⟩
          have B14 := Aside0.mk (BS.out.below hb14)
          clear hb14
          go_wp2_with fail
          go_ret
          exact ⟨by first | rfl | (simp; done), B14.out.toBelow⟩
        case pos =>
        have hjl : (j : Int) < (N : Int) := by omega
        have HCJ := Aside0.mk cj
        have hkp : j < P.length := by rw [HN.out]; exact cj
        obtain ⟨hc1, X1, d1, hov1, hlc1⟩ := ov_at BS.out.at4.fx hkp
        obtain ⟨hc2, X2, d2, hov2, hlc2⟩ := ov_at BS.out.at2.fx hkp
        have u1 := fun q => kv_cell (BS.out.drewN q).at3 cj hc1 hov1
        have u2 := fun q => kv_cell (BS.out.drewN q) cj hc2 hov2
        have u3 := fun q => Str.strC (c := d1) (ov_C (BS.out.drewN q).at4.fx hkp hc1 hov1)
        have u4 := fun q => Str.strC (c := d2) (ov_C (BS.out.drewN q).at2.fx hkp hc2 hov2)
        obtain ⟨s, hs⟩ : ∃ s, strOfNums P[j] = s := ⟨_, rfl⟩
        obtain ⟨xl, hxl⟩ : ∃ s, (P[j]).length = s := ⟨_, rfl⟩
        rw [hxl] at u1 u2 u3 u4
        rw [hs] at u3 u4
        have hss : (s.toList == s.toList) = true := by simp
        clear hjk cj hkp hov1 hov2 hlc1 hlc2 hs hxl hc1 hc2
        go_wp2_with fail
        go_quiet (fail)
        go_wp2_with fail
        go_roundg (gk - 1)
        case measure => have := AJ.out; have := HCJ.out; omega
        case rel => exact ⟨j + 1, by go_num, by have := AJ.out; have := HCJ.out; omega, F3, BS.out.drewN _⟩
end Go.Proofs.YtjngnigelkgekaaGreat.Heal
namespace Go.Proofs.YtjngnigelkgekaaGreat.Kit
open Go.ChangeShapes Go.WideShapes Go.ChangeAt Go.RowKit Go.Proofs.YtjngnigelkgekaaGreatW.PrintWords
section
variable {H : Type} {enc : TypeId × Value → H} {P : Program} {W : World} {base : Nat} {sp : Nat → Bool} {held : Bool}
theorem ints_C {T E : TypeId} {k : IntKind} {a : Option Addr} {len cap : Nat} {d : DataW H} {p : List MemPlace} (hT : P.underlying T = some (.slice E)) (hE : P.underlying E = some (.int k)) (hc : P.cellsOf E = 1)
    (h : DataW.Trod enc P W base (fun _ => true) held T (.slice a len cap) d p) : ∃ xs : List Int, len ≤ cap ∧ (Kd.int k).C W a len xs ∧ ∀ n ∈ xs, (Lit.int k n).wf = true := by
  obtain ⟨fuel, hf⟩ := h
  rcases open_ints hT hE hc hf with ⟨hcs, _⟩ | ⟨x, l, c, zs, hcs, _, hl, hm, hz, _, hcell, hwz⟩
  · simp [Value.cells] at hcs
    obtain ⟨rfl, rfl, rfl⟩ := hcs
    exact ⟨[], Nat.le_refl _, Kd.C_nil _ _, by simp⟩
  · simp [Value.cells] at hcs
    obtain ⟨rfl, rfl, rfl⟩ := hcs
    simp at hz
    simp only [maxLen] at hm
    refine ⟨zs.take len, hl, Kd.C_of_reads (d := (0 : Int)) (h1 := fun _ => rfl) ⟨by rw [List.length_take]; omega, by omega, fun h0 => ⟨x, rfl, fun j hj => ?_⟩⟩, fun n hn => hwz n (List.mem_of_mem_take hn)⟩
    rw [hcell j (by omega), List.getD_eq_getElem?_getD, List.getD_eq_getElem?_getD, List.getElem?_take, if_pos hj]
end
end Go.Proofs.YtjngnigelkgekaaGreat.Kit
namespace Go.Proofs.YtjngnigelkgekaaGreat.Kit
open Go.ChangeShapes Go.WideShapes Go.ChangeAt Go.RowKit Go.Proofs.YtjngnigelkgekaaGreatW.PrintWords
theorem add_twice (a : Addr) (m j : Nat) : (a.add m).add j = a.add (m + j) := by
  unfold Addr.add
  by_cases h1 : m = 0
  · subst h1; simp
  · by_cases h2 : j = 0
    · subst h2; simp
    · simp [h1, h2]; omega
theorem C_each {α : Type} {d : Kd α} {W : World} {A : Option Addr} {n : Nat} (hn : n ≤ 9223372036854775807) {Q : α → Prop}
    (h : ∀ i, i < n → ∃ (ad : Addr) (x : α) (cs : List Value), A = some ad ∧ cs.length = d.sz ∧ d.K W x cs ∧ Q x ∧ ∀ (j : Nat) u, cs[j]? = some u → W.cell? (ad.add (i * d.sz + j)) = some u) : ∃ xs : List α, d.C W A n xs ∧ ∀ x ∈ xs, Q x := by
  have hm : ∀ m, m ≤ n → ∃ xs : List α, xs.length = m ∧ ∀ (i : Nat) x, xs[i]? = some x → Q x ∧ ∃ (ad : Addr) (cs : List Value), A = some ad ∧ cs.length = d.sz ∧ d.K W x cs ∧ ∀ (j : Nat) u, cs[j]? = some u → W.cell? (ad.add (i * d.sz + j)) = some u := by
    intro m
    induction m with
    | zero => exact fun _ => ⟨[], rfl, fun i x hx => by simp at hx⟩
    | succ m ih =>
      intro hle
      obtain ⟨xs, hl, hx⟩ := ih (by omega)
      obtain ⟨ad, x, cs, h1, h2, h3, h4, h5⟩ := h m (by omega)
      refine ⟨xs ++ [x], by simp [hl], fun i y hy => ?_⟩
      by_cases hi : i < m
      · rw [List.getElem?_append_left (by omega)] at hy
        exact hx i y hy
      · have : i = m := by
          have := (List.getElem?_eq_some_iff.1 hy).1
          simp [hl] at this; omega
        subst this
        rw [List.getElem?_append_right (by omega), hl, Nat.sub_self] at hy
        simp at hy
        subst hy
        exact ⟨h4, ad, cs, h1, h2, h3, h5⟩
  obtain ⟨xs, hl, hx⟩ := hm n (Nat.le_refl _)
  refine ⟨xs, ⟨hl, hn, fun hp => ?_⟩, fun x hm => ?_⟩
  · obtain ⟨ad, _, _, e, _⟩ := h 0 hp
    refine ⟨ad, e, fun j x hj => ?_⟩
    obtain ⟨_, ad2, cs, e2, h2, h3, h5⟩ := hx j x hj
    rw [e] at e2
    cases e2
    exact ⟨cs, h2, h3, h5⟩
  · obtain ⟨i, hi⟩ := List.getElem?_of_mem hm
    exact (hx i x hi).1
section
variable {H : Type} {enc : TypeId × Value → H} {P : Program} {W : World} {base : Nat} {held : Bool}
theorem slice_cell {α : Type} {T E : TypeId} {d : Kd α} {Q : α → Prop} {fuel : Nat} {v : Value} {y : DataW H × List MemPlace} (hT : P.underlying T = some (.slice E)) (hc : P.cellsOf E = d.sz)
    (hK : ∀ (cs : List Value) (fuel : Nat) (y : DataW H × List MemPlace), cs.length = d.sz → DataW.trod enc P W base (fun _ => true) held fuel E cs = some y → ∃ x, d.K W x cs ∧ Q x)
    (h : DataW.trod enc P W base (fun _ => true) held fuel T [v] = some y) : ∃ A m c xs, v = .slice A m c ∧ m ≤ c ∧ d.C W A m xs ∧ ∀ x ∈ xs, Q x := by
  rcases Go.Deep.open_slice hT h with ⟨hcs, _⟩ | ⟨x, l, c, m, n, D, Pl, hcs, hb, hl, hm, hmm, hx, hi⟩
  · exact ⟨none, 0, 0, [], (List.cons.inj hcs).1, Nat.le_refl _, Kd.C_nil _ _, by simp⟩
  · simp at hmm
    simp only [maxLen] at hm
    obtain ⟨xs, h1, h2⟩ := C_each (d := d) (W := W) (A := some x) (n := l) (Q := Q) (by omega) (fun i hlt => by
      obtain ⟨cs', hc', ht'⟩ := hi i (by omega)
      obtain ⟨_, hcl, hat⟩ := World.cells?_some hc'
      rw [hc] at hcl hat
      obtain ⟨z, hz, hQ⟩ := hK cs' _ _ hcl ht'
      refine ⟨x, z, cs', rfl, hcl, hz, hQ, fun j u hj => ?_⟩
      have hjl := (List.getElem?_eq_some_iff.1 hj).1
      have := hat j (by omega)
      rw [add_twice, hj] at this
      exact this)
    exact ⟨some x, l, c, xs, (List.cons.inj hcs).1, hl, h1, h2⟩
theorem slice_open {α : Type} {T E : TypeId} {d : Kd α} {Q : α → Prop} {a : Option Addr} {len cap : Nat} {dd : DataW H} {p : List MemPlace} (hT : P.underlying T = some (.slice E)) (hc : P.cellsOf E = d.sz)
    (hK : ∀ (cs : List Value) (fuel : Nat) (y : DataW H × List MemPlace), cs.length = d.sz → DataW.trod enc P W base (fun _ => true) held fuel E cs = some y → ∃ x, d.K W x cs ∧ Q x)
    (h : DataW.Trod enc P W base (fun _ => true) held T (.slice a len cap) dd p) : ∃ xs : List α, len ≤ cap ∧ d.C W a len xs ∧ ∀ x ∈ xs, Q x := by
  obtain ⟨fuel, hf⟩ := h
  obtain ⟨A, m, c, xs, e, h1, h2, h3⟩ := slice_cell hT hc hK (v := .slice a len cap) hf
  cases e
  exact ⟨xs, h1, h2, h3⟩
theorem int_cell {T : TypeId} {k : IntKind} {fuel : Nat} {cs : List Value} {y : DataW H × List MemPlace} (hT : P.underlying T = some (.int k)) (h : DataW.trod enc P W base (fun _ => true) held fuel T cs = some y) : ∃ n, (Kd.int k).K W n cs ∧ (Lit.int k n).wf = true := by
  obtain ⟨n, h1, _, h2⟩ := DataW.trod_int hT h
  exact ⟨n, h1, h2⟩
end
end Go.Proofs.YtjngnigelkgekaaGreat.Kit
namespace Go.Proofs.YtjngnigelkgekaaGreat.Heal
open Go.ChangeShapes Go.WideShapes Go.ChangeAt Go.RowKit Go.Proofs.YtjngnigelkgekaaGreatW.PrintWords Go.Proofs.YtjngnigelkgekaaGreat.Kit Go.Proofs.YtjngnigelkgekaaGreat.Plain
section
variable {H : Type} {enc : TypeId × Value → H} {W : World} {base : Nat} {held : Bool}
set_option maxRecDepth 100000 in
theorem rowsI_open {a : Option Addr} {len cap : Nat} {d : DataW H} {p : List MemPlace} (h : DataW.Trod enc Tryz.prog W base (fun _ => true) held 48 (.slice a len cap) d p) : ∃ xs : List (List Int), len ≤ cap ∧ KI2.C W a len xs ∧ ∀ x ∈ xs, ∀ y ∈ x, True := by
  refine slice_open (d := KI2) (Q := fun x => ∀ y ∈ x, True) Tryz.underlying48 (by kernel_rfl) (fun cs fuel y hl ht => ?_) h
  match cs, hl with
  | [u0], _ =>
    obtain ⟨B, m, c, bs, rfl, h1, h2, h3⟩ := slice_cell (d := Kd.int .i64) (Q := fun _ => True) Tryz.underlying22 (by kernel_rfl) (fun cs fuel y _ ht => by
      obtain ⟨n, e, hw⟩ := int_cell Tryz.underlying3 ht
      exact ⟨n, e, trivial⟩) ht
    obtain rfl := h2.1
    exact ⟨bs, ⟨B, c, rfl, h1, h2⟩, h3⟩
end
end Go.Proofs.YtjngnigelkgekaaGreat.Heal
namespace Go.Proofs.YtjngnigelkgekaaGreatW.PrintWords
end Go.Proofs.YtjngnigelkgekaaGreatW.PrintWords
