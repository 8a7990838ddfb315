/- StOpen, StFound2, StRef1, StDeed, UnDelta, StFormat, StKP, StMore: what HealTwice needs. -/
import Derived.Test.YtjngnigelkgekaaGreatThealTwice17
set_option linter.unusedVariables false
set_option linter.unusedSimpArgs false
namespace Go.Proofs.YtjngnigelkgekaaGreat.Store
open Go.RowKit Go.Proofs.YtjngnigelkgekaaGreatW.PrintWords Go.Proofs.YtjngnigelkgekaaGreatW.PrintLast Go.Proofs.YtjngnigelkgekaaGreatW.PrintMore Go.Proofs.YtjngnigelkgekaaGreat.Kit Go.Proofs.YtjngnigelkgekaaGreat.Plain Go.Proofs.YtjngnigelkgekaaGreat.Disk Go.Proofs.YtjngnigelkgekaaGreat.Root
open Go.Proofs.YtjngnigelkgekaaGreat.Delta (Chg KC)
open Go.Proofs.YtjngnigelkgekaaGreat.Redo (recR logF)
open Go.Proofs.YtjngnigelkgekaaGreat.Home (pagesF)
def insList (ks : List Int) (l : List Int) : List Int := l.foldl insK ks
theorem insList_snoc (ks l : List Int) (k : Int) : insList ks (l ++ [k]) = insK (insList ks l) k := by unfold insList; rw [List.foldl_append]; rfl
theorem insList_len (l : List Int) : ∀ ks : List Int, (insList ks l).length ≤ ks.length + l.length := by
  induction l with
  | nil => intro ks; exact Nat.le_refl _
  | cons c r ih =>
    intro ks
    have h1 := ih (insK ks c)
    have h2 := insK_len ks c
    show (insList (insK ks c) r).length ≤ _
    rw [List.length_cons]; omega
theorem insList_mem {x : Int} (l : List Int) : ∀ {ks : List Int}, x ∈ insList ks l → x ∈ ks ∨ x ∈ l := by
  induction l with
  | nil => intro ks h; exact .inl h
  | cons c r ih =>
    intro ks h
    rcases ih (ks := insK ks c) h with h | h
    · rcases insK_mem h with h | h
      · exact .inl h
      · exact .inr (by rw [h]; exact List.mem_cons_self ..)
    · exact .inr (List.mem_cons_of_mem _ h)
section
variable {w0 W : World} {F : List HP} {g n : Nat} {las : List Int} {wt : Wt}
set_option maxHeartbeats 1600000 in
set_option maxRecDepth 100000 in
theorem open_none (h : Sep w0 W (Dsk g las wt :: F)) (hl : las.length = 64 * n) (hn : n ≤ 160) (hw : ∀ i b, wt i = some b → b.length = 64) (hb : ∀ j, Bytes (secF n las wt j)) (h0 : decide (0 < (bestTo n (secF n las wt) 2).2.2) = false) :
    Calls Tryz.prog 24 #[.pointer (some ⟨g, 0, none⟩)] W fun e w' => e = .returned (.tuple #[.pointer none, .int .i64 22]) ∧ Sep w0 w' (Dsk g las wt :: F) := by
  have H0 := Aside0.mk h
  have HL := Aside0.mk (And.intro hl (And.intro hn (And.intro hw (And.intro hb h0))))
  clear h hl hn hw hb h0
  go_enter Tryz.func24, Tryz.ntmps24
  go_wp2_with fail
  refine (found_none H0.out HL.out.1 HL.out.2.1 HL.out.2.2.1 HL.out.2.2.2.1 HL.out.2.2.2.2).mono ?_
  rintro e w2 ⟨rfl, hS2⟩
  have B2 := Aside0.mk (hS2.alloc (.cells #[.int .i64 0, .int .i64 0, .int .u32 0] 80))
  clear hS2
  go_wp2_with fail
  go_ret2
  exact ⟨by first | rfl | (simp; done), B2.out⟩
set_option maxHeartbeats 3200000 in
set_option maxRecDepth 100000 in
theorem open_ok (h : Sep w0 W (Dsk g las wt :: F)) (hl : las.length = 64 * n) (hn : n ≤ 160) (hw : ∀ i b, wt i = some b → b.length = 64) (hb : ∀ j, Bytes (secF n las wt j)) (a b ep : Int) (hbest : bestTo n (secF n las wt) 2 = (a, b, ep)) (he0 : 0 < ep) (he1 : ep < 4294967295)
    (hlb : Bytes (logF n las wt a b ep)) (hp0 : (pagesF n las wt a b ep).length ≤ 64) (hpb : ((pagesF n las wt a b ep).length : Int) = b) (hp1 : ∀ p ∈ pagesF n las wt a b ep, p.length ≤ 1000000) (hrl : (recR n las wt a b ep).1.length ≤ 1000) (hrx : ∀ x ∈ (recR n las wt a b ep).1, x.length ≤ 64) :
    Calls Tryz.prog 24 #[.pointer (some ⟨g, 0, none⟩)] W fun e w' => ∃ gs m, e = .returned (.tuple #[.pointer (some ⟨gs, 0, none⟩), .int .i64 0]) ∧ Sep w0 w' (StB gs g m a b (ep + 1) (pgAll (pagesF n las wt a b ep) (recR n las wt a b ep).1) [] 0 0 :: Dsk g (chkL n las wt a b ep (pgAll (pagesF n las wt a b ep) (recR n las wt a b ep).1) (insList [] (sortK (nmAll [] (recR n las wt a b ep).1)))) (fun _ => none) :: F) := by
  have H0 := Aside0.mk h
  have HL := Aside0.mk (And.intro hl (And.intro hn hw))
  have HF := Aside0.mk (found_ok h hl hn hw hb a b ep hbest he0 he1 hlb hp0 hp1 hrl hrx)
  obtain ⟨pp, hpp⟩ : ∃ p, pgAll (pagesF n las wt a b ep) (recR n las wt a b ep).1 = p := ⟨_, rfl⟩
  obtain ⟨nn, hnn⟩ : ∃ p, nmAll [] (recR n las wt a b ep).1 = p := ⟨_, rfl⟩
  obtain ⟨ks, hks⟩ : ∃ p, sortK nn = p := ⟨_, rfl⟩
  rw [hpp, hnn, hks] at HF
  have HPP := Aside0.mk hpp
  have HNN := Aside0.mk hnn
  have HKK := Aside0.mk hks
  have HPL : Aside0 ((pp.length : Int) = b ∧ pp.length ≤ 64) := ⟨by rw [← hpp, pgAll_len]; exact ⟨hpb, hp0⟩⟩
  have HKM : Aside0 (∀ k ∈ ks, 0 ≤ k ∧ k < b) := ⟨fun k hk => by
    rw [← hks] at hk
    have h1 := (sortK_perm nn).mem_iff.2 hk
    rw [← hnn] at h1
    exact nmAll_mem (P := fun k => 0 ≤ k ∧ k < b) (fun k hk => (by cases hk)) (fun x hx c hc => by have h2 := (right_in (recs_right b _ x hx)).2 c hc; omega) k h1⟩
  have HKL : Aside0 (ks.length ≤ 64000) := ⟨by
    have h1 := nmAll_len 64 (recR n las wt a b ep).1 [] hrx
    rw [hnn] at h1
    have h2 := (sortK_perm nn).length_eq
    rw [hks] at h2
    simp only [List.length_nil] at h1
    omega⟩
  obtain ⟨nk, hnk⟩ : ∃ n, ks.length = n := ⟨_, rfl⟩
  have HNK := Aside0.mk hnk
  have HEP := Aside0.mk (And.intro he0 he1)
  have hmm := @run_makeMap Tryz.prog
  clear h hl hn hw hb hbest hlb hp0 hpb hp1 hrl hrx he0 he1 hpp hnn hks hnk
  go_enter Tryz.func24, Tryz.ntmps24
  go_wp2_with fail
  refine HF.out.mono ?_
  rintro e w2 ⟨v, v2, rfl, hS2⟩
  obtain ⟨A1, c1, rfl⟩ := Sep.rowVN hS2 rfl
  obtain ⟨A2, c2, rfl⟩ := hS2.at2.rowN HNK.out
  have B2 := Aside0.mk (hS2.newBlk 80 #[.int .i64 a, .int .i64 b, .int .u32 ep])
  have z0 := (B2.out.cell 0).trans rfl
  have z1 := (B2.out.cell 1).trans rfl
  have z2 := (B2.out.cell 2).trans rfl
  clear hS2
  go_wp2_with fail
  have B3 := Aside0.mk (set_new B2.out)
  rw [show ∀ o : Obj, (w2.alloc o).heap.size = w2.heap.size + 1 from fun o => by simp] at B3
  have B4 := Aside0.mk (B3.out.newBlk 108 #[.pointer (some ⟨g, 0, none⟩), .int .i64 a, .int .i64 b, .int .u32 ep, .slice A1 pp.length c1, .map (some (w2.heap.size + 1)), .int .i64 0, .int .u32 0])
  rw [show ∀ o o2 : Obj, ((w2.alloc o).alloc o2).heap.size = w2.heap.size + 1 + 1 from fun o o2 => by simp] at B4
  obtain ⟨w5, hw5⟩ : ∃ x, ((w2.alloc (.cells #[.int .i64 a, .int .i64 b, .int .u32 ep] 80)).alloc (.map #[] 0)).alloc (.cells #[.pointer (some ⟨g, 0, none⟩), .int .i64 a, .int .i64 b, .int .u32 ep, .slice A1 pp.length c1, .map (some (w2.heap.size + 1)), .int .i64 0, .int .u32 0] 108) = x := ⟨_, rfl⟩
  rw [hw5] at B4 ⊢
  clear hw5 B3 z0 z1 z2 hmm
  generalize w2.heap.size + 1 + 1 = gs at B4 ⊢
  generalize w2.heap.size + 1 = m at B4 ⊢
  generalize w2.heap.size = r5 at B4 ⊢
  have hnk : nk ≤ 64000 := by have := HKL.out; rw [HNK.out] at this; exact this
  have B5 : Aside0 (Sep w0 w5 (SetM m [] :: Blk gs 108 #[.pointer (some ⟨g, 0, none⟩), .int .i64 a, .int .i64 b, .int .u32 ep, .slice A1 pp.length c1, .map (some m), .int .i64 0, .int .u32 0] :: Blk r5 80 #[.int .i64 a, .int .i64 b, .int .u32 ep] :: RowV KP 24 (.slice A1 pp.length c1) pp :: Row I64 3 (.slice A2 nk c2) ks :: Dsk g las wt :: F)) := ⟨B4.out.at2⟩
  clear B4
  go_loopg [30] nk (fun k_ p wr => ∃ (j : Nat), p = .int .i64 (j : Int) ∧ j + k_ = nk ∧ Sep w0 wr (SetM m (insList [] (ks.take j)) :: Blk gs 108 #[.pointer (some ⟨g, 0, none⟩), .int .i64 a, .int .i64 b, .int .u32 ep, .slice A1 pp.length c1, .map (some m), .int .i64 0, .int .u32 0] :: Blk r5 80 #[.int .i64 a, .int .i64 b, .int .u32 ep] :: RowV KP 24 (.slice A1 pp.length c1) pp :: Row I64 3 (.slice A2 nk c2) ks :: Dsk g las wt :: F))
  case atStart => exact ⟨0, rfl, by omega, B5.out⟩
  case round =>
    obtain ⟨j, rfl, hjk, hS⟩ := hrel
    have AK := Aside0.mk hjk
    have AS := Aside0.mk hS
    clear hS
    by_cases cj : j < nk
    case pos =>
      have hjl : (j : Int) < (nk : Int) := by omega
      have hjx : j < ks.length := by rw [HNK.out]; exact cj
      obtain ⟨ad, hA, hcc⟩ := Kd.at_int AS.out.at5.rowC' (j : Int) (by omega) (by omega)
      rw [Int.toNat_natCast] at hcc
      have hgd : rd ks (j : Int) = ks[j] := by unfold rd; rw [Int.toNat_natCast, List.getD_eq_getElem?_getD, List.getElem?_eq_getElem hjx]; rfl
      have hkb := HKM.out _ (List.getElem_mem hjx)
      have HIN : Aside0 (insList [] (ks.take (j + 1)) = insK (insList [] (ks.take j)) ks[j]) := ⟨by rw [take_one hjx, insList_snoc]⟩
      have HIL : Aside0 ((insList [] (ks.take j)).length < 1000000) := ⟨by
        have h1 := insList_len (ks.take j) []
        have h2 : (ks.take j).length ≤ nk := by rw [List.length_take, HNK.out]; omega
        simp only [List.length_nil] at h1
        omega⟩
      obtain ⟨kk, hkk⟩ : ∃ k, ks[j] = k := ⟨_, rfl⟩
      rw [hkk] at hgd hkb HIN
      rw [hgd] at hcc
      have z5 := (AS.out.at2.cell 5).trans rfl
      obtain ⟨W9, hup, hS9⟩ := set_put (v := .agg #[]) AS.out kk (by have := HPL.out; omega) HIL.out
      rw [← HIN.out] at hS9
      have B9 := Aside0.mk hS9
      subst hA
      clear hjk cj hgd hkb hkk hjx hS9
      go_wp2_with fail
      go_roundg (gk - 1)
      case measure => have := AK.out; omega
      case rel => exact ⟨j + 1, by go_num, by have := AK.out; omega, B9.out⟩
    case neg =>
    obtain rfl : j = nk := by omega
    have hjl : ¬ (j : Int) < (j : Int) := by omega
    have HTK : Aside0 (ks.take j = ks) := ⟨List.take_of_length_le (by rw [HNK.out]; exact Nat.le_refl _)⟩
    have B10 := Aside0.mk AS.out
    rw [HTK.out] at B10
    have B11 : Aside0 (Sep w0 wr (StB gs g m a b ep pp (insList [] ks) 0 0 :: Dsk g las wt :: F)) := ⟨stb_shut (B10.out.at5.tail.at3.tail.at2.at3.sw23.at3)⟩
    clear hjk cj
    go_wp2_with fail
    refine (check_ B11.out HL.out.1 HL.out.2.1 HL.out.2.2 (by have := HEP.out; omega) (fun k hk => ?_) (by have := HPL.out.2; omega)).mono ?_
    · rcases insList_mem ks hk with h1 | h1
      · cases h1
      · have h2 := HKM.out k h1
        have h3 := HPL.out.1
        omega
    rintro e w12 ⟨rfl, hS12⟩
    have B12 := Aside0.mk hS12
    clear hS12
    go_wp2_with fail
    go_ret2
    exact ⟨gs, m, by first | rfl | (simp; done), by rw [HPP.out, HNN.out, HKK.out]; exact B12.out⟩
end
end Go.Proofs.YtjngnigelkgekaaGreat.Store
namespace Go.Proofs.YtjngnigelkgekaaGreat.Store
open Go.RowKit Go.Proofs.YtjngnigelkgekaaGreatW.PrintWords Go.Proofs.YtjngnigelkgekaaGreatW.PrintLast Go.Proofs.YtjngnigelkgekaaGreatW.PrintMore Go.Proofs.YtjngnigelkgekaaGreat.Kit Go.Proofs.YtjngnigelkgekaaGreat.Plain Go.Proofs.YtjngnigelkgekaaGreat.Disk Go.Proofs.YtjngnigelkgekaaGreat.Root
section
variable {w0 W : World} {F : List HP} {g n : Nat} {las : List Int} {wt : Wt}
set_option maxHeartbeats 3200000 in
set_option maxRecDepth 100000 in
theorem found_full (h : Sep w0 W (Dsk g las wt :: F)) (hl : las.length = 64 * n) (hn : n ≤ 160) (hw : ∀ i b, wt i = some b → b.length = 64) (hb : ∀ j, Bytes (secF n las wt j)) (h0 : (bestTo n (secF n las wt) 2).2.2 = 4294967295) :
    Calls Tryz.prog 62 #[.pointer (some ⟨g, 0, none⟩)] W fun e w' => e = .returned (.tuple #[.agg #[.int .i64 0, .int .i64 0, .int .u32 0], .slice none 0 0, .slice none 0 0, .int .i64 24]) ∧ Sep w0 w' (Dsk g las wt :: F) := by
  have A0 := Aside0.mk (h.newBlk 80 #[.int .i64 0, .int .i64 0, .int .u32 0])
  have HL := Aside0.mk (And.intro hl (And.intro hn (And.intro hw hb)))
  obtain ⟨a, b, ep, hr⟩ : ∃ a b ep, bestTo n (secF n las wt) 2 = (a, b, ep) := ⟨_, _, _, rfl⟩
  rw [hr] at h0
  have h0' : ep = 4294967295 := h0
  subst h0'
  have HR := Aside0.mk hr
  have hd0 : decide ((0 : Int) < 4294967295) = true := by decide
  obtain ⟨p2, hp2⟩ : ∃ p, W.heap.size = p := ⟨_, rfl⟩
  rw [hp2] at A0
  clear h hl hn hw hb hr h0
  go_enter Tryz.func62, Tryz.ntmps62
  go_wp2_with fail
  refine (best_ A0.out.at2 HL.out.1 HL.out.2.1 HL.out.2.2.1 HL.out.2.2.2).mono ?_
  rintro e w2 ⟨rfl, hS2⟩
  rw [HR.out]
  have B2 := Aside0.mk hS2.at2
  clear hS2 hp2
  have B3 := Aside0.mk (B2.out.alloc (.cells #[.int .i64 a, .int .i64 b, .int .u32 4294967295] 80))
  obtain ⟨d0, f0, d1, f1, d2, f2, hS4⟩ := store3 (.int .i64 0) (.int .i64 0) (.int .u32 0) B3.out
  have B4 := Aside0.mk hS4
  clear hS4
  have q0 := (B4.out.cell 0).trans rfl
  have q1 := (B4.out.cell 1).trans rfl
  have q2 := (B4.out.cell 2).trans rfl
  unfold rootV
  go_wp2_with fail
  go_retc4 (.tuple #[.agg #[.int .i64 0, .int .i64 0, .int .u32 0], .slice none 0 0, .slice none 0 0, .int .i64 24])
  exact ⟨rfl, B4.out.tail⟩
set_option maxHeartbeats 1600000 in
set_option maxRecDepth 100000 in
theorem open_full (h : Sep w0 W (Dsk g las wt :: F)) (hl : las.length = 64 * n) (hn : n ≤ 160) (hw : ∀ i b, wt i = some b → b.length = 64) (hb : ∀ j, Bytes (secF n las wt j)) (h0 : (bestTo n (secF n las wt) 2).2.2 = 4294967295) :
    Calls Tryz.prog 24 #[.pointer (some ⟨g, 0, none⟩)] W fun e w' => e = .returned (.tuple #[.pointer none, .int .i64 24]) ∧ Sep w0 w' (Dsk g las wt :: F) := by
  have H0 := Aside0.mk h
  have HL := Aside0.mk (And.intro hl (And.intro hn (And.intro hw (And.intro hb h0))))
  clear h hl hn hw hb h0
  go_enter Tryz.func24, Tryz.ntmps24
  go_wp2_with fail
  refine (found_full H0.out HL.out.1 HL.out.2.1 HL.out.2.2.1 HL.out.2.2.2.1 HL.out.2.2.2.2).mono ?_
  rintro e w2 ⟨rfl, hS2⟩
  have B2 := Aside0.mk (hS2.alloc (.cells #[.int .i64 0, .int .i64 0, .int .u32 0] 80))
  clear hS2
  go_wp2_with fail
  go_ret2
  exact ⟨by first | rfl | (simp; done), B2.out⟩
end
end Go.Proofs.YtjngnigelkgekaaGreat.Store
namespace Go.Proofs.YtjngnigelkgekaaGreat.RStore
open Go.RowKit Go.Proofs.YtjngnigelkgekaaGreatW.PrintWords Go.Proofs.YtjngnigelkgekaaGreatW.PrintLast Go.Proofs.YtjngnigelkgekaaGreatW.PrintMore Go.Proofs.YtjngnigelkgekaaGreat.Kit Go.Proofs.YtjngnigelkgekaaGreat.Plain Go.Proofs.YtjngnigelkgekaaGreat.Disk Go.Proofs.YtjngnigelkgekaaGreat.Root
open Go.Proofs.YtjngnigelkgekaaGreat.Delta (Chg KC)
open Go.Proofs.YtjngnigelkgekaaGreat.Store (KP applyF applyOne applyF_len applyF_snoc take_one infoS)
open Go.Proofs.YtjngnigelkgekaaGreat.Base
abbrev BK : Kd Bool := Kd.bool
def RStB (gx gr : Nat) (a b ep : Int) (pages : List (List Int)) (nm : List Bool) (used seq : Nat) : HP := Ex fun x : Value × Value =>
  Star [Pu (nm.length = pages.length ∧ 0 < pages.length ∧ pages.length ≤ 64), Blk gx 87 #[.pointer (some ⟨gr, 0, none⟩), .int .i64 a, .int .i64 b, .int .u32 ep, x.1, x.2, .int .i64 (used : Int), .int .u32 (seq : Int)], RowV KP 24 x.1 pages, Row BK 4 x.2 nm]
def nmOne (nm : List Bool) (c : Chg) : List Bool := nm.set c.1.toNat true
def nmF (nm : List Bool) (l : List Chg) : List Bool := l.foldl nmOne nm
theorem nmF_len (l : List Chg) : ∀ nm : List Bool, (nmF nm l).length = nm.length := by
  induction l with
  | nil => intro nm; rfl
  | cons c r ih => intro nm; show (nmF (nmOne nm c) r).length = _; rw [ih]; unfold nmOne; rw [List.length_set]
theorem nmF_snoc (nm : List Bool) (l : List Chg) (c : Chg) : nmF nm (l ++ [c]) = nmOne (nmF nm l) c := by unfold nmF; rw [List.foldl_append]; rfl
section
variable {w0 W : World} {F : List HP} {gx gr : Nat} {a b ep : Int} {pages : List (List Int)} {nm : List Bool} {used seq : Nat}
theorem rstb_open (h : Sep w0 W (RStB gx gr a b ep pages nm used seq :: F)) : (nm.length = pages.length ∧ 0 < pages.length ∧ pages.length ≤ 64) ∧ ∃ gp cp gn cn, Sep w0 W (Blk gx 87 #[.pointer (some ⟨gr, 0, none⟩), .int .i64 a, .int .i64 b, .int .u32 ep, .slice (some ⟨gp, 0, none⟩) pages.length cp, .slice (some ⟨gn, 0, none⟩) pages.length cn, .int .i64 (used : Int), .int .u32 (seq : Int)] :: RowV KP 24 (.slice (some ⟨gp, 0, none⟩) pages.length cp) pages :: Row BK 4 (.slice (some ⟨gn, 0, none⟩) pages.length cn) nm :: F) := by
  obtain ⟨⟨v0, v1⟩, h1⟩ := h.ex
  obtain ⟨hp, h2⟩ := h1.star.pu
  obtain ⟨A, c, e0⟩ := Sep.rowVN h2.at2 (n := pages.length) rfl
  simp only at e0
  subst e0
  obtain ⟨gp, rfl⟩ := h2.at2.rowVForm hp.2.1
  obtain ⟨gn, cn, e1⟩ := h2.at3.rowFormN (n := pages.length) hp.1 hp.2.1
  simp only at e1
  subst e1
  exact ⟨hp, gp, c, gn, cn, h2⟩
theorem rstb_shut {v0 v1 : Value} (hp : nm.length = pages.length ∧ 0 < pages.length ∧ pages.length ≤ 64) (h : Sep w0 W (Blk gx 87 #[.pointer (some ⟨gr, 0, none⟩), .int .i64 a, .int .i64 b, .int .u32 ep, v0, v1, .int .i64 (used : Int), .int .u32 (seq : Int)] :: RowV KP 24 v0 pages :: Row BK 4 v1 nm :: F)) : Sep w0 W (RStB gx gr a b ep pages nm used seq :: F) :=
  Sep.unex (v0, v1) (Sep.unstar (Sep.unpu hp h))
set_option maxHeartbeats 1600000 in
set_option maxRecDepth 100000 in
theorem rapply_ (h : Sep w0 W (RStB gx gr a b ep pages nm used seq :: F)) {A2 : Option Addr} {n2 c2 : Nat} {l : List Chg} (hC : ∀ W', Sep w0 W' F → KC.C W' A2 n2 l) (hl : ∀ c ∈ l, 0 ≤ c.1 ∧ c.1 < (pages.length : Int) ∧ c.2.length ≤ 1000000) :
    Calls Tryz.prog 82 #[.pointer (some ⟨gx, 0, none⟩), .slice A2 n2 c2] W fun e w' => e = .returned (.tuple #[]) ∧ Sep w0 w' (RStB gx gr a b ep (applyF pages l) (nmF nm l) used seq :: F) := by
  obtain ⟨hp, gp, cp, gn, cn, hs⟩ := rstb_open h
  have HC := Aside0.mk hC
  have HLL := Aside0.mk hl
  have HP := Aside0.mk hp
  have hC0 := hC W h.tail
  have hn2 := hC0.1
  have hn2m := hC0.2.1
  obtain ⟨N, hN⟩ : ∃ N, pages.length = N := ⟨_, rfl⟩
  rw [hN] at hs HP HLL
  have HN := Aside0.mk hN
  have B0 := Aside0.mk hs
  have HLN := Aside0.mk hn2
  clear h hs hC hl hp hC0 hN hn2
  go_enter Tryz.func82, Tryz.ntmps82
  go_wp2_with fail
  go_loopg [8] n2 (fun k_ p wr => ∃ j : Nat, p = .int .i64 (j : Int) ∧ j + k_ = n2 ∧ Sep w0 wr (Blk gx 87 #[.pointer (some ⟨gr, 0, none⟩), .int .i64 a, .int .i64 b, .int .u32 ep, .slice (some ⟨gp, 0, none⟩) N cp, .slice (some ⟨gn, 0, none⟩) N cn, .int .i64 (used : Int), .int .u32 (seq : Int)] :: RowV KP 24 (.slice (some ⟨gp, 0, none⟩) N cp) (applyF pages (l.take j)) :: Row BK 4 (.slice (some ⟨gn, 0, none⟩) N cn) (nmF nm (l.take j)) :: F))
  case atStart => exact ⟨0, rfl, by omega, B0.out⟩
  case round =>
    obtain ⟨j, rfl, hjk, hS⟩ := hrel
    obtain ⟨w5, rfl⟩ : ∃ x, x = wr := ⟨_, rfl⟩
    have AK := Aside0.mk hjk
    have AS := Aside0.mk hS
    clear hS
    by_cases cj : j < n2
    case neg =>
      obtain rfl : j = n2 := by omega
      have hjl : ¬ (j : Int) < (j : Int) := by omega
      clear hjk cj
      go_wp2_with fail
      go_end0
      have h9 := AS.out
      rw [List.take_of_length_le (by rw [HLN.out]; exact Nat.le_refl _)] at h9
      exact ⟨rfl, rstb_shut ⟨by rw [nmF_len, applyF_len]; have := HP.out.1; have := HN.out; omega, by rw [applyF_len, HN.out]; exact HP.out.2.1, by rw [applyF_len, HN.out]; exact HP.out.2.2⟩ h9⟩
    case pos =>
    have hjl : (j : Int) < (n2 : Int) := by omega
    obtain ⟨hx, ad, B, cB, rfl, e0, e1, e2, e3⟩ := elem2_ (HC.out _ AS.out.tail.tail.tail) cj
    have hcl := HLL.out _ (List.getElem_mem hx)
    have HT : Aside0 (applyF pages (l.take (j + 1)) = applyOne (applyF pages (l.take j)) l[j] ∧ nmF nm (l.take (j + 1)) = nmOne (nmF nm (l.take j)) l[j]) := ⟨by rw [take_one hx, applyF_snoc, nmF_snoc]; exact ⟨rfl, rfl⟩⟩
    obtain ⟨pg, bs, hx2⟩ : ∃ pg bs, l[j] = (pg, bs) := ⟨_, _, rfl⟩
    rw [hx2] at e0 e1 e2 e3 hcl HT
    obtain ⟨p, rfl⟩ : ∃ p : Nat, pg = (p : Int) := Int.eq_ofNat_of_zero_le hcl.1
    have hpN : p < N := by have := hcl.2.1; omega
    obtain ⟨bn, hbn⟩ : ∃ bn, bs.length = bn := ⟨_, rfl⟩
    have z0 : w5.cell? (ad.add (j * 2)) = some (.int .i64 (p : Int)) := e0
    have z1 : w5.cell? ⟨(ad.add (j * 2)).block, (ad.add (j * 2)).off + 1, none⟩ = some (.slice B bn cB) := by rw [← hbn]; exact e1
    have HE : Aside0 (bn ≤ cB ∧ (Kd.int .u8).C w5 B bn bs) := ⟨by rw [← hbn]; exact ⟨e2, e3⟩⟩
    have HBN : Aside0 (bn ≤ 1000000 ∧ bs.length = bn) := ⟨by rw [← hbn]; exact ⟨hcl.2.2, rfl⟩⟩
    obtain ⟨qs, hqs⟩ : ∃ qs, applyF pages (l.take j) = qs := ⟨_, rfl⟩
    obtain ⟨ms, hms⟩ : ∃ ms, nmF nm (l.take j) = ms := ⟨_, rfl⟩
    rw [hqs, hms] at AS HT
    have HO : Aside0 (applyOne qs ((p : Int), bs) = qs.set p bs ∧ nmOne ms ((p : Int), bs) = ms.set p true) := ⟨by
      have hql : qs.length = N := by rw [← hqs, applyF_len]; exact HN.out
      unfold applyOne nmOne
      rw [if_pos ⟨hcl.1, by rw [hql]; exact hcl.2.1⟩, Int.toNat_natCast]
      exact ⟨rfl, rfl⟩⟩
    obtain ⟨gc, hgc⟩ : ∃ x, w5.heap.size = x := ⟨_, rfl⟩
    have BC := Aside0.mk (AS.out.newBlk 75 #[.int .i64 (p : Int), .slice B bn cB])
    rw [hgc] at BC
    have BD := Aside0.mk BC.out.drew
    have hpi : (p : Int) < (N : Int) := by omega
    clear hjk cj e0 e1 e2 e3 hcl hx2 hbn hqs hms
    have S0 := Aside0.mk ((Sep.start w5).newBlk 75 #[.int .i64 (p : Int), .slice B bn cB]).drew
    go_wp2_with fail
    obtain ⟨W2, hW2⟩ : ∃ x, w5.alloc (.cells #[.int .i64 (p : Int), .slice B bn cB] 75) = x := ⟨_, rfl⟩
    rw [hW2] at BD S0 ⊢
    clear hgc hW2
    refine start_ (n := 12) (S := fun w' => w'.cell? ⟨gx, 4, none⟩ = some (.slice (some ⟨gp, 0, none⟩) N cp) ∧ w'.cell? ⟨gc, 0, none⟩ = some (.int .i64 (p : Int)) ∧ w'.cell? ⟨gc, 1, none⟩ = some (.slice B bn cB)) (ds := [11]) #[Z,Z,Z,Z,Z,Z,Z,Z,Z,Z,Z,Z] (by kernel_rfl) rfl rfl ⟨(BD.out.at2.cell 4).trans rfl, (BD.out.cell 0).trans rfl, (BD.out.cell 1).trans rfl⟩ (fun hHeld => ?_)
    refine pu_ 0 12 ?_ #[J,Z,Z,Z,Z,Z,Z,Z,Z,Z,Z,Z] rfl rfl ?_ ?_ ?_ ?_
    rotate_left
    · intro w'
      go_simp
      with_reducible rfl
    rotate_left
    · simp only [aP]
      rfl
    refine pu_ 1 13 ?_ #[J,J,Z,Z,Z,Z,Z,Z,Z,Z,Z,Z] rfl rfl ?_ ?_ ?_ ?_
    rotate_left
    · intro w'
      go_simp
      with_reducible rfl
    rotate_left
    · simp only [aP]
      rfl
    refine pu_ 2 14 ?_ #[J,J,J,Z,Z,Z,Z,Z,Z,Z,Z,Z] rfl rfl ?_ ?_ ?_ ?_
    rotate_left
    · intro w'
      go_simp
      with_reducible rfl
    rotate_left
    · simp only [aP]
      rfl
    refine pu_ 4 16 ?_ #[J,J,J,Z,J,Z,Z,Z,Z,Z,Z,Z] rfl rfl ?_ ?_ ?_ ?_
    rotate_left
    · intro w'
      go_simp
      with_reducible rfl
    rotate_left
    · simp only [aP]
      rfl
    refine pu_ 7 19 ?_ #[J,J,J,Z,J,Z,Z,J,Z,Z,Z,Z] rfl rfl ?_ ?_ ?_ ?_
    rotate_left
    · intro w'
      go_simp
      with_reducible rfl
    rotate_left
    · simp only [aP]
      rfl
    refine ta_ 3 15 ?_ #[J,J,J,J,J,Z,Z,J,Z,Z,Z,Z] rfl rfl ?_ hHeld ?_ ?_ ?_
    rotate_left
    · rintro w' ⟨s0, s1, s2⟩
      go_simp
      with_reducible rfl
    rotate_left
    · simp only [aP]
      rfl
    refine ta_ 5 17 ?_ #[J,J,J,J,J,J,Z,J,Z,Z,Z,Z] rfl rfl ?_ hHeld ?_ ?_ ?_
    rotate_left
    · rintro w' ⟨s0, s1, s2⟩
      go_simp
      with_reducible rfl
    rotate_left
    · simp only [aP]
      rfl
    refine ta_ 8 20 ?_ #[J,J,J,J,J,J,Z,J,J,Z,Z,Z] rfl rfl ?_ hHeld ?_ ?_ ?_
    rotate_left
    · rintro w' ⟨s0, s1, s2⟩
      go_simp
      with_reducible rfl
    rotate_left
    · simp only [aP]
      rfl
    refine one_ (i := 6) (N := some 18) #[J,J,J,J,J,J,J,J,J,Z,Z,Z] rfl rfl (by kernel_rfl) (by decide) (fun K hK => ?_)
    refine value_ (w1 := ?_) (v := ?_) (by rfl) rfl ?_ ?_
    rotate_left 2
    · go_simp
      constructor
      · rfl
      · rfl
    have B6 : Aside0 (Sep w0 _ (Row (Kd.int .u8) 5 (.slice (some ⟨W2.heap.size, 0, none⟩) 0 0) [] :: _)) := ⟨BD.out.litRow (enc := Value.int .u8) (h1 := fun _ => rfl) (e := 5) [] (by decide)⟩
    have S6 := Aside0.mk (S0.out.litRow (enc := Value.int .u8) (h1 := fun _ => rfl) (e := 5) [] (by decide))
    refine hK.out _ _ ⟨(B6.out.at3.cell 4).trans rfl, (B6.out.at2.cell 0).trans rfl, (B6.out.at2.cell 1).trans rfl⟩ (fun hHeld => ?_)
    clear hK K
    refine norm_ (a' := ?_) ?_ ?_
    rotate_left
    · show Act.put _ (some 18) _ = _
      simp only [aP]
      rfl
    refine one_ (i := 9) (N := some 21) #[J,J,J,J,J,J,J,J,J,J,Z,Z] rfl rfl (by kernel_rfl) (by decide) (fun K hK => ?_)
    refine B6.out.appendStep (by rfl) (.tmp 18) (.tmp 20) 24 (.int .u8 0) 1 rfl Tryz.underlying24 Base.infoB rfl (by decide) B bn cB (by rfl) (by rfl) (Kd.C_below HE.out.2 S6.out.toBelow) (by have := HBN.out; simp only [List.length_nil]; omega) ?_
    intro v9 w9 hS9
    rw [List.nil_append] at hS9
    obtain ⟨A9, c9, rfl⟩ := hS9.rowN HBN.out.2
    have B9 := Aside0.mk hS9.clSlice
    obtain ⟨ux, f5, f6⟩ := B9.out.at4.rowVFrozen (i := p) hpN
    clear hS9
    refine hK.out _ _ ⟨(B9.out.at3.cell 4).trans rfl, (B9.out.at2.cell 0).trans rfl, (B9.out.at2.cell 1).trans rfl⟩ (fun hHeld => ?_)
    clear hK K
    refine norm_ (a' := ?_) ?_ ?_
    rotate_left
    · show Act.put _ (some 21) _ = _
      simp only [aP]
      rfl
    refine pu_ 10 22 ?_ #[J,J,J,J,J,J,J,J,J,J,J,Z] rfl rfl ?_ ?_ ?_ ?_
    rotate_left
    · intro w'
      go_simp
      with_reducible rfl
    rotate_left
    · simp only [aP]
      rfl
    refine last_ (i := 11) (N := none) #[J,J,J,J,J,J,J,J,J,J,J,J] rfl rfl (by kernel_rfl) (by decide) (fun K hK => ?_)
    refine skip_ (w1 := ?_) (by rfl) rfl ?_ ?_
    rotate_left
    · go_simp
      rfl
    refine hK.out _ _ ?_
    clear hK K
    refine done_ (by kernel_rfl) ?_
    have B11' := B9.out.at4.putV (i := p) (cl := ⟨.slice A9 bn c9, rfl⟩)
    obtain ⟨w11, hw11⟩ : ∃ x, w9.setCell ⟨gp, p, none⟩ (.slice A9 bn c9) = x := ⟨_, rfl⟩
    have B11 : Aside0 (Sep w0 w11 _) := ⟨by have h_ := B11'; rw [show w9.setCell ⟨gp, p, none⟩ (⟨.slice A9 bn c9, rfl⟩ : OV).1 = w11 from hw11] at h_; exact h_⟩
    rw [hw11]
    have BD2 := Aside0.mk B11.out.drew
    obtain ⟨f7, f8⟩ := BD2.out.at4.rowCell (enc := Value.bool) false p hpN
    clear hw11 B11' f5 f6
    go_wp2_with fail
    refine start_ (n := 8) (S := fun w' => w'.cell? ⟨gx, 5, none⟩ = some (.slice (some ⟨gn, 0, none⟩) N cn) ∧ w'.cell? ⟨gc, 0, none⟩ = some (.int .i64 (p : Int))) (ds := [7]) #[Z,Z,Z,Z,Z,Z,Z,Z] (by kernel_rfl) rfl rfl ⟨(BD2.out.at3.cell 5).trans rfl, (BD2.out.at2.cell 0).trans rfl⟩ (fun hHeld => ?_)
    refine pu_ 0 23 ?_ #[J,Z,Z,Z,Z,Z,Z,Z] rfl rfl ?_ ?_ ?_ ?_
    rotate_left
    · intro w'
      go_simp
      with_reducible rfl
    rotate_left
    · simp only [aP]
      rfl
    refine pu_ 1 24 ?_ #[J,J,Z,Z,Z,Z,Z,Z] rfl rfl ?_ ?_ ?_ ?_
    rotate_left
    · intro w'
      go_simp
      with_reducible rfl
    rotate_left
    · simp only [aP]
      rfl
    refine pu_ 2 25 ?_ #[J,J,J,Z,Z,Z,Z,Z] rfl rfl ?_ ?_ ?_ ?_
    rotate_left
    · intro w'
      go_simp
      with_reducible rfl
    rotate_left
    · simp only [aP]
      rfl
    refine pu_ 4 27 ?_ #[J,J,J,Z,J,Z,Z,Z] rfl rfl ?_ ?_ ?_ ?_
    rotate_left
    · intro w'
      go_simp
      with_reducible rfl
    rotate_left
    · simp only [aP]
      rfl
    refine ta_ 3 26 ?_ #[J,J,J,J,J,Z,Z,Z] rfl rfl ?_ hHeld ?_ ?_ ?_
    rotate_left
    · rintro w' ⟨s0, s1⟩
      go_simp
      with_reducible rfl
    rotate_left
    · simp only [aP]
      rfl
    refine ta_ 5 28 ?_ #[J,J,J,J,J,J,Z,Z] rfl rfl ?_ hHeld ?_ ?_ ?_
    rotate_left
    · rintro w' ⟨s0, s1⟩
      go_simp
      with_reducible rfl
    rotate_left
    · simp only [aP]
      rfl
    refine pu_ 6 29 ?_ #[J,J,J,J,J,J,J,Z] rfl rfl ?_ ?_ ?_ ?_
    rotate_left
    · intro w'
      go_simp
      with_reducible rfl
    rotate_left
    · simp only [aP]
      rfl
    refine last_ (i := 7) (N := none) #[J,J,J,J,J,J,J,J] rfl rfl (by kernel_rfl) (by decide) (fun K hK => ?_)
    refine skip_ (w1 := ?_) (by rfl) rfl ?_ ?_
    rotate_left
    · go_simp
      rfl
    refine hK.out _ _ ?_
    clear hK K
    refine done_ (by kernel_rfl) ?_
    have B12 := Aside0.mk ((BD2.out.at4.putRow (enc := Value.bool) p true))
    go_wp2_with fail
    go_roundg (gk - 1)
    case measure => have := AK.out; omega
    case rel => exact ⟨j + 1, by go_num, by have := AK.out; omega, by rw [HT.out.1, HT.out.2, HO.out.1, HO.out.2]; exact B12.out.at3.tail.at2.at3.at3.to3⟩
end
end Go.Proofs.YtjngnigelkgekaaGreat.RStore
namespace Go.Proofs.YtjngnigelkgekaaGreat.Kit.Sep
open Go.Proofs.YtjngnigelkgekaaGreat.Kit
theorem pull (A : List HP) {w0 W : World} {p : HP} {B : List HP} (h : Sep w0 W (A ++ p :: B)) : Sep w0 W (p :: (A ++ B)) := h.perm List.perm_middle
theorem push (A : List HP) {w0 W : World} {p : HP} {B : List HP} (h : Sep w0 W (p :: (A ++ B))) : Sep w0 W (A ++ p :: B) := h.perm List.perm_middle.symm
theorem turn3 {w0 W : World} {p q r : HP} {F : List HP} (h : Sep w0 W (p :: q :: r :: F)) : Sep w0 W (r :: q :: p :: F) := Sep.pull [_] (Sep.pull [_, _] (Sep.pull [_, _] h))
end Go.Proofs.YtjngnigelkgekaaGreat.Kit.Sep
namespace Go.Proofs.YtjngnigelkgekaaGreat.Deed
open Go.RowKit Go.Proofs.YtjngnigelkgekaaGreatW.PrintWords Go.Proofs.YtjngnigelkgekaaGreatW.PrintLast Go.Proofs.YtjngnigelkgekaaGreatW.PrintMore Go.Proofs.YtjngnigelkgekaaGreat.Kit Go.Proofs.YtjngnigelkgekaaGreat.Disk
open Go.Proofs.YtjngnigelkgekaaGreat.Home (RTL)
abbrev DS := List Int × Wt
abbrev Dd := Option (Nat × List Int)
def doD (S : DS) : Dd → DS
  | none => (flushed S.1 S.2, fun _ => none)
  | some (i, b) => (S.1, fun j => if j = i then some b else S.2 j)
def runD (S : DS) (ds : List Dd) : DS := ds.foldl doD S
def cutD (k : Int) (ds : List Dd) : List Dd := if k < 0 then ds else ds.take k.toNat
def leftD (k : Int) (m : Nat) : Int := if k < 0 then k else if (m : Int) ≤ k then k - m else 0
def OkS (n : Nat) (S : DS) : Prop := S.1.length = 64 * n ∧ ∀ i b, S.2 i = some b → b.length = 64
def OkD (n : Nat) (ds : List Dd) : Prop := ∀ i b, some (i, b) ∈ ds → i < n ∧ b.length = 64
theorem OkD.nil {n : Nat} : OkD n [] := fun i b h => by cases h
theorem OkD.flush {n : Nat} {ds : List Dd} (h : OkD n ds) : OkD n (ds ++ [none]) := fun i b hm => by
  rcases List.mem_append.1 hm with hm | hm
  · exact h i b hm
  · cases List.mem_singleton.1 hm
theorem OkD.write {n : Nat} {ds : List Dd} (h : OkD n ds) {i : Nat} {b : List Int} (hi : i < n) (hb : b.length = 64) : OkD n (ds ++ [some (i, b)]) := fun j c hm => by
  rcases List.mem_append.1 hm with hm | hm
  · exact h j c hm
  · cases List.mem_singleton.1 hm; exact ⟨hi, hb⟩
theorem OkS.one {n : Nat} {S : DS} (h : OkS n S) {x : Dd} (hx : ∀ i b, x = some (i, b) → i < n ∧ b.length = 64) : OkS n (doD S x) := by
  match x with
  | none => exact ⟨Ref.flushed_len h.1 h.2, Ref.none_len⟩
  | some (i, b) => exact ⟨h.1, Ref.upd_len h.2 (hx i b rfl).2⟩
theorem OkS.run {n : Nat} : ∀ {ds : List Dd} {S : DS}, OkS n S → OkD n ds → OkS n (runD S ds)
  | [], _, h, _ => h
  | x :: t, _, h, hd => OkS.run (ds := t) (h.one (fun i b e => hd i b (by rw [← e]; exact List.mem_cons_self ..))) (fun i b hm => hd i b (List.mem_cons_of_mem _ hm))
theorem OkD.cut {n : Nat} {ds : List Dd} (h : OkD n ds) (k : Int) : OkD n (cutD k ds) := by
  unfold cutD
  split
  · exact h
  · exact fun i b hm => h i b (List.mem_of_mem_take hm)
theorem runD_snoc (S : DS) (ds : List Dd) (x : Dd) : runD S (ds ++ [x]) = doD (runD S ds) x := by unfold runD; rw [List.foldl_append]; rfl
theorem runD_append (S : DS) (ds es : List Dd) : runD S (ds ++ es) = runD (runD S ds) es := by unfold runD; rw [List.foldl_append]
theorem cutD_all (ds : List Dd) : cutD (-1) ds = ds := if_pos (by decide)
theorem leftD_all (m : Nat) : leftD (-1) m = -1 := if_pos (by decide)
theorem step_yes {k : Int} {ds : List Dd} (h : k < 0 ∨ (ds.length : Int) < k) (x : Dd) : leftD k ds.length ≠ 0 ∧ Ref.leftF (leftD k ds.length) = leftD k (ds ++ [x]).length ∧ cutD k (ds ++ [x]) = cutD k ds ++ [x] := by
  rw [List.length_append, List.length_singleton]
  by_cases h0 : k < 0
  · unfold leftD cutD Ref.leftF
    rw [if_pos h0, if_pos h0, if_pos h0, if_pos h0, if_neg (show ¬ 0 < k by omega)]
    exact ⟨by omega, rfl, rfl⟩
  · have h1 : (ds.length : Int) < k := h.resolve_left h0
    unfold leftD cutD Ref.leftF
    rw [if_neg h0, if_neg h0, if_neg h0, if_neg h0, if_pos (show (ds.length : Int) ≤ k by omega), if_pos (show ((ds.length + 1 : Nat) : Int) ≤ k by omega), if_pos (show 0 < k - (ds.length : Int) by omega)]
    refine ⟨by omega, by omega, ?_⟩
    rw [List.take_of_length_le (by rw [List.length_append, List.length_singleton]; omega), List.take_of_length_le (by omega)]
theorem step_no {k : Int} {ds : List Dd} (h : ¬ (k < 0 ∨ (ds.length : Int) < k)) (x : Dd) : leftD k ds.length = 0 ∧ leftD k (ds ++ [x]).length = 0 ∧ cutD k (ds ++ [x]) = cutD k ds := by
  rw [List.length_append, List.length_singleton]
  have h0 : ¬ k < 0 := fun h' => h (.inl h')
  have h1 : ¬ (ds.length : Int) < k := fun h' => h (.inr h')
  unfold leftD cutD
  rw [if_neg h0, if_neg h0, if_neg h0, if_neg h0, if_neg (show ¬ ((ds.length + 1 : Nat) : Int) ≤ k by omega)]
  refine ⟨?_, rfl, ?_⟩
  · split <;> omega
  · exact List.take_append_of_le_length (by omega)
def RQ (gr n : Nat) (S : DS) (k : Int) (d : Nat) (ds : List Dd) : HP := RTL gr n (runD S (cutD k ds)).1 (runD S (cutD k ds)).2 (leftD k ds.length) ((d + (cutD k ds).length : Nat) : Int)
section
variable {w0 W : World} {gr n d : Nat} {S : DS} {k : Int} {ds : List Dd} {F : List HP}
theorem cut_len (k : Int) (ds : List Dd) : (cutD k ds).length ≤ ds.length := by unfold cutD; split <;> simp <;> omega
theorem left_in {k : Int} {m : Nat} (hk : -1 ≤ k ∧ k ≤ 1000000) : -9223372036854775808 ≤ leftD k m ∧ leftD k m ≤ 9223372036854775807 := by
  unfold leftD; split
  · omega
  · split <;> omega
theorem rq_start (h : Sep w0 W (RTL gr n S.1 S.2 k (d : Int) :: F)) (hk : -1 ≤ k) : Sep w0 W (RQ gr n S k d [] :: F) := by
  have h1 : cutD k [] = [] := by unfold cutD; split <;> simp
  have h2 : leftD k 0 = k := by unfold leftD; split; rfl; rw [if_pos (by omega)]; omega
  unfold RQ
  rw [h1, List.length_nil, h2]
  exact h
theorem rq_all (h : Sep w0 W (RQ gr n S (-1) d ds :: F)) : Sep w0 W (RTL gr n (runD S ds).1 (runD S ds).2 (-1) ((d + ds.length : Nat) : Int) :: F) := by
  unfold RQ at h
  rw [cutD_all, leftD_all] at h
  exact h
theorem qflush_ (h : Sep w0 W (RQ gr n S k d ds :: F)) (hs : OkS n S) (hd : OkD n ds) (hk : -1 ≤ k ∧ k ≤ 1000000) (hb : d + ds.length ≤ 2000000) :
    Calls Tryz.prog 44 #[.pointer (some ⟨gr, 0, none⟩)] W fun e w' => e = .returned (.tuple #[]) ∧ Sep w0 w' (RQ gr n S k d (ds ++ [none]) :: F) := by
  have hr := hs.run (hd.cut k)
  have hc := cut_len k ds
  by_cases hy : k < 0 ∨ (ds.length : Int) < k
  · obtain ⟨e1, e2, e3⟩ := step_yes hy none
    refine (Ref.flush_in h e1 (left_in hk) (by omega)).mono ?_
    rintro e w' ⟨rfl, hS⟩
    refine ⟨rfl, ?_⟩
    unfold RQ
    rw [← e2, e3, runD_snoc, List.length_append, List.length_singleton]
    show Sep w0 w' (Ref.RD gr n (flushed _ _) (flushed (flushed _ _) (fun _ => none)) (Ref.waitL n (fun _ => none)) _ _ :: F)
    rw [flushed_none (Ref.flushed_len hr.1 hr.2), Ref.waitL_none]
    have e4 : ((d + ((cutD k ds).length + 1) : Nat) : Int) = ((d + (cutD k ds).length : Nat) : Int) + 1 := by omega
    rw [e4]
    exact hS
  · obtain ⟨e1, e2, e3⟩ := step_no hy none
    have h0 := h
    unfold RQ at h
    rw [e1] at h
    refine (Ref.flush_no h).mono ?_
    rintro e w' ⟨rfl, rfl⟩
    refine ⟨rfl, ?_⟩
    unfold RQ
    rw [e2, e3]
    exact h
theorem qwrite_ (h : Sep w0 W (RQ gr n S k d ds :: F)) (hs : OkS n S) (hd : OkD n ds) (hk : -1 ≤ k ∧ k ≤ 1000000) (hb : d + ds.length ≤ 2000000) (i : Nat) (hi : i < n) {A : Option Addr} {c : Nat} {b : List Int} (hx : ∀ W', Sep w0 W' F → U8.C W' A 64 b) :
    Calls Tryz.prog 79 #[.pointer (some ⟨gr, 0, none⟩), .int .i64 (i : Int), .slice A 64 c] W fun e w' => e = .returned (.bool true) ∧ Sep w0 w' (RQ gr n S k d (ds ++ [some (i, b)]) :: F) := by
  have hr := hs.run (hd.cut k)
  have hc := cut_len k ds
  by_cases hy : k < 0 ∨ (ds.length : Int) < k
  · obtain ⟨e1, e2, e3⟩ := step_yes hy (some (i, b))
    refine (Ref.write_in h e1 (left_in hk) (by omega) i hi hx).mono ?_
    rintro e w' ⟨rfl, hS⟩
    refine ⟨rfl, ?_⟩
    unfold RQ
    rw [← e2, e3, runD_snoc, List.length_append, List.length_singleton]
    show Sep w0 w' (Ref.RD gr n (runD S (cutD k ds)).1 (flushed (runD S (cutD k ds)).1 (fun j => if j = i then some b else (runD S (cutD k ds)).2 j)) (Ref.waitL n (fun j => if j = i then some b else (runD S (cutD k ds)).2 j)) _ _ :: F)
    have e4 : ((d + ((cutD k ds).length + 1) : Nat) : Int) = ((d + (cutD k ds).length : Nat) : Int) + 1 := by omega
    rw [e4, ← Ref.flushed_write hr.1 hr.2 hi (hx W h.tail).1, ← Ref.waitL_set _ i b]
    exact hS
  · obtain ⟨e1, e2, e3⟩ := step_no hy (some (i, b))
    unfold RQ at h
    rw [e1] at h
    refine (Ref.write_no h i hi).mono ?_
    rintro e w' ⟨rfl, rfl⟩
    refine ⟨rfl, ?_⟩
    unfold RQ
    rw [e2, e3]
    exact h
end
end Go.Proofs.YtjngnigelkgekaaGreat.Deed
namespace Go.Proofs.YtjngnigelkgekaaGreat.Store
open Go.RowKit Go.Proofs.YtjngnigelkgekaaGreatW.PrintWords Go.Proofs.YtjngnigelkgekaaGreatW.PrintLast Go.Proofs.YtjngnigelkgekaaGreatW.PrintMore Go.Proofs.YtjngnigelkgekaaGreat.Kit Go.Proofs.YtjngnigelkgekaaGreat.Base Go.Proofs.YtjngnigelkgekaaGreat.Plain
open Go.Proofs.YtjngnigelkgekaaGreat.Delta (Chg KC deltaF rightF okF oneF two undeltaF rawF countF chunkF)
theorem okF_flat : ∀ {l : List Chg} {pages last : Int}, okF pages last l = true → -1 ≤ last → (l.flatMap oneF).length = 66 * l.length ∧ ((l.length : Int) ≤ 0 ∨ (l.length : Int) + last + 1 ≤ pages)
  | [], _, _, _, _ => ⟨rfl, .inl (by simp)⟩
  | c :: r, pages, last, h, hl => by
    unfold okF at h
    rw [Bool.and_eq_true, decide_eq_true_eq] at h
    obtain ⟨h1, h2⟩ := okF_flat h.2 (by omega)
    refine ⟨?_, .inr ?_⟩
    · rw [List.flatMap_cons, List.length_append, h1]
      simp [oneF, two, h.1.2.2]
      omega
    · rw [List.length_cons]
      omega
theorem right_len {l : List Chg} {pages : Int} (h : rightF l pages = true) : (deltaF l).length = 2 + 66 * l.length ∧ l.length ≤ 64 := by
  unfold rightF at h
  rw [Bool.and_eq_true, decide_eq_true_eq] at h
  obtain ⟨h1, h2⟩ := okF_flat h.2 (by omega)
  refine ⟨?_, by omega⟩
  unfold deltaF
  rw [List.length_append, h1]
  simp [two]
theorem flat_drop : ∀ {l : List Chg} (_ : ∀ c ∈ l, c.2.length = 64) (i : Nat), (l.flatMap oneF).drop (66 * i) = (l.drop i).flatMap oneF
  | _, _, 0 => rfl
  | [], _, i + 1 => by simp
  | c :: r, h, i + 1 => by
    have hlen : (oneF c).length = 66 := by simp [oneF, two, h c (List.mem_cons_self ..)]
    rw [List.flatMap_cons, show 66 * (i + 1) = 66 + 66 * i by omega, ← List.drop_drop, List.drop_left' hlen, List.drop_succ_cons]
    exact flat_drop (fun x hx => h x (List.mem_cons_of_mem _ hx)) i
theorem undelta_delta {l : List Chg} {pages : Int} (h : rightF l pages = true) : undeltaF (deltaF l) pages = some l := by
  have hr := right_len h
  have h' := h
  unfold rightF at h'
  rw [Bool.and_eq_true, decide_eq_true_eq] at h'
  have hall := right_all h'.2 (by omega)
  have hfl : ∀ c ∈ l, c.2.length = 64 := fun c hc => (hall c hc).2.2
  have hc : countF (deltaF l) = l.length := by
    unfold countF deltaF two rd
    simp
    omega
  have hraw : rawF (deltaF l) = l := by
    unfold rawF
    rw [hc]
    apply List.ext_getElem (by simp)
    intro i h1 h2
    rw [List.getElem_map, List.getElem_range]
    have hd : (deltaF l).drop (2 + 66 * i) = oneF l[i] ++ (l.drop (i + 1)).flatMap oneF := by
      rw [← List.drop_drop]
      show ((l.flatMap oneF).drop (66 * i)) = _
      rw [flat_drop hfl, List.drop_eq_getElem_cons h2, List.flatMap_cons]
    have hr2 : ∀ k : Nat, rd (deltaF l) ((2 + 66 * i + k : Nat) : Int) = rd (oneF l[i] ++ (l.drop (i + 1)).flatMap oneF) (k : Int) := fun k => by
      rw [← hd]
      unfold rd
      rw [Int.toNat_natCast, Int.toNat_natCast, List.getD_eq_getElem?_getD, List.getD_eq_getElem?_getD, List.getElem?_drop]
    have hp := hall l[i] (List.getElem_mem h2)
    have e0 := hr2 0
    have e1 := hr2 1
    unfold chunkF
    apply Prod.ext
    · show rd (deltaF l) ((2 + 66 * i : Nat) : Int) * 256 + rd (deltaF l) ((3 + 66 * i : Nat) : Int) = _
      rw [show 3 + 66 * i = 2 + 66 * i + 1 by omega, e1]
      have e0' : rd (deltaF l) ((2 + 66 * i : Nat) : Int) = _ := e0
      rw [e0']
      have hpp : pages ≤ 64 := h'.1
      simp [oneF, two, rd]
      omega
    · show ((deltaF l).drop (4 + 66 * i)).take 64 = _
      rw [show 4 + 66 * i = 2 + 66 * i + 2 by omega, ← List.drop_drop, hd]
      show (((l[i]).2 ++ (l.drop (i + 1)).flatMap oneF)).take 64 = _
      rw [List.take_append_of_le_length (by rw [hp.2.2]; exact Nat.le_refl _), List.take_of_length_le (by rw [hp.2.2]; exact Nat.le_refl _)]
  unfold undeltaF
  rw [if_neg (by omega), if_neg (by rw [hc]; omega), hraw, h]
  rfl
end Go.Proofs.YtjngnigelkgekaaGreat.Store
namespace Go.Proofs.YtjngnigelkgekaaGreat.Store
open Go.RowKit Go.Proofs.YtjngnigelkgekaaGreatW.PrintWords Go.Proofs.YtjngnigelkgekaaGreatW.PrintLast Go.Proofs.YtjngnigelkgekaaGreatW.PrintMore Go.Proofs.YtjngnigelkgekaaGreat.Kit Go.Proofs.YtjngnigelkgekaaGreat.Plain Go.Proofs.YtjngnigelkgekaaGreat.Disk Go.Proofs.YtjngnigelkgekaaGreat.Root
def putsW (n : Nat) (s : Nat) (z : List Int) : Nat → Wt → Wt
  | 0, wt => wt
  | k + 1, wt => putW n (putsW n s z k wt) (s + k) z
theorem putsW_len {n s : Nat} {z : List Int} {wt : Wt} (hw : ∀ i b, wt i = some b → b.length = 64) : ∀ (k : Nat), ∀ i b, putsW n s z k wt i = some b → b.length = 64
  | 0 => hw
  | k + 1 => putW_len (putsW_len hw k)
abbrev zz64 : List Int := List.replicate 64 0
def fmtL (n : Nat) (las : List Int) (wt : Wt) (a b : Nat) : List Int :=
  flushed (flushed (flushed las (putsW n 0 zz64 2 wt)) (putsW n 2 zz64 (a + b) (fun _ => none))) (putW n (fun _ => none) 1 (rootF (m32 (a : Int)) (m32 (b : Int)) 1))
section
variable {w0 W : World} {F : List HP} {g n : Nat} {las : List Int} {wt : Wt}
set_option maxHeartbeats 1600000 in
set_option maxRecDepth 100000 in
theorem format_bad (h : Sep w0 W (Dsk g las wt :: F)) (hl : las.length = 64 * n) (a b : Int) (hr : rightR a b 1 n = false) : Calls Tryz.prog 27 #[.pointer (some ⟨g, 0, none⟩), .int .i64 a, .int .i64 b] W fun e w' => e = .returned (.int .i64 25) ∧ Sep w0 w' (Dsk g las wt :: F) := by
  have A0 := Aside0.mk (h.newBlk 80 #[.int .i64 a, .int .i64 b, .int .u32 1]).drew
  have HLN : Aside0 ((las.length : Int) / 64 = (n : Int)) := ⟨by omega⟩
  have HR := Aside0.mk hr
  clear h hl hr
  go_enter Tryz.func27, Tryz.ntmps27
  go_wp2_with fail
  refine start_ (n := 5) (S := fun w' => w'.cell? ⟨W.heap.size, 0, none⟩ = some (.int .i64 a) ∧ w'.cell? ⟨W.heap.size, 1, none⟩ = some (.int .i64 b) ∧ w'.cell? ⟨W.heap.size, 2, none⟩ = some (.int .u32 1)) (ds := [3]) #[Z,Z,Z,Z,Z] (by kernel_rfl) rfl rfl ⟨(A0.out.cell 0).trans rfl, (A0.out.cell 1).trans rfl, (A0.out.cell 2).trans rfl⟩ (fun hHeld => ?_)
  refine pu_ 1 17 ?_ #[Z,J,Z,Z,Z] rfl rfl ?_ ?_ ?_ ?_
  rotate_left
  · intro w'
    go_simp
    with_reducible rfl
  rotate_left
  · simp only [aP]
    rfl
  refine ta_ 0 16 ?_ #[J,J,Z,Z,Z] rfl rfl ?_ hHeld ?_ ?_ ?_
  rotate_left
  · rintro w' ⟨s0, s1, s2⟩
    go_simp
    with_reducible rfl
  rotate_left
  · simp only [aP]
    rfl
  refine one_ (i := 2) (N := some 18) #[J,J,J,Z,Z] rfl rfl (by kernel_rfl) (by decide) (fun K hK => ?_)
  refine goes_ Tryz.func65 (by kernel_rfl) rfl #[.pointer (some ⟨g, 0, none⟩)] (by rfl) rfl rfl (by simp only [List.map_toArray, List.map_cons, List.map_nil]; rfl) ?_
  with_reducible refine (len_ A0.out.at2).mono ?_
  rintro e w4 ⟨rfl, rfl⟩
  refine ⟨_, rfl, ?_⟩
  rw [HLN.out]
  refine hK.out _ _ ⟨(A0.out.cell 0).trans rfl, (A0.out.cell 1).trans rfl, (A0.out.cell 2).trans rfl⟩ (fun hHeld => ?_)
  clear hK K
  refine norm_ (a' := ?_) ?_ ?_
  rotate_left
  · show Act.put _ (some 18) _ = _
    simp only [aP]
    rfl
  refine last_ (i := 3) (N := some 19) #[J,J,J,J,Z] rfl rfl (by kernel_rfl) (by decide) (fun K hK => ?_)
  refine goes_ Tryz.func64 (by kernel_rfl) rfl #[.agg #[.int .i64 a, .int .i64 b, .int .u32 1], .int .i64 (n : Int)] (by rfl) rfl rfl (by simp only [List.map_toArray, List.map_cons, List.map_nil]; rfl) ?_
  with_reducible refine (right_ a b 1 (n : Int) _).mono ?_
  rintro e w5 ⟨rfl, hb5⟩
  refine ⟨_, rfl, ?_⟩
  rw [HR.out]
  have A5 := Aside0.mk (A0.out.below hb5)
  clear hb5
  refine hK.out _ _ ?_
  clear hK K
  refine norm_ (a' := ?_) ?_ ?_
  rotate_left
  · show Act.put _ (some 19) _ = _
    simp only [aP]
    rfl
  refine pu_ 4 20 ?_ #[J,J,J,J,J] rfl rfl ?_ ?_ ?_ ?_
  rotate_left
  · intro w'
    go_simp
    with_reducible rfl
  rotate_left
  · simp only [aP]
    rfl
  refine done_ (by kernel_rfl) ?_
  go_wp2_with fail
  go_ret
  exact ⟨by first | rfl | (simp; done), A5.out.tail⟩
set_option maxHeartbeats 1600000 in
set_option maxRecDepth 100000 in
theorem format_ok (h : Sep w0 W (Dsk g las wt :: F)) (hl : las.length = 64 * n) (hn : n ≤ 160) (hw : ∀ i b, wt i = some b → b.length = 64) (a b : Nat) (hr : rightR (a : Int) (b : Int) 1 n = true) : Calls Tryz.prog 27 #[.pointer (some ⟨g, 0, none⟩), .int .i64 (a : Int), .int .i64 (b : Int)] W fun e w' => e = .returned (.int .i64 0) ∧ Sep w0 w' (Dsk g (fmtL n las wt a b) (fun _ => none) :: F) := by
  have A0 := Aside0.mk (h.newBlk 80 #[.int .i64 (a : Int), .int .i64 (b : Int), .int .u32 1]).drew
  have HLN : Aside0 ((las.length : Int) / 64 = (n : Int)) := ⟨by omega⟩
  have HR := Aside0.mk hr
  have HL := Aside0.mk (And.intro hl (And.intro hn hw))
  have h1 := of_decide_eq_true hr
  have hab : a + b ≤ 160 := by omega
  have HAB := Aside0.mk hab
  have hws : wrap64 ((a : Int) + (b : Int)) = ((a + b : Nat) : Int) := by rw [IntWalk.wrap64_in _ (by omega)]; omega
  obtain ⟨M, hM⟩ : ∃ M, a + b = M := ⟨_, rfl⟩
  rw [hM] at hws HAB
  have HM := Aside0.mk hM
  have hmk : ∀ W : World, (Instr.makeSlice 24 (.int .i64 64) (.int .i64 64)).run Tryz.prog W = .ok (.slice (some ⟨W.heap.size, 0, none⟩) 64 64) (W.alloc (.cells (madeCells #[.int .u8 0] 64) 5)) := make_ (m := 64) (by omega)
  obtain ⟨G0, hG0⟩ : ∃ G, W.heap.size = G := ⟨_, rfl⟩
  rw [hG0] at A0
  clear h hl hr hn hw h1 hab hM
  go_enter Tryz.func27, Tryz.ntmps27
  go_wp2_with fail
  obtain ⟨w1, hw1⟩ : ∃ x, W.alloc (.cells #[.int .i64 (a : Int), .int .i64 (b : Int), .int .u32 1] 80) = x := ⟨_, rfl⟩
  rw [hw1] at A0 ⊢
  clear hw1 hG0
  refine start_ (n := 5) (S := fun w' => w'.cell? ⟨G0, 0, none⟩ = some (.int .i64 (a : Int)) ∧ w'.cell? ⟨G0, 1, none⟩ = some (.int .i64 (b : Int)) ∧ w'.cell? ⟨G0, 2, none⟩ = some (.int .u32 1)) (ds := [3]) #[fF,fF,fF,fF,fF] (by kernel_rfl) rfl rfl ⟨(A0.out.cell 0).trans rfl, (A0.out.cell 1).trans rfl, (A0.out.cell 2).trans rfl⟩ (fun hHeld => ?_)
  refine pu_ 1 17 ?_ #[fF,tT,fF,fF,fF] rfl rfl ?_ ?_ ?_ ?_
  rotate_left
  · intro w'
    go_simp
    with_reducible rfl
  rotate_left
  · simp only [aP]
    rfl
  refine ta_ 0 16 ?_ #[tT,tT,fF,fF,fF] rfl rfl ?_ hHeld ?_ ?_ ?_
  rotate_left
  · rintro w' ⟨s0, s1, s2⟩
    go_simp
    with_reducible rfl
  rotate_left
  · simp only [aP]
    rfl
  refine one_ (i := 2) (N := some 18) #[tT,tT,tT,fF,fF] rfl rfl (by kernel_rfl) (by decide) (fun K hK => ?_)
  refine goes_ Tryz.func65 (by kernel_rfl) rfl #[.pointer (some ⟨g, 0, none⟩)] (by rfl) rfl rfl (by simp only [List.map_toArray, List.map_cons, List.map_nil]; rfl) ?_
  with_reducible refine (len_ A0.out.at2).mono ?_
  rintro e w4 ⟨rfl, rfl⟩
  refine ⟨_, rfl, ?_⟩
  rw [HLN.out]
  refine hK.out _ _ ⟨(A0.out.cell 0).trans rfl, (A0.out.cell 1).trans rfl, (A0.out.cell 2).trans rfl⟩ (fun hHeld => ?_)
  clear hK K
  refine norm_ (a' := ?_) ?_ ?_
  rotate_left
  · show Act.put _ (some 18) _ = _
    simp only [aP]
    rfl
  refine last_ (i := 3) (N := some 19) #[tT,tT,tT,tT,fF] rfl rfl (by kernel_rfl) (by decide) (fun K hK => ?_)
  refine goes_ Tryz.func64 (by kernel_rfl) rfl #[.agg #[.int .i64 (a : Int), .int .i64 (b : Int), .int .u32 1], .int .i64 (n : Int)] (by rfl) rfl rfl (by simp only [List.map_toArray, List.map_cons, List.map_nil]; rfl) ?_
  with_reducible refine (right_ (a : Int) (b : Int) 1 (n : Int) _).mono ?_
  rintro e w5 ⟨rfl, hb5⟩
  refine ⟨_, rfl, ?_⟩
  rw [HR.out]
  have A5 := Aside0.mk (A0.out.below hb5)
  clear hb5
  refine hK.out _ _ ?_
  clear hK K
  refine norm_ (a' := ?_) ?_ ?_
  rotate_left
  · show Act.put _ (some 19) _ = _
    simp only [aP]
    rfl
  refine pu_ 4 20 ?_ #[tT,tT,tT,tT,tT] rfl rfl ?_ ?_ ?_ ?_
  rotate_left
  · intro w'
    go_simp
    with_reducible rfl
  rotate_left
  · simp only [aP]
    rfl
  refine done_ (by kernel_rfl) ?_
  obtain ⟨G1, hG1⟩ : ∃ G, w5.heap.size = G := ⟨_, rfl⟩
  have A6' := Aside0.mk (madeB 64 A5.out (by omega))
  rw [hG1] at A6'
  obtain ⟨w6, hw6⟩ : ∃ x, w5.alloc (.cells (madeCells #[.int .u8 0] 64) 5) = x := ⟨_, rfl⟩
  rw [hw6] at A6'
  have A6 := Aside0.mk A6'.out.at3
  clear A6'
  go_wp2_with fail
  clear hG1 hmk
  go_loopg [22] 2 (fun k_ p wr => ∃ (j : Nat), p = .int .i64 (j : Int) ∧ j + k_ = 2 ∧ Sep w0 wr (Dsk g las (putsW n 0 zz64 j wt) :: Row Base.U8 5 (.slice (some ⟨G1, 0, none⟩) 64 64) zz64 :: Blk G0 80 #[.int .i64 (a : Int), .int .i64 (b : Int), .int .u32 1] :: F))
  case atStart => exact ⟨0, rfl, by decide, by rw [← hw6] at A6; rw [hw6] at A6; exact A6.out⟩
  case round =>
    obtain ⟨j, rfl, hjk, hS⟩ := hrel
    have AK := Aside0.mk hjk
    have AS := Aside0.mk hS
    clear hS
    by_cases cj : j < 2
    case pos =>
      have hjl : (j : Int) < 2 := by omega
      clear hjk cj
      go_wp2_with fail
      refine (dwrite_ AS.out HL.out.1 HL.out.2.1 j (by have h2 := AS.out.at2.rowC.2.2; rw [List.length_replicate] at h2; exact h2) (Nat.le_refl _)).mono ?_
      rintro e w7 ⟨rfl, hS7⟩
      have B7 := Aside0.mk hS7
      clear hS7
      go_wp2_with fail
      go_roundg (gk - 1)
      case measure => have := AK.out; omega
      case rel => exact ⟨j + 1, by go_num, by have := AK.out; omega, by have h3 := B7.out; rw [show putsW n 0 zz64 (j + 1) wt = putW n (putsW n 0 zz64 j wt) j zz64 by show putW n _ (0 + j) _ = _; rw [Nat.zero_add]]; exact h3⟩
    case neg =>
    obtain rfl : j = 2 := by omega
    clear hjk cj
    go_wp2_with fail
    refine (flush_ AS.out).mono ?_
    rintro e w8 ⟨rfl, hS8⟩
    have HL1 := Aside0.mk (Ref.flushed_len HL.out.1 (putsW_len (n := n) (s := 0) (z := zz64) HL.out.2.2 2))
    obtain ⟨L1, hL1⟩ : ∃ L, flushed las (putsW n 0 zz64 2 wt) = L := ⟨_, rfl⟩
    rw [hL1] at hS8 HL1
    have HL1E := Aside0.mk hL1
    have B8 := Aside0.mk hS8
    clear hS8 hL1
    go_wp2_with fail
    rw [hws]
    go_loopg [35] M (fun k_ p wr => ∃ (j : Nat), p = .int .i64 (j : Int) ∧ j + k_ = M ∧ Sep w0 wr (Dsk g L1 (putsW n 2 zz64 j (fun _ => none)) :: Row Base.U8 5 (.slice (some ⟨G1, 0, none⟩) 64 64) zz64 :: Blk G0 80 #[.int .i64 (a : Int), .int .i64 (b : Int), .int .u32 1] :: F))
    case atStart => exact ⟨0, rfl, by omega, B8.out⟩
    case round =>
      obtain ⟨j, rfl, hjk, hS⟩ := hrel
      have AK := Aside0.mk hjk
      have AS := Aside0.mk hS
      clear hS
      by_cases cj : j < M
      case pos =>
        have hjl : (j : Int) < (M : Int) := by omega
        obtain ⟨J2, hJ2⟩ : ∃ J, 2 + j = J := ⟨_, rfl⟩
        have hw2 : wrap64 (2 + (j : Int)) = (J2 : Int) := by have := HAB.out; rw [IntWalk.wrap64_in _ (by omega)]; omega
        have HJ2 := Aside0.mk hJ2
        have hw1j : wrap64 ((j : Int) + 1) = (j : Int) + 1 := by have := HAB.out; exact IntWalk.wrap64_in _ (by omega)
        clear hjk cj hJ2
        go_wp2_with fail
        refine (dwrite_ AS.out HL1.out HL.out.2.1 J2 (by have h2 := AS.out.at2.rowC.2.2; rw [List.length_replicate] at h2; exact h2) (Nat.le_refl _)).mono ?_
        rintro e w9 ⟨rfl, hS9⟩
        have B9 := Aside0.mk hS9
        clear hS9
        go_wp2_with fail
        go_roundg (gk - 1)
        case measure => have := AK.out; omega
        case rel => exact ⟨j + 1, by go_num, by have := AK.out; omega, by have h3 := B9.out; rw [← HJ2.out] at h3; exact h3⟩
      case neg =>
      obtain rfl : j = M := by omega
      have hjl : ¬ (j : Int) < (j : Int) := by omega
      clear hjk cj
      go_wp2_with fail
      refine (flush_ AS.out).mono ?_
      rintro e w10 ⟨rfl, hS10⟩
      have HL2 := Aside0.mk (Ref.flushed_len HL1.out (putsW_len (n := n) (s := 2) (z := zz64) Ref.none_len j))
      obtain ⟨L2, hL2⟩ : ∃ L, flushed L1 (putsW n 2 zz64 j (fun _ => none)) = L := ⟨_, rfl⟩
      rw [hL2] at hS10 HL2
      have HL2E := Aside0.mk hL2
      have B10 := Aside0.mk hS10
      clear hS10 hL2
      have z0 := (B10.out.at3.cell 0).trans rfl
      have z1 := (B10.out.at3.cell 1).trans rfl
      have z2 := (B10.out.at3.cell 2).trans rfl
      go_wp2_with fail
      refine (Root.bytes_ (a : Int) (b : Int) 1 (by decide) _).mono ?_
      rintro e w11 ⟨v11, rfl, hS11⟩
      obtain ⟨R, hR⟩ : ∃ R, rootF (m32 (a : Int)) (m32 (b : Int)) 1 = R := ⟨_, rfl⟩
      rw [hR] at hS11
      have HRR := Aside0.mk hR
      obtain ⟨n11, hn11⟩ : ∃ n, R.length = n := ⟨_, rfl⟩
      obtain ⟨A11, c11, rfl⟩ := hS11.rowN hn11
      have B11 := Aside0.mk (B10.out.lift1 hS11)
      clear hS11 hR hn11 z0 z1 z2
      go_wp2_with fail
      refine (dwrite_ B11.out.at2 HL2.out HL.out.2.1 1 B11.out.rowC' B11.out.rowC.2.1).mono ?_
      rintro e w12 ⟨rfl, hS12⟩
      have B12 := Aside0.mk hS12
      clear hS12
      go_wp2_with fail
      refine (flush_ B12.out).mono ?_
      rintro e w13 ⟨rfl, hS13⟩
      have HFM : Aside0 (flushed L2 (putW n (fun _ => none) 1 R) = fmtL n las wt a b) := ⟨by unfold fmtL; rw [HL1E.out, HM.out, HL2E.out, HRR.out]⟩
      rw [HFM.out] at hS13
      have B13 := Aside0.mk hS13
      clear hS13
      go_wp2_with fail
      go_ret
      exact ⟨by first | rfl | (simp; done), B13.out.drop2.drop2.drop2⟩
end
end Go.Proofs.YtjngnigelkgekaaGreat.Store
namespace Go.Proofs.YtjngnigelkgekaaGreat.Store
open Go.RowKit Go.Proofs.YtjngnigelkgekaaGreatW.PrintWords Go.Proofs.YtjngnigelkgekaaGreatW.PrintLast Go.Proofs.YtjngnigelkgekaaGreatW.PrintMore Go.Proofs.YtjngnigelkgekaaGreat.Kit Go.Proofs.YtjngnigelkgekaaGreat.Plain Go.Proofs.YtjngnigelkgekaaGreat.Disk Go.Proofs.YtjngnigelkgekaaGreat.Root
open Go.Proofs.YtjngnigelkgekaaGreat.Delta (Chg KC deltaF rightF)
open Go.Proofs.YtjngnigelkgekaaGreat.Redo (recR logF appR)
open Go.Proofs.YtjngnigelkgekaaGreat.Home (pagesF)
open Go.Proofs.YtjngnigelkgekaaGreat.Frame (frameF)
abbrev noW : Wt := fun _ => none
abbrev s5 : List Int := 5 :: List.replicate 63 0
end Go.Proofs.YtjngnigelkgekaaGreat.Store
namespace Go.Proofs.YtjngnigelkgekaaGreat.Store
end Go.Proofs.YtjngnigelkgekaaGreat.Store
