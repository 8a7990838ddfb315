/- StLaw3, StLaw4, StLaw5, StTorn, StKnown2, StMost, StFP: what StoreKeeps needs. -/
import Derived.Test.YtjngnigelkgekaaGreatTstoreKeeps20
namespace Go.Proofs.YtjngnigelkgekaaGreat.Store
set_option linter.unusedVariables false
set_option linter.unusedSimpArgs false
open Go.RowKit Go.Proofs.YtjngnigelkgekaaGreatW.PrintWords Go.Proofs.YtjngnigelkgekaaGreatW.PrintLast Go.Proofs.YtjngnigelkgekaaGreatW.PrintMore Go.Proofs.YtjngnigelkgekaaGreat.Kit Go.Proofs.YtjngnigelkgekaaGreat.Plain Go.Proofs.YtjngnigelkgekaaGreat.Disk Go.Proofs.YtjngnigelkgekaaGreat.Root
open Go.Proofs.YtjngnigelkgekaaGreat.Delta (Chg KC deltaF rightF okF undeltaF)
open Go.Proofs.YtjngnigelkgekaaGreat.Redo (recR logF logF_bytes)
open Go.Proofs.YtjngnigelkgekaaGreat.Home (pagesF pageF putP mayF atF may_in)
open Go.Proofs.YtjngnigelkgekaaGreat.Frame (frameF frameF_len readF scanF scanR ScanAt scan_start scan_none scan_some recsF longs longs_app recs_bytes scan_facts recs_len longs_len)
theorem insK_keep {ks : List Int} {k x : Int} (h : x ∈ ks) : x ∈ insK ks k := by
  unfold insK
  split
  · exact h
  · exact List.mem_append_left _ h
theorem insK_new (ks : List Int) (k : Int) : k ∈ insK ks k := by
  unfold insK
  split
  · assumption
  · exact List.mem_append_right _ (List.mem_singleton.2 rfl)
theorem insAll_keep {x : Int} : ∀ (l : List Chg) {ks : List Int}, x ∈ ks → x ∈ insAll ks l
  | [], _, h => h
  | c :: r, ks, h => insAll_keep r (ks := insK ks c.1) (insK_keep h)
theorem insAll_new : ∀ (l : List Chg) {ks : List Int} {c : Chg}, c ∈ l → c.1 ∈ insAll ks l
  | d :: r, ks, c, h => by
    rcases List.mem_cons.1 h with rfl | h
    · exact insAll_keep r (insK_new ks c.1)
    · exact insAll_new r h
theorem nmAll_keep {x : Int} : ∀ (rows : List (List Chg)) {ks : List Int}, x ∈ ks → x ∈ nmAll ks rows
  | [], _, h => h
  | l :: r, ks, h => nmAll_keep r (ks := insAll ks l) (insAll_keep l h)
theorem nmAll_new : ∀ (rows : List (List Chg)) {ks : List Int} {l : List Chg} {c : Chg}, l ∈ rows → c ∈ l → c.1 ∈ nmAll ks rows
  | d :: r, ks, l, c, h, hc => by
    rcases List.mem_cons.1 h with rfl | h
    · exact nmAll_keep r (insAll_new l hc)
    · exact nmAll_new r h hc
theorem insList_all {x : Int} : ∀ (l : List Int) {ks : List Int}, x ∈ l ∨ x ∈ ks → x ∈ insList ks l
  | [], ks, h => by
    rcases h with h | h
    · cases h
    · exact h
  | k :: t, ks, h => insList_all t (ks := insK ks k) (by
      rcases h with h | h
      · rcases List.mem_cons.1 h with rfl | h
        · exact .inr (insK_new _ _)
        · exact .inl h
      · exact .inr (insK_keep h))
def openN (rows : List (List Chg)) : List Int := insList [] (sortK (nmAll [] rows))
theorem openN_mem {rows : List (List Chg)} {x : Int} : x ∈ openN rows ↔ x ∈ nmAll [] rows := by
  unfold openN
  constructor
  · intro h
    rcases insList_mem _ h with h | h
    · cases h
    · exact (sortK_perm _).mem_iff.2 h
  · intro h
    exact insList_all _ (.inl ((sortK_perm _).mem_iff.1 h))
theorem applyOne_out {ps : List (List Int)} {c : Chg} {k : Nat} (h : c.1 ≠ (k : Int)) : (applyOne ps c)[k]? = ps[k]? := by
  unfold applyOne
  split
  · rename_i h2
    rw [List.getElem?_set_ne (by omega)]
  · rfl
theorem applyF_out {k : Nat} : ∀ (l : List Chg) {ps : List (List Int)}, (∀ c ∈ l, c.1 ≠ (k : Int)) → (applyF ps l)[k]? = ps[k]?
  | [], _, _ => rfl
  | c :: r, ps, h => by
    show (applyF (applyOne ps c) r)[k]? = _
    rw [applyF_out r (fun x hx => h x (List.mem_cons_of_mem _ hx)), applyOne_out (h c (List.mem_cons_self ..))]
theorem pgAll_out {k : Nat} : ∀ (rows : List (List Chg)) {ps : List (List Int)}, (∀ l ∈ rows, ∀ c ∈ l, c.1 ≠ (k : Int)) → (pgAll ps rows)[k]? = ps[k]?
  | [], _, _ => rfl
  | l :: r, ps, h => by
    show (pgAll (applyF ps l) r)[k]? = _
    rw [pgAll_out r (fun x hx => h x (List.mem_cons_of_mem _ hx)), applyF_out l (h l (List.mem_cons_self ..))]
theorem applyOne_all {Q : List Int → Prop} {ps : List (List Int)} {c : Chg} (h : ∀ p ∈ ps, Q p) (hc : Q c.2) : ∀ p ∈ applyOne ps c, Q p := by
  unfold applyOne
  split
  · intro p hp
    rcases List.mem_or_eq_of_mem_set hp with h1 | rfl
    · exact h p h1
    · exact hc
  · exact h
theorem applyF_all {Q : List Int → Prop} : ∀ {l : List Chg} {ps : List (List Int)}, (∀ p ∈ ps, Q p) → (∀ c ∈ l, Q c.2) → ∀ p ∈ applyF ps l, Q p
  | [], _, h, _ => h
  | c :: r, _, h, hl => applyF_all (l := r) (applyOne_all h (hl c (List.mem_cons_self ..))) (fun x hx => hl x (List.mem_cons_of_mem _ hx))
theorem pgAll_all {Q : List Int → Prop} : ∀ {rows : List (List Chg)} {ps : List (List Int)}, (∀ p ∈ ps, Q p) → (∀ x ∈ rows, ∀ c ∈ x, Q c.2) → ∀ p ∈ pgAll ps rows, Q p
  | [], _, h, _ => h
  | x :: r, _, h, hl => pgAll_all (rows := r) (applyF_all h (hl x (List.mem_cons_self ..))) (fun y hy => hl y (List.mem_cons_of_mem _ hy))
abbrev rowsF (n a b : Nat) (E : Int) (L : List Int) : List (List Chg) := (recR n L noW (a : Int) (b : Int) E).1
abbrev shownF (n a b : Nat) (E : Int) (L : List Int) : List (List Int) := pgAll (pagesF n L noW (a : Int) (b : Int) E) (rowsF n a b E L)
theorem Lay.logB {n a b : Nat} {E : Int} {L : List Int} (h : Lay n a b E L) : Bytes (logF n L noW (a : Int) (b : Int) E) ∧ (logF n L noW (a : Int) (b : Int) E).length = 64 * a := by
  have hr := h.rgt
  have hl := h.len
  rw [h.log]
  exact ⟨Redo.secs_bytes (fun i _ => sec_bytes h.byt _), secs_len (fun i hi => sec_len (by omega))⟩
theorem Lay.rows {n a b : Nat} {E : Int} {L : List Int} (h : Lay n a b E L) : (rowsF n a b E L).length ≤ 1000 ∧ ∀ x ∈ rowsF n a b E L, x.length ≤ 64 ∧ ∀ c ∈ x, 0 ≤ c.1 ∧ c.1 < (b : Int) ∧ c.2.length = 64 ∧ Bytes c.2 := by
  have hr := h.rgt
  obtain ⟨hb, hl⟩ := h.logB
  obtain ⟨h1, h2, h3⟩ := scan_facts hb E
  refine ⟨?_, fun x hx => ?_⟩
  · have h4 := (recs_len (b : Int) (scanR (logF n L noW (a : Int) (b : Int) E) E).1).1
    have h5 := longs_len (scanR (logF n L noW (a : Int) (b : Int) E) E).1
    show (recsF (b : Int) (scanR (logF n L noW (a : Int) (b : Int) E) E).1).1.length ≤ 1000
    omega
  · have h4 := recs_right (b : Int) _ x hx
    have h5 := right_in h4
    have h6 := recs_bytes (b : Int) _ h1 x hx
    exact ⟨(right_len h4).2, fun c hc => ⟨(h5.2 c hc).1, (h5.2 c hc).2.1, (h5.2 c hc).2.2, h6 c hc⟩⟩
theorem Lay.shown {n a b : Nat} {E : Int} {L : List Int} (h : Lay n a b E L) : (shownF n a b E L).length = b ∧ ∀ p ∈ shownF n a b E L, p.length = 64 ∧ Bytes p := by
  have hr := h.rgt
  have hl := h.len
  refine ⟨by unfold shownF; rw [pgAll_len, h.pages, List.length_map, List.length_range], ?_⟩
  refine pgAll_all (Q := fun p => p.length = 64 ∧ Bytes p) (fun p hp => ?_) (fun x hx c hc => ((h.rows.2 x hx).2 c hc).2.2)
  rw [h.pages] at hp
  obtain ⟨i, hi, rfl⟩ := List.mem_map.1 hp
  have hi := List.mem_range.1 hi
  exact ⟨sec_len (by omega), sec_bytes h.byt _⟩
abbrev openL (n a b : Nat) (E : Int) (L : List Int) : List Int := chkL n L noW (a : Int) (b : Int) E (shownF n a b E L) (openN (rowsF n a b E L))
theorem Lay.opened {n a b : Nat} {E : Int} {L : List Int} (h : Lay n a b E L) (hE : E < 4294967295) : Lay n a b (E + 1) (openL n a b E L) ∧ pagesF n (openL n a b E L) noW (a : Int) (b : Int) (E + 1) = shownF n a b E L ∧ logF n (openL n a b E L) noW (a : Int) (b : Int) (E + 1) = logF n L noW (a : Int) (b : Int) E := by
  have hs := h.shown
  obtain ⟨h1, h2, h3⟩ := h.chk hE hs.1 hs.2 (named := openN (rowsF n a b E L)) (fun k hk => by
      refine nmAll_mem (P := fun k => 0 ≤ k ∧ k < (b : Int)) (fun k hk => by cases hk) (fun x hx c hc => ?_) k (openN_mem.1 hk)
      have := (h.rows.2 x hx).2 c hc
      exact ⟨this.1, this.2.1⟩) (fun k hk hn => by
      have hn2 : ∀ l ∈ rowsF n a b E L, ∀ c ∈ l, c.1 ≠ (k : Int) := fun l hl c hc he => hn (openN_mem.2 (he ▸ nmAll_new _ hl hc))
      rw [List.getD_eq_getElem?_getD, pgAll_out _ hn2, h.pages, List.getElem?_map, List.getElem?_range hk]
      rfl)
  refine ⟨h1, ?_, ?_⟩
  · rw [h1.pages]
    apply List.ext_getElem (by rw [List.length_map, List.length_range, hs.1])
    intro k hk1 hk2
    rw [hs.1] at hk2
    rw [List.getElem_map, List.getElem_range, h2 k hk2, List.getD_eq_getElem?_getD, List.getElem?_eq_getElem (by rw [hs.1]; exact hk2)]
    rfl
  · rw [h1.log, h.log]
    exact secs_congr (fun i hi => h3 i hi)
section
variable {w0 W : World} {F : List HP} {g : Nat}
theorem lay_open {n a b : Nat} {E : Int} {L : List Int} (h : Sep w0 W (Dsk g L noW :: F)) (hl : Lay n a b E L) (hn : n ≤ 160) (hE : E < 4294967295) :
    Calls Tryz.prog 24 #[.pointer (some ⟨g, 0, none⟩)] W fun e w' => ∃ gs m, e = .returned (.tuple #[.pointer (some ⟨gs, 0, none⟩), .int .i64 0]) ∧ Sep w0 w' (StB gs g m (a : Int) (b : Int) (E + 1) (shownF n a b E L) [] 0 0 :: Dsk g (openL n a b E L) noW :: F) := by
  have hr := hl.rgt
  have hpl : (pagesF n L noW (a : Int) (b : Int) E).length = b := by rw [hl.pages, List.length_map, List.length_range]
  refine open_ok h hl.len hn Ref.none_len (fun j => secF_bytes hl.byt no_bytes j) (a : Int) (b : Int) E hl.best (by omega) hE (logF_bytes hl.byt no_bytes _ _ _) (by omega) (by omega) (fun p hp => ?_) hl.rows.1 (fun x hx => (hl.rows.2 x hx).1)
  rw [hl.pages] at hp
  obtain ⟨i, hi, rfl⟩ := List.mem_map.1 hp
  have hi := List.mem_range.1 hi
  have hll := hl.len
  rw [sec_len (by omega)]
  decide
end
end Go.Proofs.YtjngnigelkgekaaGreat.Store
namespace Go.Proofs.YtjngnigelkgekaaGreat.Store
set_option linter.unusedVariables false
set_option linter.unusedSimpArgs false
open Go.RowKit Go.Proofs.YtjngnigelkgekaaGreatW.PrintWords Go.Proofs.YtjngnigelkgekaaGreatW.PrintLast Go.Proofs.YtjngnigelkgekaaGreatW.PrintMore Go.Proofs.YtjngnigelkgekaaGreat.Kit Go.Proofs.YtjngnigelkgekaaGreat.Plain Go.Proofs.YtjngnigelkgekaaGreat.Disk Go.Proofs.YtjngnigelkgekaaGreat.Root
open Go.Proofs.YtjngnigelkgekaaGreat.Delta (Chg KC deltaF rightF okF undeltaF)
open Go.Proofs.YtjngnigelkgekaaGreat.Redo (recR logF logF_bytes appR okA appW appW_flushed over_over sec_over_out logF_of)
open Go.Proofs.YtjngnigelkgekaaGreat.Home (pagesF pageF putP mayF atF may_in)
open Go.Proofs.YtjngnigelkgekaaGreat.Frame (frameF frameF_len readF scanF scanR ScanAt scan_start scan_none scan_some recsF longs longs_app recs_bytes scan_facts recs_len longs_len)
theorem putsW_at {n s : Nat} {z : List Int} (hz : z.length = 64) : ∀ (k : Nat) (wt : Wt), s + k ≤ n → ∀ i, putsW n s z k wt i = if s ≤ i ∧ i < s + k then some z else wt i
  | 0, wt, _, i => by rw [if_neg (by omega)]; rfl
  | k + 1, wt, h, i => by
    show putW n (putsW n s z k wt) (s + k) z i = _
    unfold putW
    rw [if_pos ⟨by omega, hz⟩, putsW_at hz k wt (by omega) i]
    by_cases h1 : i = s + k
    · rw [if_pos h1, if_pos (by omega)]
    · rw [if_neg h1]
      by_cases h2 : s ≤ i ∧ i < s + k
      · rw [if_pos h2, if_pos (by omega)]
      · rw [if_neg h2, if_neg (by omega)]
theorem putsW_bytes {n s : Nat} {z : List Int} (hz : Bytes z) : ∀ (k : Nat) {wt : Wt}, (∀ i b, wt i = some b → Bytes b) → ∀ i b, putsW n s z k wt i = some b → Bytes b
  | 0, _, h => h
  | k + 1, _, h => putW_bytes (putsW_bytes hz k h) hz
theorem unroot_zeros : unrootF zz64 = none := by decide +kernel
theorem lay_fmt {n a b : Nat} {las : List Int} {wt : Wt} (hl : las.length = 64 * n) (hb : Bytes las) (hw : ∀ i b, wt i = some b → b.length = 64) (hwb : ∀ i b, wt i = some b → Bytes b) (hr : rightR (a : Int) (b : Int) 1 n = true) :
    Lay n a b 1 (fmtL n las wt a b) ∧ (∀ i, i < a + b → sec (fmtL n las wt a b) (2 + i) = zz64) := by
  have hr' := of_decide_eq_true hr
  have hz : zz64.length = 64 := List.length_replicate
  have hzb : Bytes zz64 := zeros_bytes 64
  have w1 := putsW_len (n := n) (s := 0) (z := zz64) hw 2
  have w2 := putsW_len (n := n) (s := 2) (z := zz64) Ref.none_len (a + b)
  have b1 := putsW_bytes (n := n) (s := 0) hzb 2 hwb
  have b2 := putsW_bytes (n := n) (s := 2) hzb (a + b) no_bytes
  have e1 := putsW_at (n := n) (s := 0) hz 2 wt (by omega)
  have e2 := putsW_at (n := n) (s := 2) hz (a + b) noW (by omega)
  obtain ⟨L1, hL1⟩ : ∃ L, flushed las (putsW n 0 zz64 2 wt) = L := ⟨_, rfl⟩
  have l1 : L1.length = 64 * n := by rw [← hL1]; exact Ref.flushed_len hl w1
  have c1 : Bytes L1 := by rw [← hL1]; exact Redo.flushed_bytes hb b1
  have s1 : ∀ i, i < 2 → sec L1 i = zz64 := fun i hi => by
    rw [← hL1, Ref.sec_flushed hl w1 (by omega), e1, if_pos (by omega)]; rfl
  obtain ⟨L2, hL2⟩ : ∃ L, flushed L1 (putsW n 2 zz64 (a + b) noW) = L := ⟨_, rfl⟩
  have l2 : L2.length = 64 * n := by rw [← hL2]; exact Ref.flushed_len l1 w2
  have c2 : Bytes L2 := by rw [← hL2]; exact Redo.flushed_bytes c1 b2
  have s2 : ∀ i, i < 2 + a + b → sec L2 i = zz64 := fun i hi => by
    rw [← hL2, Ref.sec_flushed l1 w2 (by omega), e2]
    by_cases h : i < 2
    · rw [if_neg (by omega)]
      exact s1 i h
    · rw [if_pos (by omega)]; rfl
  have hrl := rootF_len (a : Int) (b : Int) 1
  have hw3 : putW n noW 1 (rootF (a : Int) (b : Int) 1) = fun j => if j = 1 then some (rootF (a : Int) (b : Int) 1) else noW j := by
    unfold putW
    rw [if_pos ⟨by omega, hrl⟩]
  have hF : fmtL n las wt a b = flushed L2 (putW n noW 1 (rootF (a : Int) (b : Int) 1)) := by
    unfold fmtL
    rw [m32_nat (by omega), m32_nat (by omega), hL1, hL2]
  have s3 : ∀ i, i < n → sec (flushed L2 (putW n noW 1 (rootF (a : Int) (b : Int) 1))) i = if i = 1 then rootF (a : Int) (b : Int) 1 else sec L2 i := fun i hi => by
    rw [Ref.sec_flushed l2 (putW_len Ref.none_len) hi, hw3]
    dsimp only
    split <;> rfl
  rw [hF]
  refine ⟨⟨Ref.flushed_len l2 (putW_len Ref.none_len), Redo.flushed_bytes c2 (putW_bytes no_bytes (rootF_bytes _ _ _)), by omega, ?_, ?_⟩, fun i hi => ?_⟩
  · show sec _ 1 = _
    rw [s3 1 (by omega), if_pos rfl]
  · show ∀ r, unrootF (sec _ 0) = some r → _
    rw [s3 0 (by omega), if_neg (by decide), s2 0 (by omega), unroot_zeros]
    intro r h
    cases h
  · rw [s3 _ (by omega), if_neg (by omega), s2 _ (by omega)]
theorem secs_zeros (a : Nat) : secs a (fun _ => zz64) = List.replicate (64 * a) 0 := by
  induction a with
  | zero => rfl
  | succ a ih => rw [secs_succ, ih, List.replicate_append_replicate, Nat.mul_succ]
theorem Lay.app {n a b : Nat} {E : Int} {L x : List Int} (h : Lay n a b E L) (hx : Bytes x) {at_ : Nat} (hfit : at_ + x.length ≤ 64 * a) :
    Lay n a b E (over L (128 + at_) x) ∧ pagesF n (over L (128 + at_) x) noW (a : Int) (b : Int) E = pagesF n L noW (a : Int) (b : Int) E ∧ logF n (over L (128 + at_) x) noW (a : Int) (b : Int) E = over (logF n L noW (a : Int) (b : Int) E) at_ x := by
  have hr := h.rgt
  have hl := h.len
  have ho : 128 + at_ + x.length ≤ L.length := by omega
  have hol := over_len ho
  have hn : Lay n a b E (over L (128 + at_) x) := by
    refine ⟨by rw [hol]; exact hl, Redo.over_bytes h.byt hx, hr, ?_, ?_⟩
    · rw [sec_over_out ho (.inl (by omega))]; exact h.rt
    · rw [sec_over_out ho (.inl (by omega))]; exact h.ot
  refine ⟨hn, ?_, ?_⟩
  · rw [hn.pages, h.pages]
    refine List.map_congr_left (fun i hi => ?_)
    exact sec_over_out ho (.inr (by omega))
  · rw [logF_of hn.len Ref.none_len hn.right, logF_of hl Ref.none_len h.right, flushed_none hn.len, flushed_none hl]
    apply List.ext_getElem?
    intro j
    rw [over_get (by rw [List.length_drop, List.length_take]; omega), List.getElem?_drop, List.getElem?_take, over_get ho, List.getElem?_drop, List.getElem?_take]
    by_cases h1 : at_ ≤ j ∧ j < at_ + x.length
    · rw [if_pos (by omega), if_pos (by omega), if_pos h1, show 128 + j - (128 + at_) = j - at_ by omega]
    · rw [if_neg h1]
      by_cases h2 : 128 + j < 64 * (2 + a)
      · rw [if_pos h2, if_pos h2, if_neg (by omega)]
      · rw [if_neg h2, if_neg h2]
theorem over_tail {X y : List Int} {k : Nat} (h : y.length ≤ k) : over (X ++ List.replicate k 0) X.length y = (X ++ y) ++ List.replicate (k - y.length) 0 := by
  unfold over
  rw [List.take_left, ← List.drop_drop, List.drop_left, List.drop_replicate]
structure Com (n a b : Nat) (E : Int) (p0 : List (List Int)) (ls : List (List Chg)) (G : List Int) : Prop where
  lay : Lay n a b E G
  pgs : pagesF n G noW (a : Int) (b : Int) E = p0
  log : logF n G noW (a : Int) (b : Int) E = framesF E (ls.map deltaF) ++ List.replicate (64 * a - longs (ls.map deltaF)) 0
  fit : longs (ls.map deltaF) ≤ 64 * a
  rgt : ∀ l ∈ ls, rightF l (b : Int) = true ∧ Bytes (deltaF l)
theorem Com.start {n a b : Nat} {las : List Int} {wt : Wt} (hl : las.length = 64 * n) (hb : Bytes las) (hw : ∀ i b, wt i = some b → b.length = 64) (hwb : ∀ i b, wt i = some b → Bytes b) (hr : rightR (a : Int) (b : Int) 1 n = true) :
    Com n a b 1 (List.replicate b zz64) [] (fmtL n las wt a b) := by
  obtain ⟨h1, h2⟩ := lay_fmt hl hb hw hwb hr
  have hr' := h1.rgt
  refine ⟨h1, ?_, ?_, Nat.zero_le _, fun l hl => by cases hl⟩
  · rw [h1.pages]
    apply List.ext_getElem (by simp)
    intro k k1 k2
    rw [List.length_replicate] at k2
    rw [List.getElem_map, List.getElem_range, List.getElem_replicate, Nat.add_assoc, h2 (a + k) (by omega)]
  · rw [h1.log]
    show _ = List.replicate (64 * a - 0) 0
    rw [Nat.sub_zero, ← secs_zeros]
    exact secs_congr (fun i hi => h2 i (by omega))
section
variable {n a b : Nat} {E : Int} {p0 : List (List Int)} {ls : List (List Chg)} {G las : List Int} {wt : Wt}
theorem delta_len {l : List Chg} (h : rightF l (b : Int) = true) : (deltaF l).length = 2 + 66 * l.length := (right_len h).1
theorem Com.small (h : Com n a b E p0 ls G) : ls.length ≤ 4096 := by
  have h1 := longs_len (ls.map deltaF)
  rw [List.length_map] at h1
  have h2 := h.fit
  have h3 := h.lay.rgt
  omega
theorem Com.rows (h : Com n a b E p0 ls G) : rowsF n a b E G = ls := by
  have hr := h.lay.rgt
  have hs := h.small
  show (recsF (b : Int) (scanR (logF n G noW (a : Int) (b : Int) E) E).1).1 = ls
  rw [h.log, scan_framed (by omega) (fun x hx => ?_) (zeros_bytes _) (fun x hx => ?_) (by rw [List.length_map]; omega) (read_other (by rw [getF_zeros]; omega))]
  · exact recs_deltas ls (fun l hl => (h.rgt l hl).1)
  · obtain ⟨l, hl, rfl⟩ := List.mem_map.1 hx
    exact (h.rgt l hl).2
  · obtain ⟨l, hl, rfl⟩ := List.mem_map.1 hx
    have h1 := right_len (h.rgt l hl).1
    omega
theorem Com.shown (h : Com n a b E p0 ls G) : shownF n a b E G = pgAll p0 ls := by
  unfold shownF
  rw [h.rows, h.pgs]
theorem Com.commit (h : Com n a b E p0 ls (flushed las wt)) (hl : las.length = 64 * n) (hw : ∀ i b, wt i = some b → b.length = 64) {l : List Chg} (hr : rightF l (b : Int) = true) (hb : Bytes (deltaF l)) {u : Nat} (hu : longs (ls.map deltaF) = u) {q : Nat} (hq : ls.length = q) (hf : u + (18 + 66 * l.length) ≤ 64 * a) :
    Com n a b E p0 (ls ++ [l]) (flushed las (appR n las wt (a : Int) (b : Int) E (u : Int) (frameF E (q : Int) (deltaF l)))) := by
  have hrr := h.lay.rgt
  have hfl : (frameF E (q : Int) (deltaF l)).length = 18 + 66 * l.length := by rw [frameF_len, delta_len hr]; omega
  have hok : okA n (a : Int) (b : Int) E (u : Int) (frameF E (q : Int) (deltaF l)).length = true := by
    unfold okA Redo.sizeF
    rw [h.lay.right, hfl, if_neg (by omega), decide_eq_true (by omega), decide_eq_true (by omega)]; rfl
  have hF : flushed las (appR n las wt (a : Int) (b : Int) E (u : Int) (frameF E (q : Int) (deltaF l))) = over (flushed las wt) (128 + u) (frameF E (q : Int) (deltaF l)) := by
    unfold appR
    rw [if_pos hok, Int.toNat_natCast]
    exact appW_flushed hl hw (by rw [hfl]; omega)
  rw [hF]
  obtain ⟨h1, h2, h3⟩ := h.lay.app (x := frameF E (q : Int) (deltaF l)) (Frame.frameF_bytes _ _ hb) (at_ := u) (by rw [hfl]; omega)
  have hlg : longs ((ls ++ [l]).map deltaF) = u + (18 + 66 * l.length) := by
    rw [List.map_append, longs_app, hu]
    simp only [List.map_cons, List.map_nil, longs]
    rw [delta_len hr]; omega
  refine ⟨h1, by rw [h2, h.pgs], ?_, by rw [hlg]; exact hf, fun x hx => ?_⟩
  · rw [h3, h.log, hlg, List.map_append, List.map_cons, List.map_nil, framesF_snoc, List.length_map, hq]
    have ho := over_tail (X := framesF E (ls.map deltaF)) (y := frameF E (q : Int) (deltaF l)) (k := 64 * a - longs (ls.map deltaF)) (by rw [hfl, hu]; omega)
    rw [framesF_len, hu, hfl] at ho
    rw [hu, ho]
    congr 2
    omega
  · rcases List.mem_append.1 hx with hx | hx
    · exact h.rgt x hx
    · obtain rfl := List.mem_singleton.1 hx
      exact ⟨hr, hb⟩
theorem framesF_nil (E : Int) : framesF E [] = [] := rfl
structure Old (n a b : Nat) (E E0 : Int) (ps : List (List Int)) (ds : List (List Int)) (G : List Int) : Prop where
  lay : Lay n a b E G
  pgs : pagesF n G noW (a : Int) (b : Int) E = ps
  log : logF n G noW (a : Int) (b : Int) E = framesF E0 ds ++ List.replicate (64 * a - longs ds) 0
  old : 0 ≤ E0 ∧ E0 < E
theorem Com.opened (h : Com n a b E p0 ls G) (hE : E < 4294967295) : Old n a b (E + 1) E (pgAll p0 ls) (ls.map deltaF) (openL n a b E G) := by
  have hr := h.lay.rgt
  obtain ⟨h1, h2, h3⟩ := h.lay.opened hE
  exact ⟨h1, by rw [h2, h.shown], by rw [h3, h.log], by omega⟩
theorem Old.com {E0 : Int} {ps : List (List Int)} (h : Old n a b E E0 ps [] G) : Com n a b E ps [] G :=
  ⟨h.lay, h.pgs, by rw [h.log, List.map_nil, framesF_nil, framesF_nil], Nat.zero_le _, fun l hl => by cases hl⟩
end
end Go.Proofs.YtjngnigelkgekaaGreat.Store
namespace Go.Proofs.YtjngnigelkgekaaGreat.Store
set_option linter.unusedVariables false
set_option linter.unusedSimpArgs false
open Go.RowKit Go.Proofs.YtjngnigelkgekaaGreatW.PrintWords Go.Proofs.YtjngnigelkgekaaGreatW.PrintLast Go.Proofs.YtjngnigelkgekaaGreatW.PrintMore Go.Proofs.YtjngnigelkgekaaGreat.Kit Go.Proofs.YtjngnigelkgekaaGreat.Plain Go.Proofs.YtjngnigelkgekaaGreat.Disk Go.Proofs.YtjngnigelkgekaaGreat.Root
open Go.Proofs.YtjngnigelkgekaaGreat.Delta (Chg KC deltaF rightF okF undeltaF)
open Go.Proofs.YtjngnigelkgekaaGreat.Redo (recR logF logF_bytes appR okA appW appW_flushed over_over sec_over_out logF_of)
open Go.Proofs.YtjngnigelkgekaaGreat.Home (pagesF pageF putP mayF atF may_in)
open Go.Proofs.YtjngnigelkgekaaGreat.Frame (frameF frameF_len readF scanF scanR ScanAt scan_start scan_none scan_some recsF longs longs_app recs_bytes scan_facts recs_len longs_len)
section
variable {n a b k : Nat} {E : Int} {p0 : List (List Int)} {ls : List (List Chg)} {G las : List Int} {wt : Wt} {cuts : List Int}
theorem crash_mix (hl : las.length = 64 * n) (hw : ∀ i b, wt i = some b → b.length = 64) (p : Nat) : (crashed las wt cuts)[p]? = las[p]? ∨ (crashed las wt cuts)[p]? = (flushed las wt)[p]? := by
  unfold crashed flushed
  rw [show las.length / 64 = n by omega, secs_get (cutS_len hl hw), secs_get (fun i hi => Ref.got_len hl hw hi)]
  by_cases hp : p < 64 * n
  · rw [if_pos hp, if_pos hp]
    have hL : las[p]? = (sec las (p / 64))[p % 64]? := by rw [sec_get _ _ _ (by omega), show 64 * (p / 64) + p % 64 = p by omega]
    rw [hL]
    unfold cutS
    cases hwt : wt (p / 64) with
    | none => exact .inl rfl
    | some x =>
      have hx := hw _ _ hwt
      have hs : (sec las (p / 64)).length = 64 := sec_len (by omega)
      have hc := cutN_le cuts (rank wt (p / 64))
      dsimp only
      by_cases h : p % 64 < cutN cuts (rank wt (p / 64))
      · right
        rw [List.getElem?_append_left (by rw [List.length_take]; omega), List.getElem?_take, if_pos h]
        rfl
      · left
        rw [List.getElem?_append_right (by rw [List.length_take]; omega), List.length_take, List.getElem?_drop]
        congr 1
        omega
  · rw [if_neg hp]
    left
    rw [List.getElem?_eq_none (by omega)]
theorem crash_len (hl : las.length = 64 * n) (hw : ∀ i b, wt i = some b → b.length = 64) : (crashed las wt cuts).length = 64 * n := by
  unfold crashed
  rw [show las.length / 64 = n by omega]
  exact secs_len (cutS_len hl hw)
theorem crash_bytes (hl : las.length = 64 * n) (hw : ∀ i b, wt i = some b → b.length = 64) (h1 : Bytes las) (h2 : Bytes (flushed las wt)) : Bytes (crashed las wt cuts) := fun x hx => by
  obtain ⟨p, hp, rfl⟩ := List.getElem_of_mem hx
  have h3 := List.getElem?_eq_getElem hp
  rcases crash_mix (cuts := cuts) hl hw p with h | h
  · exact h1 _ (List.mem_of_getElem? (h ▸ h3))
  · exact h2 _ (List.mem_of_getElem? (h ▸ h3))
theorem crash_sec (hl : las.length = 64 * n) (hw : ∀ i b, wt i = some b → b.length = 64) {i : Nat} (hi : i < n) (h : wt i = none) : sec (crashed las wt cuts) i = sec las i := by
  unfold crashed
  rw [show las.length / 64 = n by omega, sec_secs (cutS_len hl hw) hi]
  unfold cutS
  rw [h]
theorem framesF_more (E : Int) (x : List (List Int)) : ∀ y : List (List Int), ∃ r, framesF E (x ++ y) = framesF E x ++ r := by
  refine rev_ind ⟨[], by rw [List.append_nil, List.append_nil]⟩ (fun y z ih => ?_)
  obtain ⟨r, hr⟩ := ih
  exact ⟨r ++ frameF E ((x ++ y).length : Int) z, by rw [← List.append_assoc, framesF_snoc, hr, List.append_assoc]⟩
def Off (a : Nat) (wt : Wt) : Prop := ∀ j, (j < 2 ∨ 2 + a ≤ j) → wt j = none
theorem off_none (a : Nat) : Off a noW := fun j _ => rfl
theorem Off.app {at_ : Int} {x : List Int} {c : Int} (h : Off a wt) : Off a (appR n las wt (a : Int) (b : Int) c at_ x) := fun j hj => by
  unfold appR
  split
  · rename_i hok
    have h1 := Redo.ok_in hok
    unfold appW
    rw [if_neg]
    · exact h j hj
    · rintro ⟨-, h2, h3⟩
      omega
  · exact h j hj
theorem crash_keeps (h1 : Com n a b E p0 (ls.take k) las) (h2 : Com n a b E p0 ls (flushed las wt)) (hw : ∀ i b, wt i = some b → b.length = 64) (ho : Off a wt) (hk : k ≤ ls.length) :
    Lay n a b E (crashed las wt cuts) ∧ pagesF n (crashed las wt cuts) noW (a : Int) (b : Int) E = p0 ∧ ∃ more, (scanR (logF n (crashed las wt cuts) noW (a : Int) (b : Int) E) E).1 = (ls.take k).map deltaF ++ more := by
  have hl := h1.lay.len
  have hr := h1.lay.rgt
  have hcl := crash_len (cuts := cuts) hl hw
  have hcb := crash_bytes (cuts := cuts) hl hw h1.lay.byt h2.lay.byt
  have hlay : Lay n a b E (crashed las wt cuts) := by
    refine ⟨hcl, hcb, hr, ?_, ?_⟩
    · rw [crash_sec hl hw (by omega) (ho _ (.inl (by omega)))]; exact h1.lay.rt
    · rw [crash_sec hl hw (by omega) (ho _ (.inl (by omega)))]; exact h1.lay.ot
  refine ⟨hlay, ?_, ?_⟩
  · rw [hlay.pages, ← h1.pgs, h1.lay.pages]
    refine List.map_congr_left (fun i hi => ?_)
    have hi := List.mem_range.1 hi
    exact crash_sec hl hw (by omega) (ho _ (.inr (by omega)))
  · have hlg := logF_of hcl Ref.none_len hlay.right
    rw [flushed_none hcl] at hlg
    have hl1 := logF_of hl Ref.none_len h1.lay.right
    rw [flushed_none hl] at hl1
    have hl2 := logF_of h2.lay.len Ref.none_len h2.lay.right
    rw [flushed_none h2.lay.len] at hl2
    obtain ⟨u, hu⟩ : ∃ u, longs ((ls.take k).map deltaF) = u := ⟨_, rfl⟩
    have hfu : u ≤ 64 * a := by rw [← hu]; exact h1.fit
    obtain ⟨X, hX⟩ : ∃ X, framesF E ((ls.take k).map deltaF) = X := ⟨_, rfl⟩
    have hXl : X.length = u := by rw [← hX, framesF_len, hu]
    obtain ⟨r, hr2⟩ := framesF_more E ((ls.take k).map deltaF) ((ls.drop k).map deltaF)
    rw [← List.map_append, List.take_append_drop, hX] at hr2
    have e1 : ∀ p, p < u → las[128 + p]? = X[p]? := fun p hp => by
      have h3 := h1.log
      rw [hl1, hX] at h3
      have h4 := congrArg (fun l => l[p]?) h3
      rw [List.getElem?_drop, List.getElem?_take, if_pos (by omega), List.getElem?_append_left (by omega)] at h4
      exact h4
    have e2 : ∀ p, p < u → (flushed las wt)[128 + p]? = X[p]? := fun p hp => by
      have h3 := h2.log
      rw [hl2, hr2, List.append_assoc] at h3
      have h4 := congrArg (fun l => l[p]?) h3
      rw [List.getElem?_drop, List.getElem?_take, if_pos (by omega), List.getElem?_append_left (by omega)] at h4
      exact h4
    have e3 : (logF n (crashed las wt cuts) noW (a : Int) (b : Int) E).take u = X := by
      rw [hlg]
      apply List.ext_getElem?
      intro p
      rw [List.getElem?_take]
      by_cases hp : p < u
      · rw [if_pos hp, List.getElem?_drop, List.getElem?_take, if_pos (by omega)]
        rcases crash_mix (cuts := cuts) hl hw (128 + p) with h | h
        · rw [h, e1 p hp]
        · rw [h, e2 p hp]
      · rw [if_neg hp, List.getElem?_eq_none (by omega)]
    have hlb := hlay.logB
    have hd : logF n (crashed las wt cuts) noW (a : Int) (b : Int) E = framesF E ((ls.take k).map deltaF) ++ (logF n (crashed las wt cuts) noW (a : Int) (b : Int) E).drop u := by
      rw [hX, ← e3, List.take_append_drop]
    have hsm := h1.small
    obtain ⟨f, hf⟩ := scan_frames (ep := E) (by omega) ((ls.take k).map deltaF) ((logF n (crashed las wt cuts) noW (a : Int) (b : Int) E).drop u) (fun x hx => by
        obtain ⟨l, hl, rfl⟩ := List.mem_map.1 hx
        exact (h1.rgt l hl).2) (hlb.1.drop _) (fun x hx => by
        obtain ⟨l, hl, rfl⟩ := List.mem_map.1 hx
        have h1 := right_len (h1.rgt l hl).1
        omega) (by rw [List.length_map]; omega)
    rw [← hd] at hf
    exact ⟨_, congrArg Prod.fst hf.eq⟩
theorem crash_shown (h1 : Com n a b E p0 (ls.take k) las) (h2 : Com n a b E p0 ls (flushed las wt)) (hw : ∀ i b, wt i = some b → b.length = 64) (ho : Off a wt) (hk : k ≤ ls.length) {l : List (List Int)} (hs : (scanR (logF n (crashed las wt cuts) noW (a : Int) (b : Int) E) E).1 = l) (hll : l.length ≤ ls.length) (hle : l = (ls.map deltaF).take l.length) :
    Lay n a b E (crashed las wt cuts) ∧ k ≤ l.length ∧ shownF n a b E (crashed las wt cuts) = pgAll p0 (ls.take l.length) := by
  obtain ⟨c1, c2, more, c3⟩ := crash_keeps (cuts := cuts) h1 h2 hw ho hk
  refine ⟨c1, ?_, ?_⟩
  · rw [hs] at c3
    rw [c3, List.length_append, List.length_map, List.length_take]
    omega
  · unfold shownF rowsF recR
    rw [c2, hs]
    congr 1
    have h3 := recs_deltas (P := (b : Int)) (ls.take l.length) (fun x hx => (h2.rgt x (List.mem_of_mem_take hx)).1)
    rw [List.map_take, ← hle] at h3
    exact h3
end
end Go.Proofs.YtjngnigelkgekaaGreat.Store
namespace Go.Proofs.YtjngnigelkgekaaGreat.Keeps
set_option linter.unusedVariables false
set_option linter.unusedSimpArgs false
open Go.RowKit Go.Proofs.YtjngnigelkgekaaGreatW.PrintWords Go.Proofs.YtjngnigelkgekaaGreatW.PrintLast Go.Proofs.YtjngnigelkgekaaGreatW.PrintMore Go.Proofs.YtjngnigelkgekaaGreat.Kit Go.Proofs.YtjngnigelkgekaaGreat.Plain Go.Proofs.YtjngnigelkgekaaGreat.Disk Go.Proofs.YtjngnigelkgekaaGreat.Root
open Go.Proofs.YtjngnigelkgekaaGreat.Home (K2 RT)
open Go.Proofs.YtjngnigelkgekaaGreat.Delta (Chg KC deltaF rightF okF)
open Go.Proofs.YtjngnigelkgekaaGreat.Redo (logF rlog_)
open Go.Proofs.YtjngnigelkgekaaGreat.Frame (scanR rscan_ scan_facts)
open Go.Proofs.YtjngnigelkgekaaGreat.Store (Lay noW no_bytes)
theorem k2_at {W : World} {A : Option Addr} {n : Nat} {xs : List (List Int)} (h : K2.C W A n xs) {i : Nat} (hi : i < n) :
    ∃ (hx : i < xs.length) (ad : Addr) (B : Option Addr) (c : Nat), A = some ad ∧ W.cell? (ad.add i) = some (.slice B (xs[i]).length c) ∧ (Kd.int .u8).C W B (xs[i]).length xs[i] ∧ (xs[i]).length ≤ c := by
  obtain ⟨hx, ad, B, c, e, h1, h2, h3⟩ := Store.elemP h hi
  exact ⟨hx, ad, B, c, e, h1, h3, h2⟩
def TornP (w : World) (rs ds : List (List Int)) (e : Ending) (w' : World) : Prop := ∃ t, e = .returned (.bool t) ∧ Below w.heap.size w w' ∧ (t = false → rs.length ≤ ds.length ∧ rs = ds.take rs.length)
theorem take_step {l ds : List (List Int)} {j : Nat} (h : l.take j = ds.take j) (h1 : j < l.length) (h2 : j < ds.length) (he : l[j] = ds[j]) : l.take (j + 1) = ds.take (j + 1) := by
  rw [Store.take_one h1, Store.take_one h2, h, he]
set_option maxHeartbeats 1600000 in
set_option maxRecDepth 100000 in
theorem torn_ {A0 A1 : Option Addr} {n n0 c0 n1 c1 a b : Nat} {E : Int} {L : List Int} {ds : List (List Int)} {w : World} (h0 : (Kd.int .u8).C w A0 n0 L) (hL : Lay n a b E L) (hn1 : 1 ≤ n) (hn2 : n ≤ 160) (h1 : K2.C w A1 n1 ds) (hd : ∀ x ∈ ds, Bytes x) :
    Calls Tryz.prog 35 #[.slice A0 n0 c0, .slice A1 n1 c1] w fun e w' => TornP w (scanR (logF n L noW (a : Int) (b : Int) E) E).1 ds e w' := by
  have HN0 : Aside0 (n0 = 64 * n) := ⟨h0.1.symm.trans hL.len⟩
  have hr := hL.rgt
  have H0 := Aside0.mk h0
  have H1 := Aside0.mk (And.intro h1 hd)
  have HL := Aside0.mk hL
  have HNN := Aside0.mk (And.intro hn1 hn2)
  clear hn1 hn2
  have hE1 : decide (0 < E) = true := decide_eq_true (by omega)
  clear h0 h1 hL hd hr
  go_enter Tryz.func35, Tryz.ntmps35
  go_wp2_with fail
  refine (Ref.of_ok H0.out (m := n) HN0.out HNN.out.1 HNN.out.2).mono ?_
  rintro e w1 ⟨g, rfl, hS1⟩
  have B1 : Aside0 (Sep w w1 (RT g n L noW 0 :: [])) := ⟨by
    show Sep w w1 [Ref.RD g n L (flushed L noW) (Ref.waitL n noW) (-1) ((0 : Nat) : Int)]
    rw [flushed_none HL.out.len, Ref.waitL_none]
    exact hS1⟩
  clear hS1
  go_wp2_with fail
  refine (rbest_ (done := 0) B1.out HL.out.len Ref.none_len (fun j => secF_bytes HL.out.byt no_bytes j)).mono ?_
  rintro e w2 ⟨rfl, hS2⟩
  rw [HL.out.best, show rootV ((a : Int), (b : Int), E) = .agg #[.int .i64 (a : Int), .int .i64 (b : Int), .int .u32 E] from rfl]
  have B2 := Aside0.mk (hS2.newBlk 80 #[.int .i64 (a : Int), .int .i64 (b : Int), .int .u32 E])
  clear hS2
  obtain ⟨gr, hgr⟩ : ∃ x, w2.heap.size = x := ⟨_, rfl⟩
  rw [hgr] at B2
  have B2d := Aside0.mk B2.out.drew
  have HLB := Aside0.mk HL.out.logB
  have HA : Aside0 (a ≤ 64) := ⟨HL.out.rgt.2.1⟩
  go_wp2_with fail
  obtain ⟨W2, hW2⟩ : ∃ x, w2.alloc (.cells #[.int .i64 (a : Int), .int .i64 (b : Int), .int .u32 E] 80) = x := ⟨_, rfl⟩
  rw [hW2] at B2d
  try rw [hW2]
  clear hW2
  refine start_ (n := 11) (S := fun w' => w'.cell? ⟨gr, 0, none⟩ = some (.int .i64 (a : Int)) ∧ w'.cell? ⟨gr, 1, none⟩ = some (.int .i64 (b : Int)) ∧ w'.cell? ⟨gr, 2, none⟩ = some (.int .u32 E)) (ds := []) #[false, false, false, false, false, false, false, false, false, false, false] (by kernel_rfl) rfl rfl ⟨(B2d.out.cell 0).trans rfl, (B2d.out.cell 1).trans rfl, (B2d.out.cell 2).trans rfl⟩ (fun hHeld => ?_)
  refine pure_ (i := 0) (N := some 24) (v := ?_) (a' := ?_) #[true, false, false, false, false, false, false, false, false, false, false] rfl rfl (by kernel_rfl) (fun _ _ _ h => h) (Or.inl ⟨by rfl, ?_⟩) ?_ ?_
  rotate_left
  · intro w'
    go_simp
    with_reducible rfl
  rotate_left
  · simp only [Act.put, List.setIfInBounds_toArray, List.set_cons_zero, List.set_cons_succ, i64_w, i32_w]
    rfl
  refine pure_ (i := 3) (N := some 27) (v := ?_) (a' := ?_) #[true, false, false, true, false, false, false, false, false, false, false] rfl rfl (by kernel_rfl) (fun _ _ _ h => h) (Or.inl ⟨by rfl, ?_⟩) ?_ ?_
  rotate_left
  · intro w'
    go_simp
    with_reducible rfl
  rotate_left
  · simp only [Act.put, List.setIfInBounds_toArray, List.set_cons_zero, List.set_cons_succ, i64_w, i32_w]
    rfl
  refine take_ (i := 1) (N := some 25) (v := ?_) (a' := ?_) #[true, true, false, true, false, false, false, false, false, false, false] rfl rfl (by kernel_rfl) (fun _ _ _ h => h) (Or.inl ⟨by rfl, ?_⟩) hHeld ?_ ?_
  rotate_left
  · rintro w' ⟨s0, s1, s2⟩
    go_simp
    with_reducible rfl
  rotate_left
  · simp only [Act.put, List.setIfInBounds_toArray, List.set_cons_zero, List.set_cons_succ, i64_w, i32_w]
    rfl
  refine take_ (i := 4) (N := some 28) (v := ?_) (a' := ?_) #[true, true, false, true, true, false, false, false, false, false, false] rfl rfl (by kernel_rfl) (fun _ _ _ h => h) (Or.inl ⟨by rfl, ?_⟩) hHeld ?_ ?_
  rotate_left
  · rintro w' ⟨s0, s1, s2⟩
    go_simp
    with_reducible rfl
  rotate_left
  · simp only [Act.put, List.setIfInBounds_toArray, List.set_cons_zero, List.set_cons_succ, i64_w, i32_w]
    rfl
  refine one_ (i := 2) (N := some 26) #[true, true, true, true, true, false, false, false, false, false, false] rfl rfl (by kernel_rfl) (by decide) (fun K hK => ?_)
  refine goes_ Tryz.func76 (by kernel_rfl) rfl #[.pointer (some ⟨g, 0, none⟩), .agg #[.int .i64 (a : Int), .int .i64 (b : Int), .int .u32 E]] (by rfl) rfl rfl (by simp only [List.map_toArray, List.map_cons, List.map_nil]; rfl) ?_
  with_reducible refine (rlog_ B2d.out.at2 HL.out.len Ref.none_len (a : Int) (b : Int) E).mono ?_
  rintro e w3 ⟨v3, rfl, hS3⟩
  refine ⟨_, rfl, ?_⟩
  obtain ⟨A3, c3, rfl⟩ := hS3.rowN HLB.out.2
  have B3 := Aside0.mk hS3
  clear hS3
  refine hK.out _ _ ⟨(B3.out.at3.cell 0).trans rfl, (B3.out.at3.cell 1).trans rfl, (B3.out.at3.cell 2).trans rfl⟩ (fun hHeld => ?_)
  clear hK K
  refine norm_ (a' := ?_) ?_ ?_
  rotate_left
  · show Act.put _ (some 26) _ = _
    simp only [Act.put, List.setIfInBounds_toArray, List.set_cons_zero, List.set_cons_succ, i64_w, i32_w]
    rfl
  refine one_ (i := 5) (N := some 29) #[true, true, true, true, true, true, false, false, false, false, false] rfl rfl (by kernel_rfl) (by decide) (fun K hK => ?_)
  refine goes_ Tryz.func75 (by kernel_rfl) rfl #[.slice A3 (64 * a) c3, .int .u32 E] (by rfl) rfl rfl (by simp only [List.map_toArray, List.map_cons, List.map_nil]; rfl) ?_
  with_reducible refine (rscan_ B3.out.rowC' B3.out.rowC.2.1 HLB.out.1 (by have := HA.out; omega) E).mono ?_
  rintro e w4 ⟨v4, rfl, hS4⟩
  refine ⟨_, rfl, ?_⟩
  have B4 := Aside0.mk (B3.out.lift1 hS4)
  clear hS4
  refine hK.out _ _ ⟨(B4.out.at4.cell 0).trans rfl, (B4.out.at4.cell 1).trans rfl, (B4.out.at4.cell 2).trans rfl⟩ (fun hHeld => ?_)
  clear hK K
  refine norm_ (a' := ?_) ?_ ?_
  rotate_left
  · show Act.put _ (some 29) _ = _
    simp only [Act.put, List.setIfInBounds_toArray, List.set_cons_zero, List.set_cons_succ, i64_w, i32_w]
    rfl
  refine pure_ (i := 6) (N := some 23) (v := ?_) (a' := ?_) #[true, true, true, true, true, true, true, false, false, false, false] rfl rfl (by kernel_rfl) (fun _ _ _ h => h) (Or.inl ⟨by rfl, ?_⟩) ?_ ?_
  rotate_left
  · intro w'
    go_simp
    with_reducible rfl
  rotate_left
  · simp only [Act.put, List.setIfInBounds_toArray, List.set_cons_zero, List.set_cons_succ, i64_w, i32_w]
    rfl
  refine pure_ (i := 7) (N := some 30) (v := ?_) (a' := ?_) #[true, true, true, true, true, true, true, true, false, false, false] rfl rfl (by kernel_rfl) (fun _ _ _ h => h) (Or.inl ⟨by rfl, ?_⟩) ?_ ?_
  rotate_left
  · intro w'
    go_simp
    with_reducible rfl
  rotate_left
  · simp only [Act.put, List.setIfInBounds_toArray, List.set_cons_zero, List.set_cons_succ, i64_w, i32_w]
    rfl
  refine pure_ (i := 8) (N := some 31) (v := ?_) (a' := ?_) #[true, true, true, true, true, true, true, true, true, false, false] rfl rfl (by kernel_rfl) (fun _ _ _ h => h) (Or.inl ⟨by rfl, ?_⟩) ?_ ?_
  rotate_left
  · intro w'
    go_simp
    with_reducible rfl
  rotate_left
  · simp only [Act.put, List.setIfInBounds_toArray, List.set_cons_zero, List.set_cons_succ, i64_w, i32_w]
    rfl
  refine pure_ (i := 9) (N := some 8) (v := ?_) (a' := ?_) #[true, true, true, true, true, true, true, true, true, true, false] rfl rfl (by kernel_rfl) (fun _ _ _ h => h) (Or.inl ⟨by rfl, ?_⟩) ?_ ?_
  rotate_left
  · intro w'
    go_simp
    with_reducible rfl
  rotate_left
  · simp only [Act.put, List.setIfInBounds_toArray, List.set_cons_zero, List.set_cons_succ, i64_w, i32_w]
    rfl
  refine pure_ (i := 10) (N := some 9) (v := ?_) (a' := ?_) #[true, true, true, true, true, true, true, true, true, true, true] rfl rfl (by kernel_rfl) (fun _ _ _ h => h) (Or.inl ⟨by rfl, ?_⟩) ?_ ?_
  rotate_left
  · intro w'
    go_simp
    with_reducible rfl
  rotate_left
  · simp only [Act.put, List.setIfInBounds_toArray, List.set_cons_zero, List.set_cons_succ, i64_w, i32_w]
    rfl
  refine done_ (by kernel_rfl) ?_
  have HSF := Aside0.mk (scan_facts HLB.out.1 E)
  obtain ⟨rows, hrows⟩ : ∃ r, (scanR (logF n L noW (a : Int) (b : Int) E) E).1 = r := ⟨_, rfl⟩
  rw [hrows] at B4
  have HBR : Aside0 (∀ x ∈ rows, Bytes x) := ⟨by rw [← hrows]; exact HSF.out.1⟩
  obtain ⟨N, hN⟩ : ∃ N, rows.length = N := ⟨_, rfl⟩
  obtain ⟨A4, c4, rfl⟩ := B4.out.rowN hN
  have HN := Aside0.mk hN
  have HRW := Aside0.mk hrows
  have hNm : N ≤ 9223372036854775807 := (B4.out.rowC').2.1
  have hn1m : n1 ≤ 9223372036854775807 := H1.out.1.2.1
  clear hrows hN
  go_wp2_with fail
  go_loopg [34] N (fun k_ p wr => ∃ j : Nat, p = .int .i64 (j : Int) ∧ j + k_ = N ∧ j ≤ ds.length ∧ rows.take j = ds.take j ∧ Sep w wr [Row K2 24 (.slice A4 N c4) rows])
  case atStart => exact ⟨0, rfl, by omega, Nat.zero_le _, rfl, B4.out.drop2.drop2.drop2⟩
  case round =>
    obtain ⟨j, rfl, hjk, hjd, hjt, hS⟩ := hrel
    obtain ⟨w5, rfl⟩ : ∃ x, x = wr := ⟨_, rfl⟩
    have AK := Aside0.mk (And.intro hjk (And.intro hjd hjt))
    have AS := Aside0.mk hS
    have HDL := Aside0.mk H1.out.1.1
    clear hS hjd hjt
    by_cases cj : j < N
    case neg =>
      obtain rfl : j = N := by omega
      have hjl : ¬ (j : Int) < (j : Int) := by omega
      clear hjk cj
      go_wp2_with fail
      go_ret
      refine ⟨false, by first | rfl | (simp; done), AS.out.toBelow, fun _ => ?_⟩
      have ht := AK.out.2.2
      rw [HRW.out, HN.out]
      refine ⟨AK.out.2.1, ?_⟩
      rw [← ht, List.take_of_length_le (by rw [HN.out]; exact Nat.le_refl _)]
    case pos =>
    have hjl : (j : Int) < (N : Int) := by omega
    obtain ⟨hx, ad, B, cb, rfl, f1, f2, f3⟩ := k2_at AS.out.rowC' cj
    obtain ⟨x, hxe⟩ : ∃ x, rows[j] = x := ⟨_, rfl⟩
    have HX := Aside0.mk hxe
    have HXB : Aside0 (Bytes x) := ⟨by rw [← hxe]; exact HBR.out _ (List.getElem_mem _)⟩
    rw [hxe] at f1 f2
    have u1 := fun q => Str.strC (c := cb) (Kd.C_below f2 (pw_below_drewN (Below.refl w5.heap.size w5) q))
    obtain ⟨sx, hsx⟩ : ∃ s, strOfNums x = s := ⟨_, rfl⟩
    have HSX := Aside0.mk hsx
    rw [hsx] at u1
    generalize x.length = nx at *
    by_cases ci : j < n1
    case neg =>
      have hil : (n1 : Int) ≤ (j : Int) := by omega
      have hild : decide ((n1 : Int) ≤ (j : Int)) = true := decide_eq_true hil
      have hildn : decide (n1 ≤ j) = true := decide_eq_true (by omega)
      clear hjk cj f2 f3 hxe hsx ci
      go_wp2_with fail
      go_quiet (fail)
      go_wp2_with fail
      go_ret
      exact ⟨true, by first | rfl | (simp; done), (AS.out.drewN _).toBelow, fun h => by cases h⟩
    case pos =>
    have hil : ¬ (n1 : Int) ≤ (j : Int) := by omega
    have hild : decide ((n1 : Int) ≤ (j : Int)) = false := decide_eq_false hil
    have hildn : decide (n1 ≤ j) = false := decide_eq_false (by omega)
    have hil2 : (j : Int) < (n1 : Int) := by omega
    obtain ⟨hy, ad2, B2', cb2, rfl, g1, g2, g3⟩ := k2_at (Kd.C_below H1.out.1 AS.out.toBelow) ci
    obtain ⟨y, hye⟩ : ∃ y, ds[j] = y := ⟨_, rfl⟩
    have HY := Aside0.mk hye
    have HYB : Aside0 (Bytes y) := ⟨by rw [← hye]; exact H1.out.2 _ (List.getElem_mem _)⟩
    rw [hye] at g1 g2
    have u2 := fun q => cell_later (pw_below_drewN (Below.refl w5.heap.size w5) q) g1
    have u3 := fun q => Str.strC (c := cb2) (Kd.C_below g2 (pw_below_drewN (Below.refl w5.heap.size w5) q))
    obtain ⟨sy, hsy⟩ : ∃ s, strOfNums y = s := ⟨_, rfl⟩
    have HSY := Aside0.mk hsy
    rw [hsy] at u3
    generalize y.length = ny at *
    by_cases hxy : x = y
    case pos =>
      have hsxy : sx = sy := by rw [← hsx, ← hsy, hxy]
      subst hsxy
      have HXY := Aside0.mk hxy
      have hss : (sx.toList == sx.toList) = true := by simp
      clear hjk cj f2 f3 hxe hsx ci g1 g2 g3 hye hsy hxy
      go_wp2_with fail
      go_quiet (fail)
      go_wp2_with fail
      go_roundg (gk - 1)
      case measure => have := AK.out.1; omega
      case rel => exact ⟨j + 1, by go_num, by have := AK.out.1; omega, by omega, take_step AK.out.2.2 hx hy (by rw [HX.out, HY.out, HXY.out]), AS.out.drewN _⟩
    case neg =>
    have hss : (sx.toList == sy.toList) = false := by rw [← hsx, ← hsy, Str.beq_bytes HXB.out HYB.out]; exact decide_eq_false hxy
    clear hjk cj f2 f3 hxe hsx ci g1 g2 g3 hye hsy hxy
    go_wp2_with fail
    go_quiet (fail)
    go_wp2_with fail
    go_ret
    exact ⟨true, by first | rfl | (simp; done), (AS.out.drewN _).toBelow, fun h => by cases h⟩
end Go.Proofs.YtjngnigelkgekaaGreat.Keeps
namespace Go.Proofs.YtjngnigelkgekaaGreat.Store
set_option linter.unusedVariables false
set_option linter.unusedSimpArgs false
open Go.RowKit Go.Proofs.YtjngnigelkgekaaGreatW.PrintWords Go.Proofs.YtjngnigelkgekaaGreatW.PrintLast Go.Proofs.YtjngnigelkgekaaGreatW.PrintMore Go.Proofs.YtjngnigelkgekaaGreat.Kit Go.Proofs.YtjngnigelkgekaaGreat.Plain Go.Proofs.YtjngnigelkgekaaGreat.Disk Go.Proofs.YtjngnigelkgekaaGreat.Root
open Go.Proofs.YtjngnigelkgekaaGreat.Delta (Chg KC deltaF rightF)
open Go.Proofs.YtjngnigelkgekaaGreat.Redo (appR sizeF)
open Go.Proofs.YtjngnigelkgekaaGreat.Frame (frameF)
theorem k_size : ((0 : Nat) : Int) ≤ sizeF 9 := by decide +kernel
theorem k_flush' : flushed z2L (appR 20 z2L noW 9 4 2 ((0 : Nat) : Int) (frameF 2 ((0 : Nat) : Int) (deltaF [(2, s5)]))) = z3L := k_flush
theorem k_p2 {ps : List (List Int)} (h : applyF zps [(2, s5)] = ps) : ∃ hi : 2 < ps.length, ps[2] = s5 ∧ ps.length = 4 := by
  rw [k_app] at h
  subst h
  exact ⟨by decide, rfl, rfl⟩
set_option maxHeartbeats 3200000 in
set_option maxRecDepth 100000 in
theorem known_ (w : World) : Calls Tryz.prog 12 #[] w fun e w' => e = .returned (.bool true) ∧ Below w.heap.size w w' := by
  go_enter Tryz.func12, Tryz.ntmps12
  go_wp2_with fail
  refine (new_ok (n := 20) (by decide) (by decide)).mono ?_
  rintro e w1 ⟨g, rfl, hS1⟩
  have B1 := Aside0.mk hS1
  clear hS1
  go_wp2_with fail
  refine (k_open0 B1.out).mono ?_
  rintro e w2 ⟨rfl, hS2⟩
  have B2 := Aside0.mk hS2
  clear hS2
  go_wp2_with fail
  refine (k_format B2.out).mono ?_
  rintro e w3 ⟨rfl, hS3⟩
  have B3 := Aside0.mk hS3
  clear hS3
  go_wp2_with fail
  refine (k_open1 B3.out).mono ?_
  rintro e w4 ⟨gs, m, rfl, hS4⟩
  have B4 := Aside0.mk hS4
  clear hS4
  go_wp2_with fail
  refine (sector_ 5 _).mono ?_
  rintro e w5 ⟨v5, rfl, hS5⟩
  obtain ⟨A5, c5, rfl⟩ := hS5.rowN (n := 64) rfl
  have B5 := Aside0.mk ((B4.out.lift1 hS5).newBlk 75 #[.int .i64 2, .slice A5 64 c5])
  clear hS5
  go_wp2_with fail
  refine (commit_ok (n := 20) (l := [(2, s5)]) (n2 := 1) (c2 := 1) B5.out.at3.at4.at2 k_len2 (by decide) Ref.none_len (fun W' hW => chg_lit hW) k_r1 k_size k_fit (by decide) (by decide) (by decide) k_pl (by decide)).mono ?_
  rintro e w6 ⟨rfl, hS6⟩
  obtain ⟨ps, hps⟩ : ∃ p, applyF zps [(2, s5)] = p := ⟨_, rfl⟩
  have HPS := Aside0.mk (k_p2 hps)
  have HPE := Aside0.mk hps
  rw [hps] at hS6
  obtain ⟨nm, hnm⟩ : ∃ p, insAll [] [(2, s5)] = p := ⟨_, rfl⟩
  rw [hnm] at hS6
  obtain ⟨wt6, hwt6⟩ : ∃ t, appR 20 z2L noW 9 4 2 ((0 : Nat) : Int) (frameF 2 ((0 : Nat) : Int) (deltaF [(2, s5)])) = t := ⟨_, rfl⟩
  have HFL : Aside0 (flushed z2L wt6 = z3L) := ⟨by rw [← hwt6]; exact k_flush'⟩
  rw [hwt6] at hS6
  have B6 : Aside0 (Sep w w6 (StB gs g m 9 4 2 ps nm 84 1 :: Dsk g z2L wt6 :: _)) := ⟨hS6⟩
  clear hS6 hps hnm hwt6
  go_wp2_with fail
  refine (sector_ 5 _).mono ?_
  rintro e w7 ⟨v7, rfl, hS7⟩
  obtain ⟨A7, c7, rfl⟩ := hS7.rowN (n := 64) rfl
  have B7 := Aside0.mk ((B6.out.lift1 hS7).newBlk 75 #[.int .i64 4, .slice A7 64 c7])
  clear hS7
  go_wp2_with fail
  refine (commit_bad (l := [(4, s5)]) (n2 := 1) (c2 := 1) B7.out.at3 (chg_lit B7.out) k_r2).mono ?_
  rintro e w8 ⟨rfl, hS8⟩
  have B8 : Aside0 (Sep w w8 (StB gs g m 9 4 2 ps nm 84 1 :: Dsk g z2L wt6 :: _)) := ⟨hS8.at4.at2⟩
  clear hS8
  go_wp2_with fail
  obtain ⟨hi2, hp2, hp4⟩ := HPS.out
  refine (page_in B8.out 2 hi2 (by rw [hp2]; decide) (by rw [hp4]; decide)).mono ?_
  rintro e w9 ⟨v9, rfl, hS9⟩
  rw [hp2] at hS9
  obtain ⟨g9, c9, rfl⟩ := hS9.rowFormN (n := 64) rfl (by decide)
  have B9 := Aside0.mk hS9
  clear hS9
  go_wp2_with fail
  refine (used_ B9.out.at2).mono ?_
  rintro e w10 ⟨rfl, rfl⟩
  go_wp2_with fail
  refine (seq_ B9.out.at2).mono ?_
  rintro e w10 ⟨rfl, rfl⟩
  go_wp2_with fail
  refine (sync_ B9.out.to3).mono ?_
  rintro e w11 ⟨rfl, hS11⟩
  rw [HFL.out] at hS11
  have B11 := Aside0.mk hS11.at2
  clear hS11
  go_wp2_with fail
  refine (crash_ (cuts := []) (n := 0) (c := 0) (A := none) B11.out (fun W' hW => Kd.C_nil _ _)).mono ?_
  rintro e w12 ⟨rfl, hS12⟩
  rw [k_crash] at hS12
  have B12 := Aside0.mk hS12
  clear hS12
  generalize ((keysOf (z3L.length / 64) noW).length : Int) = q12
  go_wp2_with fail
  refine (k_open3 B12.out).mono ?_
  rintro e w13 ⟨gs2, m2, L4, rfl, hL4, hS13⟩
  rw [HPE.out] at hS13
  have HL4 := Aside0.mk hL4
  have B13 := Aside0.mk hS13
  clear hS13 hL4
  go_wp2_with fail
  refine (page_in B13.out 2 hi2 (by rw [hp2]; decide) (by rw [hp4]; decide)).mono ?_
  rintro e w14 ⟨v14, rfl, hS14⟩
  rw [hp2] at hS14
  obtain ⟨g14, c14, rfl⟩ := hS14.rowFormN (n := 64) rfl (by decide)
  have B14 := Aside0.mk hS14
  clear hS14
  have y1 := (B14.out.rowCell (0 : Int) 0 (by decide)).1
  have y2 := (B14.out.at5.rowCell (0 : Int) 0 (by decide)).1
  rw [show List.getD s5 0 0 = 5 from rfl] at y1 y2
  go_wp2_with fail
  refine (root_ B14.out.at2).mono ?_
  rintro e w15 ⟨rfl, hb15⟩
  have B15 := Aside0.mk (B14.out.below hb15)
  clear hb15 y1 y2
  have hfd : ∀ w : World, (Instr.field 80 (.agg #[.int .i64 9, .int .i64 4, .int .u32 3]) 2).run Tryz.prog w = .ok (.int .u32 3) w := fun _ => by kernel_rfl
  go_wp2_with fail
  refine (page_out B15.out.at2 9 (by rw [hp4]; decide)).mono ?_
  rintro e w16 ⟨rfl, rfl⟩
  go_wp2_with fail
  refine (format_bad (n := 20) B15.out.at3 HL4.out 99 1 (by decide +kernel)).mono ?_
  rintro e w17 ⟨rfl, hS17⟩
  have B17 := Aside0.mk hS17
  clear hS17
  go_wp2_with fail
  refine (format_nil 1 1 _).mono ?_
  rintro e w18 ⟨rfl, rfl⟩
  go_wp2_with fail
  go_ret
  exact ⟨by first | rfl | (simp; done), B17.out.toBelow⟩
end Go.Proofs.YtjngnigelkgekaaGreat.Store
namespace Go.Proofs.YtjngnigelkgekaaGreat.Store
end Go.Proofs.YtjngnigelkgekaaGreat.Store
namespace Go.Proofs.YtjngnigelkgekaaGreat.Store
set_option linter.unusedVariables false
open Go.RowKit Go.Proofs.YtjngnigelkgekaaGreatW.PrintWords Go.Proofs.YtjngnigelkgekaaGreatW.PrintLast Go.Proofs.YtjngnigelkgekaaGreatW.PrintMore Go.Proofs.YtjngnigelkgekaaGreat.Kit Go.Proofs.YtjngnigelkgekaaGreat.Plain Go.Proofs.YtjngnigelkgekaaGreat.Disk Go.Proofs.YtjngnigelkgekaaGreat.Root
open Go.Proofs.YtjngnigelkgekaaGreat.Delta (Chg KC deltaF rightF okF)
open Go.Proofs.YtjngnigelkgekaaGreat.Redo (recR logF logF_bytes appR sizeF)
open Go.Proofs.YtjngnigelkgekaaGreat.Home (pagesF)
open Go.Proofs.YtjngnigelkgekaaGreat.Tape (good)
theorem appR_len {n : Nat} {las : List Int} {wt : Wt} {a b c at_ : Int} {xs : List Int} (hl : las.length = 64 * n) (hw : ∀ i b, wt i = some b → b.length = 64) : ∀ i b', appR n las wt a b c at_ xs i = some b' → b'.length = 64 := by
  unfold appR
  split
  · rename_i h
    have h1 := Redo.ok_in h
    exact Redo.appW_len hl hw (by omega)
  · exact hw
end Go.Proofs.YtjngnigelkgekaaGreat.Store
