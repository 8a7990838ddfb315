/- StAny, StRef5, StRef2: what HealTwice needs. -/
import Derived.Test.YtjngnigelkgekaaGreatThealTwice20
set_option linter.unusedVariables false
set_option linter.unusedSimpArgs false
namespace Go.Proofs.YtjngnigelkgekaaGreat.RStore
open Go.RowKit Go.Proofs.YtjngnigelkgekaaGreat.Kit Go.Proofs.YtjngnigelkgekaaGreat.Plain Go.Proofs.YtjngnigelkgekaaGreat.Disk Go.Proofs.YtjngnigelkgekaaGreat.Root
open Go.Proofs.YtjngnigelkgekaaGreat.Delta (Chg KC deltaF rightF okF undeltaF)
open Go.Proofs.YtjngnigelkgekaaGreat.Redo (recR logF logF_bytes appR sizeF sizeF_in)
open Go.Proofs.YtjngnigelkgekaaGreat.Home (pagesF pageF putP mayF atF)
open Go.Proofs.YtjngnigelkgekaaGreat.Frame (frameF frameF_len frameF_bytes scanR recsF longs scan_facts recs_bytes recs_len longs_len)
open Go.Proofs.YtjngnigelkgekaaGreat.Store (sortK sortK_perm applyF applyOne applyF_len applyF_all pgAll pgAll_len pgAll_all insAll insK nmAll nmAll_mem openN openN_mem homeW homeW_len homeW_bytes chkL chk_len crash_len crash_bytes no_bytes recs_right right_in right_all fitsF fits_in insAll_len insK_mem insK_keep insK_new insAll_mem insAll_keep insAll_new)
open Go.Proofs.YtjngnigelkgekaaGreat.Deed (runD chkD chkD_run chkD_ok OkS OkD)
structure Dk (n : Nat) (las : List Int) (wt : Wt) : Prop where
  len : las.length = 64 * n
  wl : ∀ i b, wt i = some b → b.length = 64
  byt : Bytes las
  wb : ∀ i b, wt i = some b → Bytes b
section
variable {n : Nat} {las : List Int} {wt : Wt}
theorem Dk.ok (h : Dk n las wt) : OkS n (las, wt) := ⟨h.len, h.wl⟩
theorem Dk.flush (h : Dk n las wt) : Dk n (flushed las wt) (fun _ => none) := ⟨Ref.flushed_len h.len h.wl, Ref.none_len, Redo.flushed_bytes h.byt h.wb, no_bytes⟩
theorem Dk.crash (h : Dk n las wt) (cuts : List Int) : Dk n (crashed las wt cuts) (fun _ => none) := ⟨crash_len h.len h.wl, Ref.none_len, crash_bytes h.len h.wl h.byt h.flush.byt, no_bytes⟩
theorem Dk.secB (h : Dk n las wt) : ∀ j, Bytes (secF n las wt j) := fun j => secF_bytes h.byt h.wb j
theorem best_in (h : Dk n las wt) : ∀ j, 0 ≤ (bestTo n (secF n las wt) j).2.2 ∧ (bestTo n (secF n las wt) j).2.2 ≤ 4294967295 ∧ (0 < (bestTo n (secF n las wt) j).2.2 → rightR (bestTo n (secF n las wt) j).1 (bestTo n (secF n las wt) j).2.1 (bestTo n (secF n las wt) j).2.2 n = true)
  | 0 => ⟨Int.le_refl _, (show (0 : Int) ≤ 4294967295 by decide), fun h => absurd h (show ¬ (0 : Int) < 0 by decide)⟩
  | j + 1 => by
    have ih := best_in h j
    show 0 ≤ (pickF n (bestTo n (secF n las wt) j) (secF n las wt j)).2.2 ∧ (pickF n (bestTo n (secF n las wt) j) (secF n las wt j)).2.2 ≤ 4294967295 ∧ (0 < (pickF n (bestTo n (secF n las wt) j) (secF n las wt j)).2.2 → rightR (pickF n (bestTo n (secF n las wt) j) (secF n las wt j)).1 (pickF n (bestTo n (secF n las wt) j) (secF n las wt j)).2.1 (pickF n (bestTo n (secF n las wt) j) (secF n las wt j)).2.2 n = true)
    unfold pickF
    split
    · rename_i r hr
      split
      · rename_i hc
        unfold unrootF at hr
        split at hr
        · injection hr with hr
          have h1 := getF_rng (h.secB j) 12
          rw [← hr] at hc ⊢
          exact ⟨h1.1, h1.2, fun _ => hc.1⟩
        · cases hr
      · exact ih
    · exact ih
end
structure Any (n : Nat) (las : List Int) (wt : Wt) (a b : Nat) (E : Int) : Prop where
  dk : Dk n las wt
  n160 : n ≤ 160
  best : bestTo (n : Int) (secF n las wt) 2 = ((a : Int), (b : Int), E)
  rgt : rightR (a : Int) (b : Int) E n = true
  e32 : E ≤ 4294967295
theorem any_of {n : Nat} {las : List Int} {wt : Wt} (h : Dk n las wt) (hn : n ≤ 160) (h0 : 0 < (bestTo (n : Int) (secF n las wt) 2).2.2) : ∃ (a b : Nat) (E : Int), Any n las wt a b E := by
  have h1 := best_in h 2
  obtain ⟨x, y, E, hr⟩ : ∃ x y E, bestTo (n : Int) (secF n las wt) 2 = (x, y, E) := ⟨_, _, _, rfl⟩
  rw [hr] at h0 h1
  have h2 := h1.2.2 h0
  have h3 := of_decide_eq_true h2
  obtain ⟨a, ha⟩ := Int.eq_ofNat_of_zero_le (show 0 ≤ x by have := h3.1; simp only at this; omega)
  obtain ⟨b, hb⟩ := Int.eq_ofNat_of_zero_le (show 0 ≤ y by have := h3.2.2.1; simp only at this; omega)
  subst ha hb
  exact ⟨a, b, E, h, hn, hr, h2, h1.2.1⟩
section
variable {n a b : Nat} {E : Int} {las : List Int} {wt : Wt}
theorem Any.nums (h : Any n las wt a b E) : 1 ≤ a ∧ a ≤ 64 ∧ 1 ≤ b ∧ b ≤ 64 ∧ 2 + a + b ≤ n ∧ 1 ≤ E := by
  have h1 := of_decide_eq_true h.rgt
  omega
abbrev rowsG (n a b : Nat) (E : Int) (las : List Int) (wt : Wt) : List (List Chg) := (recR n las wt (a : Int) (b : Int) E).1
abbrev shownG (n a b : Nat) (E : Int) (las : List Int) (wt : Wt) : List (List Int) := pgAll (pagesF n las wt (a : Int) (b : Int) E) (rowsG n a b E las wt)
abbrev openG (n a b : Nat) (E : Int) (las : List Int) (wt : Wt) : List Int := chkL n las wt (a : Int) (b : Int) E (shownG n a b E las wt) (openN (rowsG n a b E las wt))
theorem Any.logB (h : Any n las wt a b E) : Bytes (logF n las wt (a : Int) (b : Int) E) := logF_bytes h.dk.byt h.dk.wb _ _ _
theorem Any.rows (h : Any n las wt a b E) : (rowsG n a b E las wt).length ≤ 1000 ∧ ∀ x ∈ rowsG n a b E las wt, x.length ≤ 64 ∧ ∀ c ∈ x, 0 ≤ c.1 ∧ c.1 < (b : Int) ∧ c.2.length = 64 ∧ Bytes c.2 := by
  obtain ⟨h1, h2, h3⟩ := scan_facts h.logB E
  refine ⟨?_, fun x hx => ?_⟩
  · have h4 := (recs_len (b : Int) (scanR (logF n las wt (a : Int) (b : Int) E) E).1).1
    have h5 := longs_len (scanR (logF n las wt (a : Int) (b : Int) E) E).1
    have h6 := Redo.log_len h.dk.len h.n160 h.dk.wl (a : Int) (b : Int) E
    show (recsF (b : Int) (scanR (logF n las wt (a : Int) (b : Int) E) E).1).1.length ≤ 1000
    omega
  · have h4 := recs_right (b : Int) _ x hx
    have h5 := right_in h4
    have h6 := recs_bytes (b : Int) _ h1 x hx
    exact ⟨(Store.right_len h4).2, fun c hc => ⟨(h5.2 c hc).1, (h5.2 c hc).2.1, (h5.2 c hc).2.2, h6 c hc⟩⟩
theorem Any.pages (h : Any n las wt a b E) : (pagesF n las wt (a : Int) (b : Int) E).length = b ∧ ∀ p ∈ pagesF n las wt (a : Int) (b : Int) E, p.length = 64 ∧ Bytes p := by
  have hn := h.nums
  unfold pagesF
  rw [if_pos h.rgt, Int.toNat_natCast]
  refine ⟨by rw [List.length_map, List.length_range], fun p hp => ?_⟩
  obtain ⟨i, hi, rfl⟩ := List.mem_map.1 hp
  have hi := List.mem_range.1 hi
  have hm : mayF n (a : Int) (b : Int) E (i : Int) = true := by
    unfold mayF
    rw [h.rgt, decide_eq_true (show (0 : Int) ≤ (i : Int) by omega), decide_eq_true (show (i : Int) < (b : Int) by omega)]; rfl
  unfold pageF
  rw [if_pos hm]
  refine ⟨?_, h.dk.secB _⟩
  rw [secF_len h.dk.len h.dk.wl, if_pos (by unfold atF; omega)]
theorem Any.shown (h : Any n las wt a b E) : (shownG n a b E las wt).length = b ∧ ∀ p ∈ shownG n a b E las wt, p.length = 64 ∧ Bytes p :=
  ⟨by unfold shownG; rw [pgAll_len, h.pages.1], pgAll_all (Q := fun p => p.length = 64 ∧ Bytes p) h.pages.2 (fun x hx c hc => ((h.rows.2 x hx).2 c hc).2.2)⟩
end
def NB (b : Nat) (named : List Int) (nm : List Bool) : Prop := ∀ k : Nat, k < b → ((k : Int) ∈ named ↔ nm.getD k false = true)
theorem set_getD {nm : List Bool} {i k : Nat} (hi : i < nm.length) : (nm.set i true).getD k false = true ↔ (k = i ∨ nm.getD k false = true) := by
  rw [List.getD_eq_getElem?_getD, List.getD_eq_getElem?_getD, List.getElem?_set]
  by_cases h : i = k
  · subst h; simp [hi]
  · rw [if_neg h]
    constructor
    · exact fun h => .inr h
    · rintro (h1 | h1)
      · exact absurd h1.symm h
      · exact h1
theorem insK_iff {ks : List Int} {k x : Int} : x ∈ insK ks k ↔ x ∈ ks ∨ x = k :=
  ⟨insK_mem, fun h => by rcases h with h | rfl; exact insK_keep h; exact insK_new _ _⟩
theorem nb_ins {b : Nat} : ∀ (l : List Chg) {named : List Int} {nm : List Bool}, nm.length = b → NB b named nm → (∀ c ∈ l, 0 ≤ c.1 ∧ c.1 < (b : Int)) → NB b (insAll named l) (nmF nm l)
  | [], _, _, _, h, _ => h
  | c :: r, named, nm, hl, h, hc => by
    have h0 := hc c (List.mem_cons_self ..)
    show NB b (insAll (insK named c.1) r) (nmF (nmOne nm c) r)
    refine nb_ins r (by unfold nmOne; rw [List.length_set]; exact hl) (fun k hk => ?_) (fun x hx => hc x (List.mem_cons_of_mem _ hx))
    unfold nmOne
    rw [set_getD (by omega), insK_iff, h k hk]
    constructor
    · rintro (h1 | h1)
      · exact .inr h1
      · exact .inl (by omega)
    · rintro (h1 | h1)
      · exact .inr (by omega)
      · exact .inl h1
def nmAllB (nm : List Bool) (rows : List (List Chg)) : List Bool := rows.foldl nmF nm
theorem nmAllB_len : ∀ (rows : List (List Chg)) (nm : List Bool), (nmAllB nm rows).length = nm.length
  | [], _ => rfl
  | l :: r, nm => by show (nmAllB (nmF nm l) r).length = _; rw [nmAllB_len r, nmF_len]
theorem nmAllB_snoc (nm : List Bool) (rows : List (List Chg)) (x : List Chg) : nmAllB nm (rows ++ [x]) = nmF (nmAllB nm rows) x := by unfold nmAllB; rw [List.foldl_append]; rfl
theorem nb_all {b : Nat} : ∀ (rows : List (List Chg)) {named : List Int} {nm : List Bool}, nm.length = b → NB b named nm → (∀ l ∈ rows, ∀ c ∈ l, 0 ≤ c.1 ∧ c.1 < (b : Int)) → NB b (nmAll named rows) (nmAllB nm rows)
  | [], _, _, _, h, _ => h
  | l :: r, named, nm, hl, h, hc => nb_all r (named := insAll named l) (nm := nmF nm l) (by rw [nmF_len]; exact hl) (nb_ins l hl h (hc l (List.mem_cons_self ..))) (fun x hx => hc x (List.mem_cons_of_mem _ hx))
theorem nb_none (b : Nat) : NB b [] (List.replicate b false) := fun k hk => by
  rw [List.getD_eq_getElem?_getD, List.getElem?_replicate, if_pos hk]
  simp
structure St (n a b : Nat) (ep : Int) (pages : List (List Int)) (named : List Int) (nm : List Bool) (used seq : Nat) (las : List Int) (wt : Wt) : Prop where
  dk : Dk n las wt
  n160 : n ≤ 160
  rgt : rightR (a : Int) (b : Int) ep n = true
  e32 : ep ≤ 4294967295
  pl : pages.length = b
  p64 : ∀ p ∈ pages, p.length = 64 ∧ Bytes p
  nml : nm.length = b
  nk : ∀ k ∈ named, 0 ≤ k ∧ k < (b : Int)
  nb : NB b named nm
  nl : named.length ≤ 64 * seq
  us : (used : Int) ≤ sizeF (a : Int)
section
variable {n a b : Nat} {ep : Int} {pages : List (List Int)} {named : List Int} {nm : List Bool} {used seq : Nat} {las : List Int} {wt : Wt}
theorem St.nums (h : St n a b ep pages named nm used seq las wt) : 1 ≤ a ∧ a ≤ 64 ∧ 1 ≤ b ∧ b ≤ 64 ∧ 2 + a + b ≤ n ∧ 1 ≤ ep := by
  have h1 := of_decide_eq_true h.rgt
  omega
theorem St.pg (h : St n a b ep pages named nm used seq las wt) : ∀ k : Nat, k < b → (pages.getD k []).length = 64 := fun k hk => by
  rw [List.getD_eq_getElem?_getD, List.getElem?_eq_getElem (by rw [h.pl]; exact hk)]
  exact (h.p64 _ (List.getElem_mem _)).1
theorem St.pgB (h : St n a b ep pages named nm used seq las wt) : ∀ k : Nat, Bytes (pages.getD k []) := fun k => by
  rw [List.getD_eq_getElem?_getD]
  by_cases hk : k < pages.length
  · rw [List.getElem?_eq_getElem hk]; exact (h.p64 _ (List.getElem_mem _)).2
  · rw [List.getElem?_eq_none (by omega)]; exact Bytes.nil
theorem St.commit (h : St n a b ep pages named nm used seq las wt) {l : List Chg} (hr : rightF l (b : Int) = true) (hf : fitsF (a : Int) used l.length = true) (hB : ∀ c ∈ l, Bytes c.2) :
    St n a b ep (applyF pages l) (insAll named l) (nmF nm l) (used + (18 + 66 * l.length)) (seq + 1) las (appR n las wt (a : Int) (b : Int) ep (used : Int) (frameF ep (seq : Int) (deltaF l))) := by
  have h1 := right_in hr
  have h2 := fits_in hf
  have h3 : Bytes (deltaF l) := (Redo.two_bytes).app (Redo.flat_bytes hB)
  have h4 := Redo.appR_ok (n := n) (a := (a : Int)) (b := (b : Int)) (c := ep) (at_ := (used : Int)) h.dk.len h.dk.byt ⟨h.dk.wl, h.dk.wb⟩ (frameF_bytes ep (seq : Int) h3)
  have h5 := insAll_len l named
  have h6 := h.nl
  exact ⟨⟨h.dk.len, h4.1, h.dk.byt, h4.2⟩, h.n160, h.rgt, h.e32, by rw [applyF_len]; exact h.pl, applyF_all (Q := fun p => p.length = 64 ∧ Bytes p) h.p64 (fun c hc => ⟨(h1.2 c hc).2.2, hB c hc⟩),
    by rw [nmF_len]; exact h.nml, fun k hk => by
      rcases insAll_mem l hk with hk | ⟨c, hc, rfl⟩
      · exact h.nk k hk
      · exact ⟨(h1.2 c hc).1, (h1.2 c hc).2.1⟩, nb_ins l h.nml h.nb (fun c hc => ⟨(h1.2 c hc).1, (h1.2 c hc).2.1⟩), by omega, by omega⟩
theorem St.flush (h : St n a b ep pages named nm used seq las wt) : St n a b ep pages named nm used seq (flushed las wt) (fun _ => none) :=
  ⟨h.dk.flush, h.n160, h.rgt, h.e32, h.pl, h.p64, h.nml, h.nk, h.nb, h.nl, h.us⟩
theorem chk_dk (hd : Dk n las wt) (hp : ∀ k : Nat, Bytes (pages.getD k [])) : Dk n (chkL n las wt (a : Int) (b : Int) ep pages named) (fun _ => none) := by
  refine ⟨chk_len hd.len hd.wl, Ref.none_len, ?_, no_bytes⟩
  unfold chkL
  exact Redo.flushed_bytes (Redo.flushed_bytes (Redo.flushed_bytes hd.byt hd.wb) (homeW_bytes hp _ no_bytes)) (putW_bytes no_bytes (rootF_bytes _ _ _))
theorem St.check (h : St n a b ep pages named nm used seq las wt) (he : ep < 4294967295) : St n a b (ep + 1) pages [] (List.replicate b false) 0 0 (chkL n las wt (a : Int) (b : Int) ep pages named) (fun _ => none) := by
  have h1 := h.nums
  exact ⟨chk_dk h.dk h.pgB, h.n160, decide_eq_true (by omega), by omega, h.pl, h.p64, List.length_replicate, fun k hk => (by cases hk), nb_none b, Nat.zero_le _, (sizeF_in _).1⟩
theorem St.deeds (h : St n a b ep pages named nm used seq las wt) : runD (las, wt) (chkD a b ep pages ((List.range b).filter (fun i => nm.getD i false))) = (chkL n las wt (a : Int) (b : Int) ep pages named, fun _ => none) :=
  chkD_run h.rgt h.pg h.nk h.nb las wt
theorem Any.st (h : Any n las wt a b ep) : St n a b ep (shownG n a b ep las wt) (openN (rowsG n a b ep las wt)) (nmAllB (List.replicate b false) (rowsG n a b ep las wt)) 0 1000 las wt := by
  have hr := h.rows
  have hs := h.shown
  have h1 : ∀ k ∈ openN (rowsG n a b ep las wt), 0 ≤ k ∧ k < (b : Int) := fun k hk =>
    nmAll_mem (P := fun k => 0 ≤ k ∧ k < (b : Int)) (fun k hk => by cases hk) (fun x hx c hc => by have := (hr.2 x hx).2 c hc; exact ⟨this.1, this.2.1⟩) k (openN_mem.1 hk)
  refine ⟨h.dk, h.n160, h.rgt, h.e32, hs.1, hs.2, by rw [nmAllB_len, List.length_replicate], h1, fun k hk => ?_, ?_, (sizeF_in _).1⟩
  · rw [openN_mem]
    exact nb_all _ List.length_replicate (nb_none b) (fun l hl c hc => by have := (hr.2 l hl).2 c hc; exact ⟨this.1, this.2.1⟩) k hk
  · unfold openN
    have h2 := Store.insList_len (sortK (nmAll [] (rowsG n a b ep las wt))) []
    have h3 := (sortK_perm (nmAll [] (rowsG n a b ep las wt))).length_eq
    have h4 := Store.nmAll_len 64 (rowsG n a b ep las wt) [] (fun x hx => (hr.2 x hx).1)
    simp only [List.length_nil] at h2 h4
    omega
theorem Any.opened (h : Any n las wt a b ep) (he : ep < 4294967295) : St n a b (ep + 1) (shownG n a b ep las wt) [] (List.replicate b false) 0 0 (openG n a b ep las wt) (fun _ => none) := h.st.check he
end
end Go.Proofs.YtjngnigelkgekaaGreat.RStore
namespace Go.Proofs.YtjngnigelkgekaaGreat.RStore
open Go.RowKit Go.Proofs.YtjngnigelkgekaaGreatW.PrintWords Go.Proofs.YtjngnigelkgekaaGreatW.PrintLast Go.Proofs.YtjngnigelkgekaaGreatW.PrintMore Go.Proofs.YtjngnigelkgekaaGreat.Kit Go.Proofs.YtjngnigelkgekaaGreat.Plain Go.Proofs.YtjngnigelkgekaaGreat.Disk Go.Proofs.YtjngnigelkgekaaGreat.Root
open Go.Proofs.YtjngnigelkgekaaGreat.Delta (Chg KC)
open Go.Proofs.YtjngnigelkgekaaGreat.Store (KP applyF applyF_len pgAll pgAll_len pgAll_snoc os_at os_C take_one)
open Go.Proofs.YtjngnigelkgekaaGreat.Home (RTL K2 rall_ pagesF)
open Go.Proofs.YtjngnigelkgekaaGreat.Redo (K3 recR rrecords_)
open Go.Proofs.YtjngnigelkgekaaGreat.Ref (madeT makeT)
open Go.Proofs.YtjngnigelkgekaaGreat.Deed
section
variable {w0 W : World} {F : List HP} {gr n : Nat} {k : Int} {d : Nat} {las : List Int} {wt : Wt}
theorem rallE {a b E : Int} {pp : List (List Int)} (h : Sep w0 W (RTL gr n las wt k (d : Int) :: F)) (hp : pagesF n las wt a b E = pp) (hd : Dk n las wt) :
    Calls Tryz.prog 80 #[.pointer (some ⟨gr, 0, none⟩), .agg #[.int .i64 a, .int .i64 b, .int .u32 E]] W fun e w' => ∃ v, e = .returned v ∧ Sep w0 w' (Row K2 24 v pp :: RTL gr n las wt k (d : Int) :: F) := by
  subst hp
  exact rall_ h hd.len hd.wl a b E
set_option maxHeartbeats 3200000 in
set_option maxRecDepth 100000 in
theorem ropen_none (h : Sep w0 W (RTL gr n las wt k (d : Int) :: F)) (hd : Dk n las wt) (h0 : decide (0 < (bestTo n (secF n las wt) 2).2.2) = false) :
    Calls Tryz.prog 40 #[.pointer (some ⟨gr, 0, none⟩)] W fun e w' => e = .returned (.tuple #[.pointer none, .int .i64 22]) ∧ Sep w0 w' (RTL gr n las wt k (d : Int) :: F) := by
  have A0 := Aside0.mk h
  have HD := Aside0.mk hd
  obtain ⟨x, y, z, hr⟩ : ∃ x y z, bestTo n (secF n las wt) 2 = (x, y, z) := ⟨_, _, _, rfl⟩
  rw [hr] at h0
  have HR := Aside0.mk hr
  have H0 := Aside0.mk h0
  clear h hd hr h0
  go_enter Tryz.func40, Tryz.ntmps40
  go_wp2_with fail
  refine (rbest_ A0.out HD.out.len HD.out.wl HD.out.secB).mono ?_
  rintro e w2 ⟨rfl, hS2⟩
  rw [HR.out, H0.out]
  have B2 := Aside0.mk (hS2.newBlk 80 #[.int .i64 x, .int .i64 y, .int .u32 z])
  clear hS2
  unfold rootV
  go_wp2_with fail
  go_ret2
  exact ⟨by first | rfl | (simp; done), B2.out.tail⟩
set_option maxHeartbeats 3200000 in
set_option maxRecDepth 100000 in
theorem ropen_full (h : Sep w0 W (RTL gr n las wt k (d : Int) :: F)) (hd : Dk n las wt) (h0 : (bestTo n (secF n las wt) 2).2.2 = 4294967295) :
    Calls Tryz.prog 40 #[.pointer (some ⟨gr, 0, none⟩)] W fun e w' => e = .returned (.tuple #[.pointer none, .int .i64 24]) ∧ Sep w0 w' (RTL gr n las wt k (d : Int) :: F) := by
  have A0 := Aside0.mk h
  have HD := Aside0.mk hd
  obtain ⟨x, y, z, hr⟩ : ∃ x y z, bestTo n (secF n las wt) 2 = (x, y, z) := ⟨_, _, _, rfl⟩
  rw [hr] at h0
  have h0' : z = 4294967295 := h0
  subst h0'
  have HR := Aside0.mk hr
  have hd0 : decide ((0 : Int) < 4294967295) = true := by decide
  clear h hd hr h0
  go_enter Tryz.func40, Tryz.ntmps40
  go_wp2_with fail
  refine (rbest_ A0.out HD.out.len HD.out.wl HD.out.secB).mono ?_
  rintro e w2 ⟨rfl, hS2⟩
  rw [HR.out]
  have B2 := Aside0.mk (hS2.newBlk 80 #[.int .i64 x, .int .i64 y, .int .u32 4294967295])
  have z2 := (B2.out.cell 2).trans rfl
  clear hS2
  unfold rootV
  go_wp2_with fail
  go_ret2
  exact ⟨by first | rfl | (simp; done), B2.out.tail⟩
set_option maxHeartbeats 6400000 in
set_option maxRecDepth 100000 in
theorem ropen_ok {a b : Nat} {E : Int} (h : Sep w0 W (RTL gr n las wt k (d : Int) :: F)) (ha : Any n las wt a b E) (he : E < 4294967295) (hk : -1 ≤ k ∧ k ≤ 1000000) (hd : d ≤ 1000000) :
    Calls Tryz.prog 40 #[.pointer (some ⟨gr, 0, none⟩)] W fun e w' => ∃ gx, e = .returned (.tuple #[.pointer (some ⟨gx, 0, none⟩), .int .i64 0]) ∧ Sep w0 w' (RStB gx gr (a : Int) (b : Int) (E + 1) (shownG n a b E las wt) (List.replicate b false) 0 0 :: RQ gr n (las, wt) k d (chkD a b E (shownG n a b E las wt) (nmL (nmAllB (List.replicate b false) (rowsG n a b E las wt)) b)) :: F) := by
  have A0 := Aside0.mk h
  have HA := Aside0.mk ha
  have HEP := Aside0.mk he
  have HK := Aside0.mk (And.intro hk hd)
  have hnu := ha.nums
  have hrw := ha.rows
  have hpg := ha.pages
  have hb := ha.best
  obtain ⟨P0, hP0⟩ : ∃ P, pagesF n las wt (a : Int) (b : Int) E = P := ⟨_, rfl⟩
  obtain ⟨rr, hrr⟩ : ∃ P, (recR n las wt (a : Int) (b : Int) E).1 = P := ⟨_, rfl⟩
  have HP0 := Aside0.mk hP0
  have HRR := Aside0.mk hrr
  have HSH : Aside0 (shownG n a b E las wt = pgAll P0 rr) := ⟨by unfold shownG rowsG; rw [hP0, hrr]⟩
  have HRG : Aside0 (rowsG n a b E las wt = rr) := ⟨hrr⟩
  have hsh := ha.shown
  rw [HSH.out] at hsh
  rw [hP0] at hpg
  rw [HRG.out] at hrw
  have HSW := Aside0.mk hsh
  have HPL := Aside0.mk hpg.1
  have HRL := Aside0.mk hrw
  obtain ⟨N, hN⟩ : ∃ N, rr.length = N := ⟨_, rfl⟩
  have HN := Aside0.mk hN
  have hN1 : N ≤ 1000 := by have := hrw.1; omega
  have hd0 : decide (0 < E) = true := decide_eq_true (by omega)
  have hee : (E == 4294967295) = false := by simp; omega
  have hee2 : ¬ E = 4294967295 := by omega
  have HNU := Aside0.mk hnu
  have HB := Aside0.mk hb
  have hmk := makeT (m := b) (by omega)
  clear h ha he hk hd hnu hrw hpg hb hP0 hrr hsh hN
  go_enter Tryz.func40, Tryz.ntmps40
  go_wp2_with fail
  refine (rbest_ A0.out HA.out.dk.len HA.out.dk.wl HA.out.dk.secB).mono ?_
  rintro e w2 ⟨rfl, hS2⟩
  rw [HB.out]
  obtain ⟨G0, hG0⟩ : ∃ p, w2.heap.size = p := ⟨_, rfl⟩
  have B2 := Aside0.mk (hS2.newBlk 80 #[.int .i64 (a : Int), .int .i64 (b : Int), .int .u32 E])
  rw [hG0] at B2
  have z2 := (B2.out.cell 2).trans rfl
  clear hS2
  unfold rootV
  go_wp2_with fail
  obtain ⟨w3, hw3⟩ : ∃ x, w2.alloc (.cells #[.int .i64 (a : Int), .int .i64 (b : Int), .int .u32 E] 80) = x := ⟨_, rfl⟩
  rw [hw3] at B2 ⊢
  clear hw3 hG0 z2 hee hee2 hd0
  have B3 : Aside0 (Sep w0 w3.drew (RTL gr n las wt k (d : Int) :: Blk G0 80 #[.int .i64 (a : Int), .int .i64 (b : Int), .int .u32 E] :: F)) := ⟨B2.out.drew.at2⟩
  clear B2
  refine start_ (n := 11) (S := fun w' => w'.cell? ⟨G0, 0, none⟩ = some (.int .i64 (a : Int)) ∧ w'.cell? ⟨G0, 1, none⟩ = some (.int .i64 (b : Int)) ∧ w'.cell? ⟨G0, 2, none⟩ = some (.int .u32 E)) (ds := []) #[Z,Z,Z,Z,Z,Z,Z,Z,Z,Z,Z] (by kernel_rfl) rfl rfl ⟨(B3.out.at2.cell 0).trans rfl, (B3.out.at2.cell 1).trans rfl, (B3.out.at2.cell 2).trans rfl⟩ (fun hHeld => ?_)
  refine pu_ 0 21 ?_ #[J,Z,Z,Z,Z,Z,Z,Z,Z,Z,Z] rfl rfl ?_ ?_ ?_ ?_
  rotate_left
  · intro w'
    go_simp
    with_reducible rfl
  rotate_left
  · simp only [aP]
    rfl
  refine pu_ 2 23 ?_ #[J,Z,J,Z,Z,Z,Z,Z,Z,Z,Z] rfl rfl ?_ ?_ ?_ ?_
  rotate_left
  · intro w'
    go_simp
    with_reducible rfl
  rotate_left
  · simp only [aP]
    rfl
  refine pu_ 5 26 ?_ #[J,Z,J,Z,Z,J,Z,Z,Z,Z,Z] rfl rfl ?_ ?_ ?_ ?_
  rotate_left
  · intro w'
    go_simp
    with_reducible rfl
  rotate_left
  · simp only [aP]
    rfl
  refine ta_ 1 22 ?_ #[J,J,J,Z,Z,J,Z,Z,Z,Z,Z] rfl rfl ?_ hHeld ?_ ?_ ?_
  rotate_left
  · rintro w' ⟨s0, s1, s2⟩
    go_simp
    with_reducible rfl
  rotate_left
  · simp only [aP]
    rfl
  refine ta_ 3 24 ?_ #[J,J,J,J,Z,J,Z,Z,Z,Z,Z] rfl rfl ?_ hHeld ?_ ?_ ?_
  rotate_left
  · rintro w' ⟨s0, s1, s2⟩
    go_simp
    with_reducible rfl
  rotate_left
  · simp only [aP]
    rfl
  refine ta_ 6 27 ?_ #[J,J,J,J,Z,J,J,Z,Z,Z,Z] rfl rfl ?_ hHeld ?_ ?_ ?_
  rotate_left
  · rintro w' ⟨s0, s1, s2⟩
    go_simp
    with_reducible rfl
  rotate_left
  · simp only [aP]
    rfl
  refine join_ (σ := Value × Value) 3 #[J,J,J,J,J,J,J,J,Z,Z,Z] (fun s_ => [(25, s_.1), (28, s_.2)]) (fun s_ w' => (w'.cell? ⟨G0, 0, none⟩ = some (.int .i64 (a : Int)) ∧ w'.cell? ⟨G0, 1, none⟩ = some (.int .i64 (b : Int)) ∧ w'.cell? ⟨G0, 2, none⟩ = some (.int .u32 E)) ∧ Sep w0 w' ((Row K2 24 (s_.1) P0) :: (Row BK 4 (s_.2) (List.replicate b false)) :: (RTL gr n las wt k (d : Int) :: Blk G0 80 #[.int .i64 (a : Int), .int .i64 (b : Int), .int .u32 E] :: F))) ?_ ?_
  rotate_left
  · intro hJ4_7
    refine join_ (σ := Value) 4 #[J,J,J,J,J,J,J,Z,Z,Z,Z] (fun s_ => [(25, s_)]) (fun s_ w' => (w'.cell? ⟨G0, 0, none⟩ = some (.int .i64 (a : Int)) ∧ w'.cell? ⟨G0, 1, none⟩ = some (.int .i64 (b : Int)) ∧ w'.cell? ⟨G0, 2, none⟩ = some (.int .u32 E)) ∧ Sep w0 w' ((Row K2 24 (s_) P0) :: (RTL gr n las wt k (d : Int) :: Blk G0 80 #[.int .i64 (a : Int), .int .i64 (b : Int), .int .u32 E] :: F))) ?_ ?_
    rotate_left
    · intro hJ4
      refine join_ (σ := Value) 4 #[J,J,J,J,Z,J,J,J,Z,Z,Z] (fun s_ => [(28, s_)]) (fun s_ w' => (w'.cell? ⟨G0, 0, none⟩ = some (.int .i64 (a : Int)) ∧ w'.cell? ⟨G0, 1, none⟩ = some (.int .i64 (b : Int)) ∧ w'.cell? ⟨G0, 2, none⟩ = some (.int .u32 E)) ∧ Sep w0 w' ((Row BK 4 (s_) (List.replicate b false)) :: (RTL gr n las wt k (d : Int) :: Blk G0 80 #[.int .i64 (a : Int), .int .i64 (b : Int), .int .u32 E] :: F))) ?_ ?_
      rotate_left
      · intro hJ7
        refine two_ (i := 4) (j := 7) (Ni := some 25) (Nj := some 28) #[J,J,J,J,J,J,J,Z,Z,Z,Z] #[J,J,J,J,Z,J,J,J,Z,Z,Z] rfl rfl rfl rfl (by kernel_rfl) (by decide) (by decide) (fun K hK => ?_) (fun K hK => ?_)
        · skip
          refine goes_ Tryz.func80 (by kernel_rfl) rfl #[.pointer (some ⟨gr, 0, none⟩), .agg #[.int .i64 (a : Int), .int .i64 (b : Int), .int .u32 E]] (by rfl) rfl rfl (by simp only [List.map_toArray, List.map_cons, List.map_nil]; rfl) ?_
          with_reducible refine (rallE (n := n) (las := las) (wt := wt) (k := k) (d := d) (w0 := w0) (by first | exact (B3.out) | exact (B3.out).at2) HP0.out HA.out.dk).mono ?_
          rintro e wn_ ⟨vn_, rfl, hS_⟩
          refine ⟨_, rfl, ?_⟩
          first | (have hN : Sep w0 wn_ (Row K2 24 vn_ P0 :: RTL gr n las wt k (d : Int) :: Blk G0 80 _ :: F) := hS_) | (have hN := hS_.sw23)
          clear hS_
          refine hK.out _ _ ⟨((hN.tail).at2.cell 0).trans rfl, ((hN.tail).at2.cell 1).trans rfl, ((hN.tail).at2.cell 2).trans rfl⟩ (fun hHeld => ?_)
          clear hK K
          refine norm_ (a' := ?_) ?_ ?_
          rotate_left
          · show Act.put _ (some 25) _ = _
            simp only [aP]
            rfl
          exact norm_ (by first | (simp only [putAll, Act.put, List.setIfInBounds_toArray, List.set_cons_zero, List.set_cons_succ]; done) | (simp only [putAll, Act.put, List.setIfInBounds_toArray, List.set_cons_zero, List.set_cons_succ]; rfl)) (hJ4 vn_ _ ⟨hHeld, hN⟩)
        · skip
          refine value_ (w1 := ?_) (v := ?_) (by rfl) rfl ?_ ?_
          rotate_left 2
          · go_simp
            constructor
            · rfl
            · rfl
          have hN := madeT b (B3.out) (by have := HNU.out; omega)
          refine hK.out _ _ ⟨((hN.tail).at2.cell 0).trans rfl, ((hN.tail).at2.cell 1).trans rfl, ((hN.tail).at2.cell 2).trans rfl⟩ (fun hHeld => ?_)
          clear hK K
          refine norm_ (a' := ?_) ?_ ?_
          rotate_left
          · show Act.put _ (some 28) _ = _
            simp only [aP]
            rfl
          exact norm_ (by first | (simp only [putAll, Act.put, List.setIfInBounds_toArray, List.set_cons_zero, List.set_cons_succ]; done) | (simp only [putAll, Act.put, List.setIfInBounds_toArray, List.set_cons_zero, List.set_cons_succ]; rfl)) (hJ7 (.slice (some ⟨(w3.drew).heap.size, 0, none⟩) b b) _ ⟨hHeld, hN⟩)
      · skip
        rintro v7_ W_ ⟨hS_, hQ_⟩
        have hSep : Aside0 (Sep w0 W_ ((Row BK 4 (v7_) (List.replicate b false)) :: (RTL gr n las wt k (d : Int) :: Blk G0 80 #[.int .i64 (a : Int), .int .i64 (b : Int), .int .u32 E] :: F))) := ⟨hQ_⟩
        clear hQ_
        have hHeld : W_.cell? ⟨G0, 0, none⟩ = some (.int .i64 (a : Int)) ∧ W_.cell? ⟨G0, 1, none⟩ = some (.int .i64 (b : Int)) ∧ W_.cell? ⟨G0, 2, none⟩ = some (.int .u32 E) := hS_
        refine norm_ (a' := ?_) ?_ ?_
        rotate_left
        · simp only [putAll, Act.put, List.setIfInBounds_toArray, List.set_cons_zero, List.set_cons_succ]
          rfl
        refine one_ (i := 4) (N := some 25) #[J,J,J,J,J,J,J,J,Z,Z,Z] rfl rfl (by kernel_rfl) (by decide) (fun K hK => ?_)
        refine goes_ Tryz.func80 (by kernel_rfl) rfl #[.pointer (some ⟨gr, 0, none⟩), .agg #[.int .i64 (a : Int), .int .i64 (b : Int), .int .u32 E]] (by rfl) rfl rfl (by simp only [List.map_toArray, List.map_cons, List.map_nil]; rfl) ?_
        with_reducible refine (rallE (n := n) (las := las) (wt := wt) (k := k) (d := d) (w0 := w0) (by first | exact (hSep.out) | exact (hSep.out).at2) HP0.out HA.out.dk).mono ?_
        rintro e wn_ ⟨vn_, rfl, hS_⟩
        refine ⟨_, rfl, ?_⟩
        first | (have hN : Sep w0 wn_ (Row K2 24 vn_ P0 :: RTL gr n las wt k (d : Int) :: Blk G0 80 _ :: F) := hS_) | (have hN := hS_.sw23)
        clear hS_
        refine hK.out _ _ ⟨((hN.tail.tail).at2.cell 0).trans rfl, ((hN.tail.tail).at2.cell 1).trans rfl, ((hN.tail.tail).at2.cell 2).trans rfl⟩ (fun hHeld => ?_)
        clear hK K
        refine norm_ (a' := ?_) ?_ ?_
        rotate_left
        · show Act.put _ (some 25) _ = _
          simp only [aP]
          rfl
        exact norm_ (by first | (simp only [putAll, Act.put, List.setIfInBounds_toArray, List.set_cons_zero, List.set_cons_succ]; done) | (simp only [putAll, Act.put, List.setIfInBounds_toArray, List.set_cons_zero, List.set_cons_succ]; rfl)) (hJ4_7 (vn_, v7_) _ ⟨hHeld, hN⟩)
    · skip
      rintro v4_ W_ ⟨hS_, hQ_⟩
      have hSep : Aside0 (Sep w0 W_ ((Row K2 24 (v4_) P0) :: (RTL gr n las wt k (d : Int) :: Blk G0 80 #[.int .i64 (a : Int), .int .i64 (b : Int), .int .u32 E] :: F))) := ⟨hQ_⟩
      clear hQ_
      have hHeld : W_.cell? ⟨G0, 0, none⟩ = some (.int .i64 (a : Int)) ∧ W_.cell? ⟨G0, 1, none⟩ = some (.int .i64 (b : Int)) ∧ W_.cell? ⟨G0, 2, none⟩ = some (.int .u32 E) := hS_
      refine norm_ (a' := ?_) ?_ ?_
      rotate_left
      · simp only [putAll, Act.put, List.setIfInBounds_toArray, List.set_cons_zero, List.set_cons_succ]
        rfl
      refine one_ (i := 7) (N := some 28) #[J,J,J,J,J,J,J,J,Z,Z,Z] rfl rfl (by kernel_rfl) (by decide) (fun K hK => ?_)
      refine value_ (w1 := ?_) (v := ?_) (by rfl) rfl ?_ ?_
      rotate_left 2
      · go_simp
        constructor
        · rfl
        · rfl
      have hN := madeT b (hSep.out) (by have := HNU.out; omega)
      refine hK.out _ _ ⟨((hN.tail.tail).at2.cell 0).trans rfl, ((hN.tail.tail).at2.cell 1).trans rfl, ((hN.tail.tail).at2.cell 2).trans rfl⟩ (fun hHeld => ?_)
      clear hK K
      refine norm_ (a' := ?_) ?_ ?_
      rotate_left
      · show Act.put _ (some 28) _ = _
        simp only [aP]
        rfl
      exact norm_ (by first | (simp only [putAll, Act.put, List.setIfInBounds_toArray, List.set_cons_zero, List.set_cons_succ]; done) | (simp only [putAll, Act.put, List.setIfInBounds_toArray, List.set_cons_zero, List.set_cons_succ]; rfl)) (hJ4_7 (v4_, .slice (some ⟨(W_).heap.size, 0, none⟩) b b) _ ⟨hHeld, hN.at2⟩)
  rintro ⟨v4_, v7_⟩ W_ ⟨hS_, hQ_⟩
  have hSep : Aside0 (Sep w0 W_ ((Row K2 24 (v4_) P0) :: (Row BK 4 (v7_) (List.replicate b false)) :: (RTL gr n las wt k (d : Int) :: Blk G0 80 #[.int .i64 (a : Int), .int .i64 (b : Int), .int .u32 E] :: F))) := ⟨hQ_⟩
  clear hQ_
  have hHeld : W_.cell? ⟨G0, 0, none⟩ = some (.int .i64 (a : Int)) ∧ W_.cell? ⟨G0, 1, none⟩ = some (.int .i64 (b : Int)) ∧ W_.cell? ⟨G0, 2, none⟩ = some (.int .u32 E) := hS_
  have BW := Aside0.mk hSep.out
  obtain ⟨A4, c4, rfl⟩ := BW.out.rowN HPL.out
  obtain ⟨A7, c7, rfl⟩ := BW.out.at2.rowN (List.length_replicate ..)
  refine norm_ (a' := ?_) ?_ ?_
  rotate_left
  · simp only [putAll, Act.put, List.setIfInBounds_toArray, List.set_cons_zero, List.set_cons_succ]
    rfl
  refine pu_ 8 29 ?_ #[J,J,J,J,J,J,J,J,J,Z,Z] rfl rfl ?_ ?_ ?_ ?_
  rotate_left
  · intro w'
    go_simp
    with_reducible rfl
  rotate_left
  · simp only [aP]
    rfl
  refine one_ (i := 9) (N := some 30) #[J,J,J,J,J,J,J,J,J,J,Z] rfl rfl (by kernel_rfl) (by decide) (fun K hK => ?_)
  have B9 := Aside0.mk (BW.out.newBlk 87 #[.pointer (some ⟨gr, 0, none⟩), .int .i64 (a : Int), .int .i64 (b : Int), .int .u32 E, .slice A4 b c4, .slice A7 b c7, .int .i64 0, .int .u32 0])
  refine value_ (w1 := ?_) (v := ?_) (by rfl) rfl ?_ ?_
  rotate_left 2
  · go_simp
    constructor
    · rfl
    · rfl
  refine hK.out _ _ ⟨(B9.out.at5.cell 0).trans rfl, (B9.out.at5.cell 1).trans rfl, (B9.out.at5.cell 2).trans rfl⟩ (fun hHeld => ?_)
  clear hK K
  refine norm_ (a' := ?_) ?_ ?_
  rotate_left
  · show Act.put _ (some 30) _ = _
    simp only [aP]
    rfl
  refine pu_ 10 6 ?_ #[J,J,J,J,J,J,J,J,J,J,J] rfl rfl ?_ ?_ ?_ ?_
  rotate_left
  · intro w'
    go_simp
    with_reducible rfl
  rotate_left
  · simp only [aP]
    rfl
  refine done_ (by kernel_rfl) ?_
  obtain ⟨gx, hgx⟩ : ∃ x, W_.heap.size = x := ⟨_, rfl⟩
  rw [hgx] at B9
  obtain ⟨w4, hw4⟩ : ∃ x, W_.alloc (.cells #[.pointer (some ⟨gr, 0, none⟩), .int .i64 (a : Int), .int .i64 (b : Int), .int .u32 E, .slice A4 b c4, .slice A7 b c7, .int .i64 0, .int .u32 0] 87) = x := ⟨_, rfl⟩
  rw [hw4] at B9 ⊢
  have B10 : Aside0 (Sep w0 w4 (RTL gr n las wt k (d : Int) :: RStB gx gr (a : Int) (b : Int) E P0 (List.replicate b false) 0 0 :: Blk G0 80 #[.int .i64 (a : Int), .int .i64 (b : Int), .int .u32 E] :: F)) := ⟨by
    have h1 : Sep w0 w4 (Row K2 24 (.slice A4 b c4) P0 :: Blk gx 87 #[.pointer (some ⟨gr, 0, none⟩), .int .i64 (a : Int), .int .i64 (b : Int), .int .u32 E, .slice A4 b c4, .slice A7 b c7, .int .i64 ((0 : Nat) : Int), .int .u32 ((0 : Nat) : Int)] :: Row BK 4 (.slice A7 b c7) (List.replicate b false) :: RTL gr n las wt k (d : Int) :: Blk G0 80 #[.int .i64 (a : Int), .int .i64 (b : Int), .int .u32 E] :: F) := B9.out.at2
    have h2 := (Sep.rowToV rfl h1).at2
    exact (rstb_shut (by rw [List.length_replicate, HPL.out]; have := HNU.out; exact ⟨rfl, by omega, by omega⟩) h2).at2⟩
  clear hHeld hSep BW B9 hw4 hmk
  have z0 := (B10.out.at3.cell 0).trans rfl
  have z1 := (B10.out.at3.cell 1).trans rfl
  have z2 := (B10.out.at3.cell 2).trans rfl
  go_wp2_with fail
  refine (rrecords_ B10.out HA.out.dk.len HA.out.n160 HA.out.dk.wl (a : Int) (b : Int) E HA.out.logB).mono ?_
  rintro e w5 ⟨v5, rfl, hS5⟩
  rw [HRR.out] at hS5
  obtain ⟨A5, c5, rfl⟩ := hS5.rowN HN.out
  obtain ⟨cs, hcs⟩ := (Sep.rowToV rfl hS5).rowV_open
  have B11 : Aside0 (Sep w0 w5 (RStB gx gr (a : Int) (b : Int) E P0 (List.replicate b false) 0 0 :: RTL gr n las wt k (d : Int) :: Row KV 60 (.slice A5 N c5) cs :: Fx (EachV K3 rr cs) :: Blk G0 80 #[.int .i64 (a : Int), .int .i64 (b : Int), .int .u32 E] :: F)) := ⟨(Sep.pull [_, _, _] (Sep.pull [_, _, _] hcs)).at2⟩
  clear hS5 hcs z0 z1 z2
  go_wp2_with fail
  clear hgx
  go_loopg [39] N (fun k_ p wr => ∃ (j : Nat), p = .int .i64 (j : Int) ∧ j + k_ = N ∧ Sep w0 wr (RStB gx gr (a : Int) (b : Int) E (pgAll P0 (rr.take j)) (nmAllB (List.replicate b false) (rr.take j)) 0 0 :: RTL gr n las wt k (d : Int) :: Row KV 60 (.slice A5 N c5) cs :: Fx (EachV K3 rr cs) :: Blk G0 80 #[.int .i64 (a : Int), .int .i64 (b : Int), .int .u32 E] :: F))
  case atStart => exact ⟨0, rfl, by omega, B11.out⟩
  case round =>
    obtain ⟨j, rfl, hjk, hS⟩ := hrel
    obtain ⟨w6, rfl⟩ : ∃ x, x = wr := ⟨_, rfl⟩
    have AK := Aside0.mk hjk
    obtain ⟨ps, hps⟩ : ∃ p, pgAll P0 (rr.take j) = p := ⟨_, rfl⟩
    obtain ⟨ms, hms⟩ : ∃ p, nmAllB (List.replicate b false) (rr.take j) = p := ⟨_, rfl⟩
    rw [hps, hms] at hS
    have HPS := Aside0.mk hps
    have HMS := Aside0.mk hms
    have HPSL : Aside0 (ps.length = b) := ⟨by rw [← hps, pgAll_len]; exact HPL.out⟩
    have AS := Aside0.mk hS
    clear hS hps hms
    by_cases cj : j < N
    case pos =>
      have hjl : (j : Int) < (N : Int) := by omega
      have hjx : j < rr.length := by rw [HN.out]; exact cj
      obtain ⟨hc', B, cB, hov, hlc⟩ := os_at AS.out.at4.fx hjx
      obtain ⟨_, ap, cs1, hAp, hK1, hc0, _⟩ := elem_ (d := KV) AS.out.at3.rowC' cj
      have hK2 : cs1 = [(cs[j]).1] := hK1
      subst hK2
      have hcell := hc0 _ rfl
      rw [show j * KV.sz = j from Nat.mul_one j, hov] at hcell
      have HOC : Aside0 (∀ W', EachV K3 rr cs W' → KC.C W' B (rr[j]).length rr[j]) := ⟨fun W' hE => os_C hE hjx hc' hov⟩
      have HXR : Aside0 (∀ c ∈ rr[j], 0 ≤ c.1 ∧ c.1 < (ps.length : Int) ∧ c.2.length ≤ 1000000) := ⟨fun c hc => by
        have h1 := (HRL.out.2 _ (List.getElem_mem hjx)).2 c hc
        rw [HPSL.out]
        omega⟩
      have HPJ : Aside0 (pgAll P0 (rr.take (j + 1)) = applyF ps rr[j] ∧ nmAllB (List.replicate b false) (rr.take (j + 1)) = nmF ms rr[j]) := ⟨by rw [take_one hjx, pgAll_snoc, nmAllB_snoc, HPS.out, HMS.out]; exact ⟨rfl, rfl⟩⟩
      obtain ⟨XL, hXL⟩ : ∃ L, (rr[j]).length = L := ⟨_, rfl⟩
      rw [hXL] at hcell HOC
      obtain ⟨x, hx⟩ : ∃ x, rr[j] = x := ⟨_, rfl⟩
      rw [hx] at HOC HXR HPJ
      subst hAp
      clear hjk cj hov hc0 hlc hjx hx hXL
      go_wp2_with fail
      refine (rapply_ (l := x) AS.out (fun W' hW => HOC.out _ hW.at3.fx) HXR.out).mono ?_
      rintro e w7 ⟨rfl, hS7⟩
      have B7 := Aside0.mk hS7
      clear hS7
      go_wp2_with fail
      go_roundg (gk - 1)
      case measure => have := AK.out; omega
      case rel => exact ⟨j + 1, by go_num, by have := AK.out; omega, by rw [HPJ.out.1, HPJ.out.2]; exact B7.out⟩
    case neg =>
    obtain rfl : j = N := by omega
    have hjl : ¬ (j : Int) < (j : Int) := by omega
    have HTK : Aside0 (rr.take j = rr) := ⟨List.take_of_length_le (by rw [HN.out]; exact Nat.le_refl _)⟩
    have HPS2 : Aside0 (ps = pgAll P0 rr) := ⟨by rw [← HPS.out, HTK.out]⟩
    have HMS2 : Aside0 (ms = nmAllB (List.replicate b false) rr) := ⟨by rw [← HMS.out, HTK.out]⟩
    have HPG : Aside0 (∀ kk : Nat, kk < b → (ps.getD kk []).length = 64) := ⟨fun kk hkk => by
      rw [List.getD_eq_getElem?_getD, List.getElem?_eq_getElem (by rw [HPSL.out]; exact hkk)]
      refine (HSW.out.2 _ ?_).1
      rw [← HPS2.out]
      exact List.getElem_mem _⟩
    have B12 : Aside0 (Sep w0 w6 (RStB gx gr (a : Int) (b : Int) E ps ms 0 0 :: RQ gr n (las, wt) k d [] :: _)) := ⟨(rq_start (S := (las, wt)) AS.out.at2 HK.out.1.1).at2⟩
    clear hjk cj
    go_wp2_with fail
    refine (rcheck_ B12.out HA.out.dk.ok HA.out.rgt HEP.out HPSL.out HPG.out HK.out.1 HK.out.2).mono ?_
    rintro e w8 ⟨rfl, hS8⟩
    rw [HPS2.out, HMS2.out] at hS8
    have B13 := Aside0.mk hS8.at3.tail.at3.tail.at3.tail
    clear hS8
    go_wp2_with fail
    go_ret2
    exact ⟨gx, by first | rfl | (simp; done), by rw [HSH.out, HRG.out]; exact B13.out⟩
end
end Go.Proofs.YtjngnigelkgekaaGreat.RStore
namespace Go.Proofs.YtjngnigelkgekaaGreat.RStore
open Go.RowKit Go.Proofs.YtjngnigelkgekaaGreatW.PrintWords Go.Proofs.YtjngnigelkgekaaGreatW.PrintLast Go.Proofs.YtjngnigelkgekaaGreatW.PrintMore Go.Proofs.YtjngnigelkgekaaGreat.Kit Go.Proofs.YtjngnigelkgekaaGreat.Plain Go.Proofs.YtjngnigelkgekaaGreat.Disk Go.Proofs.YtjngnigelkgekaaGreat.Root
open Go.Proofs.YtjngnigelkgekaaGreat.Delta (Chg KC deltaF rightF okF rchanges_ rdelta_ needF)
open Go.Proofs.YtjngnigelkgekaaGreat.Store (KP applyF applyF_len fitsF fits_in rfits_ right_all)
open Go.Proofs.YtjngnigelkgekaaGreat.Frame (frameF frameF_len frameF_bytes rframe_)
open Go.Proofs.YtjngnigelkgekaaGreat.Redo (appR okA sizeF rappend_)
open Go.Proofs.YtjngnigelkgekaaGreat.Home (RT)
theorem rc2_nums {u k sq : Nat} (h : u + k ≤ 4096) (hs : sq ≤ 1000000) : wrap64 ((u : Int) + (k : Int)) = ((u + k : Nat) : Int) ∧ IntKind.u32.wrap ((sq : Int) + 1) = ((sq + 1 : Nat) : Int) := ⟨by rw [IntWalk.wrap64_in _ (by omega)]; omega, by rw [IntKind.wrap_u32]; omega⟩
section
variable {w0 W : World} {F : List HP} {gx gr n : Nat} {a b ep : Int} {pages : List (List Int)} {nm : List Bool} {used seq : Nat} {las : List Int} {wt : Wt}
set_option maxHeartbeats 1600000 in
set_option maxRecDepth 100000 in
theorem rcommit_bad (h : Sep w0 W (RStB gx gr a b ep pages nm used seq :: F)) {A2 : Option Addr} {n2 c2 : Nat} {l : List Chg} (hC : KC.C W A2 n2 l) (hr : rightF l b = false) :
    Calls Tryz.prog 43 #[.pointer (some ⟨gx, 0, none⟩), .slice A2 n2 c2] W fun e w' => e = .returned (.int .i64 1) ∧ Sep w0 w' (RStB gx gr a b ep pages nm used seq :: F) := by
  obtain ⟨hp, gp, cp, gn, cn, hs⟩ := rstb_open h
  have H0 := Aside0.mk h
  have HC := Aside0.mk hC
  have HR := Aside0.mk hr
  have z2 := (hs.cell 2).trans rfl
  clear h hs hC hr hp
  go_enter Tryz.func43, Tryz.ntmps43
  go_wp2_with fail
  refine (rchanges_ HC.out b).mono ?_
  rintro e w1 ⟨rfl, hb1⟩
  rw [HR.out]
  have B1 := Aside0.mk (H0.out.below hb1)
  clear hb1
  go_wp2_with fail
  go_ret
  exact ⟨by first | rfl | (simp; done), B1.out⟩
set_option maxHeartbeats 1600000 in
set_option maxRecDepth 100000 in
theorem rcommit_full (h : Sep w0 W (RStB gx gr a b ep pages nm used seq :: F)) {A2 : Option Addr} {n2 c2 : Nat} {l : List Chg} (hC : KC.C W A2 n2 l) (hr : rightF l b = true) (hu : (used : Int) ≤ sizeF a) (hf : fitsF a used n2 = false) :
    Calls Tryz.prog 43 #[.pointer (some ⟨gx, 0, none⟩), .slice A2 n2 c2] W fun e w' => e = .returned (.int .i64 24) ∧ Sep w0 w' (RStB gx gr a b ep pages nm used seq :: F) := by
  obtain ⟨hp, gp, cp, gn, cn, hs⟩ := rstb_open h
  have HS := Aside0.mk hs
  have HPP := Aside0.mk hp
  have HC := Aside0.mk hC
  have HR := Aside0.mk hr
  have HU := Aside0.mk hu
  have HF := Aside0.mk hf
  have hm2 : n2 ≤ 9223372036854775807 := hC.2.1
  have z2 := (hs.cell 2).trans rfl
  clear h hs hC hr hu hf hp
  go_enter Tryz.func43, Tryz.ntmps43
  go_wp2_with fail
  refine (rchanges_ HC.out b).mono ?_
  rintro e w1 ⟨rfl, hb1⟩
  rw [HR.out]
  have B1 := Aside0.mk (HS.out.below hb1).drew
  clear hb1 z2
  go_wp2_with fail
  refine start_ (n := 12) (S := fun w' => w'.cell? ⟨gx, 1, none⟩ = some (.int .i64 a) ∧ w'.cell? ⟨gx, 2, none⟩ = some (.int .i64 b) ∧ w'.cell? ⟨gx, 3, none⟩ = some (.int .u32 ep) ∧ w'.cell? ⟨gx, 6, none⟩ = some (.int .i64 (used : Int))) (ds := [10]) #[Z,Z,Z,Z,Z,Z,Z,Z,Z,Z,Z,Z] (by kernel_rfl) rfl rfl ⟨(B1.out.cell 1).trans rfl, (B1.out.cell 2).trans rfl, (B1.out.cell 3).trans rfl, (B1.out.cell 6).trans rfl⟩ (fun hHeld => ?_)
  refine pu_ 0 14 ?_ #[J,Z,Z,Z,Z,Z,Z,Z,Z,Z,Z,Z] rfl rfl ?_ ?_ ?_ ?_
  rotate_left
  · intro w'
    go_simp
    with_reducible rfl
  rotate_left
  · simp only [aP]
    rfl
  refine pu_ 1 15 ?_ #[J,J,Z,Z,Z,Z,Z,Z,Z,Z,Z,Z] rfl rfl ?_ ?_ ?_ ?_
  rotate_left
  · intro w'
    go_simp
    with_reducible rfl
  rotate_left
  · simp only [aP]
    rfl
  refine pu_ 2 16 ?_ #[J,J,J,Z,Z,Z,Z,Z,Z,Z,Z,Z] rfl rfl ?_ ?_ ?_ ?_
  rotate_left
  · intro w'
    go_simp
    with_reducible rfl
  rotate_left
  · simp only [aP]
    rfl
  refine pu_ 4 18 ?_ #[J,J,J,Z,J,Z,Z,Z,Z,Z,Z,Z] rfl rfl ?_ ?_ ?_ ?_
  rotate_left
  · intro w'
    go_simp
    with_reducible rfl
  rotate_left
  · simp only [aP]
    rfl
  refine pu_ 5 19 ?_ #[J,J,J,Z,J,J,Z,Z,Z,Z,Z,Z] rfl rfl ?_ ?_ ?_ ?_
  rotate_left
  · intro w'
    go_simp
    with_reducible rfl
  rotate_left
  · simp only [aP]
    rfl
  refine pu_ 6 20 ?_ #[J,J,J,Z,J,J,J,Z,Z,Z,Z,Z] rfl rfl ?_ ?_ ?_ ?_
  rotate_left
  · intro w'
    go_simp
    with_reducible rfl
  rotate_left
  · simp only [aP]
    rfl
  refine pu_ 8 22 ?_ #[J,J,J,Z,J,J,J,Z,J,Z,Z,Z] rfl rfl ?_ ?_ ?_ ?_
  rotate_left
  · intro w'
    go_simp
    with_reducible rfl
  rotate_left
  · simp only [aP]
    rfl
  refine pu_ 9 23 ?_ #[J,J,J,Z,J,J,J,Z,J,J,Z,Z] rfl rfl ?_ ?_ ?_ ?_
  rotate_left
  · intro w'
    go_simp
    with_reducible rfl
  rotate_left
  · simp only [aP]
    rfl
  refine ta_ 3 17 ?_ #[J,J,J,J,J,J,J,Z,J,J,Z,Z] rfl rfl ?_ hHeld ?_ ?_ ?_
  rotate_left
  · rintro w' ⟨s0, s1, s2, s3⟩
    go_simp
    with_reducible rfl
  rotate_left
  · simp only [aP]
    rfl
  refine ta_ 7 21 ?_ #[J,J,J,J,J,J,J,J,J,J,Z,Z] rfl rfl ?_ hHeld ?_ ?_ ?_
  rotate_left
  · rintro w' ⟨s0, s1, s2, s3⟩
    go_simp
    with_reducible rfl
  rotate_left
  · simp only [aP]
    rfl
  refine last_ (i := 10) (N := some 24) #[J,J,J,J,J,J,J,J,J,J,J,Z] rfl rfl (by kernel_rfl) (by decide) (fun K hK => ?_)
  refine goes_ Tryz.func84 (by kernel_rfl) rfl #[.agg #[.int .i64 a, .int .i64 b, .int .u32 ep], .int .i64 (used : Int), .int .i64 (n2 : Int)] (by rfl) rfl rfl (by simp only [List.map_toArray, List.map_cons, List.map_nil]; rfl) ?_
  with_reducible refine (rfits_ a b ep used n2 HU.out _).mono ?_
  rintro e w3 ⟨rfl, hb3⟩
  refine ⟨_, rfl, ?_⟩
  rw [HF.out]
  have B3 := Aside0.mk (B1.out.below hb3)
  clear hb3
  refine hK.out _ _ ?_
  clear hK K
  refine norm_ (a' := ?_) ?_ ?_
  rotate_left
  · show Act.put _ (some 24) _ = _
    simp only [aP]
    rfl
  refine pu_ 11 25 ?_ #[J,J,J,J,J,J,J,J,J,J,J,J] rfl rfl ?_ ?_ ?_ ?_
  rotate_left
  · intro w'
    go_simp
    with_reducible rfl
  rotate_left
  · simp only [aP]
    rfl
  refine done_ (by kernel_rfl) ?_
  go_wp2_with fail
  go_ret
  exact ⟨by first | rfl | (simp; done), rstb_shut HPP.out B3.out⟩
set_option maxHeartbeats 3200000 in
set_option maxRecDepth 100000 in
theorem rcommit_ok {d : Nat} (h : Sep w0 W (RStB gx gr a b ep pages nm used seq :: RT gr n las wt d :: F)) (hl : las.length = 64 * n) (hn : n ≤ 160) (hd : d ≤ 900000) (hw : ∀ i b, wt i = some b → b.length = 64) {A2 : Option Addr} {n2 c2 : Nat} {l : List Chg} (hC : ∀ W', Sep w0 W' F → KC.C W' A2 n2 l) (hr : rightF l b = true) (hu : (used : Int) ≤ sizeF a) (hf : fitsF a used n2 = true)
    (hep : 0 ≤ ep ∧ ep ≤ 4294967295) (hsq : seq ≤ 1000000) (hbp : (pages.length : Int) = b) :
    Calls Tryz.prog 43 #[.pointer (some ⟨gx, 0, none⟩), .slice A2 n2 c2] W fun e w' => e = .returned (.int .i64 0) ∧ ∃ d' : Nat, d' ≤ d + 64 ∧ Sep w0 w' (RStB gx gr a b ep (applyF pages l) (nmF nm l) (used + (18 + 66 * n2)) (seq + 1) :: RT gr n las (appR n las wt a b ep (used : Int) (frameF ep (seq : Int) (deltaF l))) d' :: F) := by
  have hC0 := hC W h.tail.tail
  have hln := hC0.1
  obtain ⟨hp, gp, cp, gn, cn, hs⟩ := rstb_open h
  have HPP := Aside0.mk hp
  obtain ⟨N, hN⟩ : ∃ N, pages.length = N := ⟨_, rfl⟩
  rw [hN] at hs hbp
  have hs1 := Redo.sizeF_in a
  have hfi := fits_in hf
  have hok : okF b (-1) l = true := by
    have h2 := hr
    unfold rightF at h2
    rw [Bool.and_eq_true] at h2
    exact h2.2
  have hall := right_all hok (by decide)
  have hdl : (deltaF l).length = 2 + 66 * n2 := by
    unfold deltaF
    rw [List.length_append, Redo.okF_len hok, hln]; rfl
  have HFL : Aside0 ((frameF ep (seq : Int) (deltaF l)).length = 18 + 66 * n2) := ⟨by rw [frameF_len, hdl]; omega⟩
  have HS := Aside0.mk hs
  have HC := Aside0.mk hC
  have HR := Aside0.mk hr
  have HU := Aside0.mk hu
  have HF := Aside0.mk hf
  have HL := Aside0.mk (And.intro hl (And.intro hn (And.intro hw hd)))
  have HDL := Aside0.mk hdl
  have HN2 := Aside0.mk hfi.1
  have HN := Aside0.mk hN
  have HEP := Aside0.mk hep
  have HSQ := Aside0.mk hsq
  have HAL : Aside0 (∀ c ∈ l, 0 ≤ c.1 ∧ c.1 < (pages.length : Int) ∧ c.2.length ≤ 1000000) := ⟨fun x hx => by
    have h1 := hall x hx
    omega⟩
  obtain ⟨e1, e2⟩ := rc2_nums (u := used) (k := 18 + 66 * n2) (sq := seq) (by have := hfi.2; have := hs1.2; omega) hsq
  obtain ⟨KF, hK_⟩ : ∃ K, 18 + 66 * n2 = K := ⟨_, rfl⟩
  rw [hK_] at e1 HFL
  have HKK := Aside0.mk hK_
  obtain ⟨U2, hU2⟩ : ∃ u, used + KF = u := ⟨_, rfl⟩
  obtain ⟨S2, hS2⟩ : ∃ u, seq + 1 = u := ⟨_, rfl⟩
  rw [hU2] at e1
  rw [hS2] at e2
  have HU2 := Aside0.mk hU2
  have HS2 := Aside0.mk hS2
  have hn64 : n2 ≤ 64 := hfi.1
  have z2 := (hs.cell 2).trans rfl
  clear h hs hC hC0 hr hu hf hl hn hw hd hln hN hs1 hfi hok hall hdl hK_ hU2 hS2 hp hbp hep hsq
  go_enter Tryz.func43, Tryz.ntmps43
  go_wp2_with fail
  refine (rchanges_ (HC.out _ HS.out.tail.tail.tail.tail) b).mono ?_
  rintro e w1 ⟨rfl, hb1⟩
  rw [HR.out]
  have B1 := Aside0.mk (HS.out.below hb1).drew
  clear hb1 z2
  go_wp2_with fail
  refine start_ (n := 12) (S := fun w' => w'.cell? ⟨gx, 1, none⟩ = some (.int .i64 a) ∧ w'.cell? ⟨gx, 2, none⟩ = some (.int .i64 b) ∧ w'.cell? ⟨gx, 3, none⟩ = some (.int .u32 ep) ∧ w'.cell? ⟨gx, 6, none⟩ = some (.int .i64 (used : Int))) (ds := [10]) #[Z,Z,Z,Z,Z,Z,Z,Z,Z,Z,Z,Z] (by kernel_rfl) rfl rfl ⟨(B1.out.cell 1).trans rfl, (B1.out.cell 2).trans rfl, (B1.out.cell 3).trans rfl, (B1.out.cell 6).trans rfl⟩ (fun hHeld => ?_)
  refine pu_ 0 14 ?_ #[J,Z,Z,Z,Z,Z,Z,Z,Z,Z,Z,Z] rfl rfl ?_ ?_ ?_ ?_
  rotate_left
  · intro w'
    go_simp
    with_reducible rfl
  rotate_left
  · simp only [aP]
    rfl
  refine pu_ 1 15 ?_ #[J,J,Z,Z,Z,Z,Z,Z,Z,Z,Z,Z] rfl rfl ?_ ?_ ?_ ?_
  rotate_left
  · intro w'
    go_simp
    with_reducible rfl
  rotate_left
  · simp only [aP]
    rfl
  refine pu_ 2 16 ?_ #[J,J,J,Z,Z,Z,Z,Z,Z,Z,Z,Z] rfl rfl ?_ ?_ ?_ ?_
  rotate_left
  · intro w'
    go_simp
    with_reducible rfl
  rotate_left
  · simp only [aP]
    rfl
  refine pu_ 4 18 ?_ #[J,J,J,Z,J,Z,Z,Z,Z,Z,Z,Z] rfl rfl ?_ ?_ ?_ ?_
  rotate_left
  · intro w'
    go_simp
    with_reducible rfl
  rotate_left
  · simp only [aP]
    rfl
  refine pu_ 5 19 ?_ #[J,J,J,Z,J,J,Z,Z,Z,Z,Z,Z] rfl rfl ?_ ?_ ?_ ?_
  rotate_left
  · intro w'
    go_simp
    with_reducible rfl
  rotate_left
  · simp only [aP]
    rfl
  refine pu_ 6 20 ?_ #[J,J,J,Z,J,J,J,Z,Z,Z,Z,Z] rfl rfl ?_ ?_ ?_ ?_
  rotate_left
  · intro w'
    go_simp
    with_reducible rfl
  rotate_left
  · simp only [aP]
    rfl
  refine pu_ 8 22 ?_ #[J,J,J,Z,J,J,J,Z,J,Z,Z,Z] rfl rfl ?_ ?_ ?_ ?_
  rotate_left
  · intro w'
    go_simp
    with_reducible rfl
  rotate_left
  · simp only [aP]
    rfl
  refine pu_ 9 23 ?_ #[J,J,J,Z,J,J,J,Z,J,J,Z,Z] rfl rfl ?_ ?_ ?_ ?_
  rotate_left
  · intro w'
    go_simp
    with_reducible rfl
  rotate_left
  · simp only [aP]
    rfl
  refine ta_ 3 17 ?_ #[J,J,J,J,J,J,J,Z,J,J,Z,Z] rfl rfl ?_ hHeld ?_ ?_ ?_
  rotate_left
  · rintro w' ⟨s0, s1, s2, s3⟩
    go_simp
    with_reducible rfl
  rotate_left
  · simp only [aP]
    rfl
  refine ta_ 7 21 ?_ #[J,J,J,J,J,J,J,J,J,J,Z,Z] rfl rfl ?_ hHeld ?_ ?_ ?_
  rotate_left
  · rintro w' ⟨s0, s1, s2, s3⟩
    go_simp
    with_reducible rfl
  rotate_left
  · simp only [aP]
    rfl
  refine last_ (i := 10) (N := some 24) #[J,J,J,J,J,J,J,J,J,J,J,Z] rfl rfl (by kernel_rfl) (by decide) (fun K hK => ?_)
  refine goes_ Tryz.func84 (by kernel_rfl) rfl #[.agg #[.int .i64 a, .int .i64 b, .int .u32 ep], .int .i64 (used : Int), .int .i64 (n2 : Int)] (by rfl) rfl rfl (by simp only [List.map_toArray, List.map_cons, List.map_nil]; rfl) ?_
  with_reducible refine (rfits_ a b ep used n2 HU.out _).mono ?_
  rintro e w3 ⟨rfl, hb3⟩
  refine ⟨_, rfl, ?_⟩
  rw [HF.out]
  have B3 := Aside0.mk (B1.out.below hb3).drew
  clear hb3
  refine hK.out _ _ ?_
  clear hK K
  refine norm_ (a' := ?_) ?_ ?_
  rotate_left
  · show Act.put _ (some 24) _ = _
    simp only [aP]
    rfl
  refine pu_ 11 25 ?_ #[J,J,J,J,J,J,J,J,J,J,J,J] rfl rfl ?_ ?_ ?_ ?_
  rotate_left
  · intro w'
    go_simp
    with_reducible rfl
  rotate_left
  · simp only [aP]
    rfl
  refine done_ (by kernel_rfl) ?_
  go_wp2_with fail
  refine start_ (n := 13) (S := fun w' => w'.cell? ⟨gx, 3, none⟩ = some (.int .u32 ep) ∧ w'.cell? ⟨gx, 7, none⟩ = some (.int .u32 (seq : Int))) (ds := [11]) #[Z,Z,Z,Z,Z,Z,Z,Z,Z,Z,Z,Z,Z] (by kernel_rfl) rfl rfl ⟨(B3.out.cell 3).trans rfl, (B3.out.cell 7).trans rfl⟩ (fun hHeld => ?_)
  refine pu_ 0 26 ?_ #[J,Z,Z,Z,Z,Z,Z,Z,Z,Z,Z,Z,Z] rfl rfl ?_ ?_ ?_ ?_
  rotate_left
  · intro w'
    go_simp
    with_reducible rfl
  rotate_left
  · simp only [aP]
    rfl
  refine pu_ 1 27 ?_ #[J,J,Z,Z,Z,Z,Z,Z,Z,Z,Z,Z,Z] rfl rfl ?_ ?_ ?_ ?_
  rotate_left
  · intro w'
    go_simp
    with_reducible rfl
  rotate_left
  · simp only [aP]
    rfl
  refine pu_ 2 28 ?_ #[J,J,J,Z,Z,Z,Z,Z,Z,Z,Z,Z,Z] rfl rfl ?_ ?_ ?_ ?_
  rotate_left
  · intro w'
    go_simp
    with_reducible rfl
  rotate_left
  · simp only [aP]
    rfl
  refine pu_ 3 29 ?_ #[J,J,J,J,Z,Z,Z,Z,Z,Z,Z,Z,Z] rfl rfl ?_ ?_ ?_ ?_
  rotate_left
  · intro w'
    go_simp
    with_reducible rfl
  rotate_left
  · simp only [aP]
    rfl
  refine pu_ 5 31 ?_ #[J,J,J,J,Z,J,Z,Z,Z,Z,Z,Z,Z] rfl rfl ?_ ?_ ?_ ?_
  rotate_left
  · intro w'
    go_simp
    with_reducible rfl
  rotate_left
  · simp only [aP]
    rfl
  refine pu_ 6 32 ?_ #[J,J,J,J,Z,J,J,Z,Z,Z,Z,Z,Z] rfl rfl ?_ ?_ ?_ ?_
  rotate_left
  · intro w'
    go_simp
    with_reducible rfl
  rotate_left
  · simp only [aP]
    rfl
  refine pu_ 7 33 ?_ #[J,J,J,J,Z,J,J,J,Z,Z,Z,Z,Z] rfl rfl ?_ ?_ ?_ ?_
  rotate_left
  · intro w'
    go_simp
    with_reducible rfl
  rotate_left
  · simp only [aP]
    rfl
  refine pu_ 9 35 ?_ #[J,J,J,J,Z,J,J,J,Z,J,Z,Z,Z] rfl rfl ?_ ?_ ?_ ?_
  rotate_left
  · intro w'
    go_simp
    with_reducible rfl
  rotate_left
  · simp only [aP]
    rfl
  refine ta_ 4 30 ?_ #[J,J,J,J,J,J,J,J,Z,J,Z,Z,Z] rfl rfl ?_ hHeld ?_ ?_ ?_
  rotate_left
  · rintro w' ⟨s0, s1⟩
    go_simp
    with_reducible rfl
  rotate_left
  · simp only [aP]
    rfl
  refine ta_ 8 34 ?_ #[J,J,J,J,J,J,J,J,J,J,Z,Z,Z] rfl rfl ?_ hHeld ?_ ?_ ?_
  rotate_left
  · rintro w' ⟨s0, s1⟩
    go_simp
    with_reducible rfl
  rotate_left
  · simp only [aP]
    rfl
  refine one_ (i := 10) (N := some 36) #[J,J,J,J,J,J,J,J,J,J,J,Z,Z] rfl rfl (by kernel_rfl) (by decide) (fun K hK => ?_)
  refine goes_ Tryz.func34 (by kernel_rfl) rfl #[.slice A2 n2 c2] (by rfl) rfl rfl (by simp only [List.map_toArray, List.map_cons, List.map_nil]; rfl) ?_
  with_reducible refine (rdelta_ (HC.out _ B3.out.tail.tail.tail.tail) (by rw [HDL.out]; have := HN2.out; omega)).mono ?_
  rintro e w4 ⟨v4, rfl, hS4⟩
  refine ⟨_, rfl, ?_⟩
  obtain ⟨A4, c4, rfl⟩ := hS4.rowN HDL.out
  have B4 := Aside0.mk (B3.out.lift1 hS4)
  clear hS4
  refine hK.out _ _ ⟨(B4.out.at2.cell 3).trans rfl, (B4.out.at2.cell 7).trans rfl⟩ (fun hHeld => ?_)
  clear hK K
  refine norm_ (a' := ?_) ?_ ?_
  rotate_left
  · show Act.put _ (some 36) _ = _
    simp only [aP]
    rfl
  refine last_ (i := 11) (N := some 37) #[J,J,J,J,J,J,J,J,J,J,J,J,Z] rfl rfl (by kernel_rfl) (by decide) (fun K hK => ?_)
  refine goes_ Tryz.func85 (by kernel_rfl) rfl #[.int .u32 ep, .int .u32 (seq : Int), .slice A4 (2 + 66 * n2) c4] (by rfl) rfl rfl (by simp only [List.map_toArray, List.map_cons, List.map_nil]; rfl) ?_
  with_reducible refine (rframe_ B4.out.rowC' (by have := HN2.out; omega) HEP.out (by have := HSQ.out; omega)).mono ?_
  rintro e w5 ⟨v5, rfl, hS5⟩
  refine ⟨_, rfl, ?_⟩
  obtain ⟨fr, hfr⟩ : ∃ f, frameF ep (seq : Int) (deltaF l) = f := ⟨_, rfl⟩
  have HFR := Aside0.mk hfr
  have HFE : Aside0 (fr.length = KF) := ⟨by rw [← hfr]; exact HFL.out⟩
  rw [hfr] at hS5
  obtain ⟨A5, c5, rfl⟩ := hS5.rowN HFE.out
  have hc5 := hS5.rowC.2.1
  have B5 := Aside0.mk (B4.out.tail.lift1 hS5).drew
  clear hS5 hfr
  refine hK.out _ _ ?_
  clear hK K
  refine norm_ (a' := ?_) ?_ ?_
  rotate_left
  · show Act.put _ (some 37) _ = _
    simp only [aP]
    rfl
  refine pu_ 12 5 ?_ #[J,J,J,J,J,J,J,J,J,J,J,J,J] rfl rfl ?_ ?_ ?_ ?_
  rotate_left
  · intro w'
    go_simp
    with_reducible rfl
  rotate_left
  · simp only [aP]
    rfl
  refine done_ (by kernel_rfl) ?_
  have HC5 := Aside0.mk hc5
  clear hc5
  go_wp2_with fail
  refine start_ (n := 14) (S := fun w' => w'.cell? ⟨gx, 0, none⟩ = some (.pointer (some ⟨gr, 0, none⟩)) ∧ w'.cell? ⟨gx, 1, none⟩ = some (.int .i64 a) ∧ w'.cell? ⟨gx, 2, none⟩ = some (.int .i64 b) ∧ w'.cell? ⟨gx, 3, none⟩ = some (.int .u32 ep) ∧ w'.cell? ⟨gx, 6, none⟩ = some (.int .i64 (used : Int))) (ds := [13]) #[Z,Z,Z,Z,Z,Z,Z,Z,Z,Z,Z,Z,Z,Z] (by kernel_rfl) rfl rfl ⟨(B5.out.at2.cell 0).trans rfl, (B5.out.at2.cell 1).trans rfl, (B5.out.at2.cell 2).trans rfl, (B5.out.at2.cell 3).trans rfl, (B5.out.at2.cell 6).trans rfl⟩ (fun hHeld => ?_)
  refine pu_ 0 38 ?_ #[J,Z,Z,Z,Z,Z,Z,Z,Z,Z,Z,Z,Z,Z] rfl rfl ?_ ?_ ?_ ?_
  rotate_left
  · intro w'
    go_simp
    with_reducible rfl
  rotate_left
  · simp only [aP]
    rfl
  refine pu_ 1 39 ?_ #[J,J,Z,Z,Z,Z,Z,Z,Z,Z,Z,Z,Z,Z] rfl rfl ?_ ?_ ?_ ?_
  rotate_left
  · intro w'
    go_simp
    with_reducible rfl
  rotate_left
  · simp only [aP]
    rfl
  refine pu_ 2 40 ?_ #[J,J,J,Z,Z,Z,Z,Z,Z,Z,Z,Z,Z,Z] rfl rfl ?_ ?_ ?_ ?_
  rotate_left
  · intro w'
    go_simp
    with_reducible rfl
  rotate_left
  · simp only [aP]
    rfl
  refine pu_ 4 42 ?_ #[J,J,J,Z,J,Z,Z,Z,Z,Z,Z,Z,Z,Z] rfl rfl ?_ ?_ ?_ ?_
  rotate_left
  · intro w'
    go_simp
    with_reducible rfl
  rotate_left
  · simp only [aP]
    rfl
  refine pu_ 5 43 ?_ #[J,J,J,Z,J,J,Z,Z,Z,Z,Z,Z,Z,Z] rfl rfl ?_ ?_ ?_ ?_
  rotate_left
  · intro w'
    go_simp
    with_reducible rfl
  rotate_left
  · simp only [aP]
    rfl
  refine pu_ 6 44 ?_ #[J,J,J,Z,J,J,J,Z,Z,Z,Z,Z,Z,Z] rfl rfl ?_ ?_ ?_ ?_
  rotate_left
  · intro w'
    go_simp
    with_reducible rfl
  rotate_left
  · simp only [aP]
    rfl
  refine pu_ 8 46 ?_ #[J,J,J,Z,J,J,J,Z,J,Z,Z,Z,Z,Z] rfl rfl ?_ ?_ ?_ ?_
  rotate_left
  · intro w'
    go_simp
    with_reducible rfl
  rotate_left
  · simp only [aP]
    rfl
  refine pu_ 9 47 ?_ #[J,J,J,Z,J,J,J,Z,J,J,Z,Z,Z,Z] rfl rfl ?_ ?_ ?_ ?_
  rotate_left
  · intro w'
    go_simp
    with_reducible rfl
  rotate_left
  · simp only [aP]
    rfl
  refine pu_ 10 48 ?_ #[J,J,J,Z,J,J,J,Z,J,J,J,Z,Z,Z] rfl rfl ?_ ?_ ?_ ?_
  rotate_left
  · intro w'
    go_simp
    with_reducible rfl
  rotate_left
  · simp only [aP]
    rfl
  refine pu_ 12 50 ?_ #[J,J,J,Z,J,J,J,Z,J,J,J,Z,J,Z] rfl rfl ?_ ?_ ?_ ?_
  rotate_left
  · intro w'
    go_simp
    with_reducible rfl
  rotate_left
  · simp only [aP]
    rfl
  refine ta_ 3 41 ?_ #[J,J,J,J,J,J,J,Z,J,J,J,Z,J,Z] rfl rfl ?_ hHeld ?_ ?_ ?_
  rotate_left
  · rintro w' ⟨s0, s1, s2, s3, s4⟩
    go_simp
    with_reducible rfl
  rotate_left
  · simp only [aP]
    rfl
  refine ta_ 7 45 ?_ #[J,J,J,J,J,J,J,J,J,J,J,Z,J,Z] rfl rfl ?_ hHeld ?_ ?_ ?_
  rotate_left
  · rintro w' ⟨s0, s1, s2, s3, s4⟩
    go_simp
    with_reducible rfl
  rotate_left
  · simp only [aP]
    rfl
  refine ta_ 11 49 ?_ #[J,J,J,J,J,J,J,J,J,J,J,J,J,Z] rfl rfl ?_ hHeld ?_ ?_ ?_
  rotate_left
  · rintro w' ⟨s0, s1, s2, s3, s4⟩
    go_simp
    with_reducible rfl
  rotate_left
  · simp only [aP]
    rfl
  refine last_ (i := 13) (N := some 51) #[J,J,J,J,J,J,J,J,J,J,J,J,J,J] rfl rfl (by kernel_rfl) (by decide) (fun K hK => ?_)
  refine goes_ Tryz.func86 (by kernel_rfl) rfl #[.pointer (some ⟨gr, 0, none⟩), .agg #[.int .i64 a, .int .i64 b, .int .u32 ep], .int .i64 (used : Int), .slice A5 KF c5] (by rfl) rfl rfl (by simp only [List.map_toArray, List.map_cons, List.map_nil]; rfl) ?_
  with_reducible refine (rappend_ (xs := fr) B5.out.at5 HL.out.1 HL.out.2.1 HL.out.2.2.2 HL.out.2.2.1 a b ep (used : Int) (by have := HU.out; have := (Redo.sizeF_in a).2; omega) (fun W' hW => hW.rowC') HC5.out).mono ?_
  rintro e w6 ⟨rfl, d6, hd6, hS6⟩
  refine ⟨_, rfl, ?_⟩
  obtain ⟨wt2, hwt2⟩ : ∃ t, appR n las wt a b ep (used : Int) fr = t := ⟨_, rfl⟩
  have HWT := Aside0.mk hwt2
  have HD6 := Aside0.mk hd6
  rw [hwt2] at hS6
  have B6 := Aside0.mk hS6.at2.tail
  clear hS6 hwt2 hd6
  refine hK.out _ _ ?_
  clear hK K
  refine norm_ (a' := ?_) ?_ ?_
  rotate_left
  · show Act.put _ (some 51) _ = _
    simp only [aP]
    rfl
  refine done_ (by kernel_rfl) ?_
  have B6' := Aside0.mk (rstb_shut HPP.out B6.out.to4)
  go_wp2_with fail
  refine (rapply_ B6'.out (fun W' hW => HC.out W' hW.tail) HAL.out).mono ?_
  rintro e w7 ⟨rfl, hS7⟩
  obtain ⟨hp7, gp7, cp7, gn7, cn7, hs7⟩ := rstb_open hS7
  have HP7 := Aside0.mk hp7
  have B7 := Aside0.mk hs7
  clear hS7 hs7 hp7
  have z6 := (B7.out.cell 6).trans rfl
  have f6 := B7.out.frozen 6
  have B8 := Aside0.mk (B7.out.setBlk 6 (.int .i64 (U2 : Int)))
  have z7 := (B8.out.cell 7).trans rfl
  have f7 := B8.out.frozen 7
  have B9 := Aside0.mk (B8.out.setBlk 7 (.int .u32 (S2 : Int)))
  go_wp2_with fail
  go_ret
  refine ⟨by first | rfl | (simp; done), d6, HD6.out, ?_⟩
  rw [HKK.out, HU2.out, HS2.out, HFR.out, HWT.out]
  exact rstb_shut HP7.out B9.out
end
end Go.Proofs.YtjngnigelkgekaaGreat.RStore
