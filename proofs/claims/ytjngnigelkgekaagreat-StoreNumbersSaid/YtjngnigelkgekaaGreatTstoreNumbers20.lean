/- StLaw, StLaw2, StDeed2, StRef3, RefNone, Alike18: what StoreNumbers needs. -/
import Derived.Test.YtjngnigelkgekaaGreatTstoreNumbers19
set_option linter.unusedVariables false
set_option linter.unusedSimpArgs false
namespace Go.Proofs.YtjngnigelkgekaaGreat.Store
open Go.RowKit Go.Proofs.YtjngnigelkgekaaGreatW.PrintWords Go.Proofs.YtjngnigelkgekaaGreatW.PrintLast Go.Proofs.YtjngnigelkgekaaGreatW.PrintMore Go.Proofs.YtjngnigelkgekaaGreat.Kit Go.Proofs.YtjngnigelkgekaaGreat.Plain Go.Proofs.YtjngnigelkgekaaGreat.Disk Go.Proofs.YtjngnigelkgekaaGreat.Root
open Go.Proofs.YtjngnigelkgekaaGreat.Delta (Chg KC deltaF rightF okF undeltaF)
open Go.Proofs.YtjngnigelkgekaaGreat.Redo (recR logF logF_bytes)
open Go.Proofs.YtjngnigelkgekaaGreat.Home (pagesF pageF putP mayF atF may_in)
open Go.Proofs.YtjngnigelkgekaaGreat.Frame (frameF frameF_len readF scanF scanR ScanAt scan_start scan_none scan_some recsF longs longs_app recs_bytes scan_facts recs_len longs_len)
open Go.Proofs.YtjngnigelkgekaaGreat.Sum (getF_put sumF_in)
def framesF (ep : Int) (bs : List (List Int)) : List Int := (List.range bs.length).flatMap (fun i : Nat => frameF ep (i : Int) (bs.getD i []))
end Go.Proofs.YtjngnigelkgekaaGreat.Store
namespace Go.Proofs.YtjngnigelkgekaaGreat.Store
open Go.RowKit Go.Proofs.YtjngnigelkgekaaGreatW.PrintWords Go.Proofs.YtjngnigelkgekaaGreatW.PrintLast Go.Proofs.YtjngnigelkgekaaGreatW.PrintMore Go.Proofs.YtjngnigelkgekaaGreat.Kit Go.Proofs.YtjngnigelkgekaaGreat.Plain Go.Proofs.YtjngnigelkgekaaGreat.Disk Go.Proofs.YtjngnigelkgekaaGreat.Root
open Go.Proofs.YtjngnigelkgekaaGreat.Delta (Chg KC deltaF rightF okF undeltaF)
open Go.Proofs.YtjngnigelkgekaaGreat.Redo (recR logF logF_bytes)
open Go.Proofs.YtjngnigelkgekaaGreat.Home (pagesF pageF putP mayF atF may_in)
open Go.Proofs.YtjngnigelkgekaaGreat.Frame (frameF frameF_len readF scanF scanR ScanAt scan_start scan_none scan_some recsF longs longs_app recs_bytes scan_facts recs_len longs_len)
structure Lay (n a b : Nat) (E : Int) (L : List Int) : Prop where
  len : L.length = 64 * n
  byt : Bytes L
  rgt : 1 ≤ a ∧ a ≤ 64 ∧ 1 ≤ b ∧ b ≤ 64 ∧ 2 + a + b ≤ n ∧ 1 ≤ E ∧ E ≤ 4294967295
  rt : sec L (E % 2).toNat = rootF (a : Int) (b : Int) E
  ot : ∀ r, unrootF (sec L ((E + 1) % 2).toNat) = some r → r.2.2 < E
theorem Lay.right {n a b : Nat} {E : Int} {L : List Int} (h : Lay n a b E L) : rightR (a : Int) (b : Int) E n = true := by
  have := h.rgt
  unfold rightR
  rw [decide_eq_true_eq]
  omega
theorem secF_no {n : Nat} {L : List Int} {j : Nat} (h : j < n) : secF n L noW j = sec L j := by
  unfold secF
  rw [if_pos h]; rfl
theorem Lay.unroot {n a b : Nat} {E : Int} {L : List Int} (h : Lay n a b E L) : unrootF (sec L (E % 2).toNat) = some ((a : Int), (b : Int), E) := by
  have := h.rgt
  rw [h.rt]
  exact unroot_root (by omega) (by omega) (by omega) (by omega) (by omega) (by omega)
theorem pick_take {n : Int} {best r : R3} {l : List Int} (h : unrootF l = some r) (hr : rightR r.1 r.2.1 r.2.2 n = true) (hb : best.2.2 < r.2.2) : pickF n best l = r := by
  unfold pickF
  rw [h]
  exact if_pos ⟨hr, hb⟩
theorem pick_keep {n : Int} {best : R3} {l : List Int} (h : ∀ r, unrootF l = some r → r.2.2 ≤ best.2.2) : pickF n best l = best := by
  unfold pickF
  cases hu : unrootF l with
  | none => rfl
  | some r => exact if_neg (fun h2 => by have := h r hu; omega)
theorem pick_low {n : Int} {l : List Int} {E : Int} (hE : 0 < E) (h : ∀ r, unrootF l = some r → r.2.2 < E) : (pickF n (0, 0, 0) l).2.2 < E := by
  unfold pickF
  cases hu : unrootF l with
  | none => exact hE
  | some r =>
    dsimp only
    split
    · exact h r hu
    · exact hE
theorem Lay.best {n a b : Nat} {E : Int} {L : List Int} (h : Lay n a b E L) : bestTo (n : Int) (secF n L noW) 2 = ((a : Int), (b : Int), E) := by
  have hr := h.rgt
  show pickF (n : Int) (pickF (n : Int) (0, 0, 0) (secF n L noW 0)) (secF n L noW 1) = _
  rw [secF_no (by omega), secF_no (by omega)]
  have hrt := h.right
  have hu := h.unroot
  have ho := h.ot
  rcases (show E % 2 = 0 ∨ E % 2 = 1 by omega) with h0 | h0
  · have h1 : (E + 1) % 2 = 1 := by omega
    rw [h0] at hu
    rw [h1] at ho
    rw [show pickF (n : Int) (0, 0, 0) (sec L 0) = ((a : Int), (b : Int), E) from pick_take hu hrt (by show (0 : Int) < E; omega)]
    exact pick_keep (fun r h2 => Int.le_of_lt (ho r h2))
  · have h1 : (E + 1) % 2 = 0 := by omega
    rw [h0] at hu
    rw [h1] at ho
    exact pick_take hu hrt (pick_low (E := E) (by omega) ho)
theorem Lay.pages {n a b : Nat} {E : Int} {L : List Int} (h : Lay n a b E L) : pagesF n L noW (a : Int) (b : Int) E = (List.range b).map (fun i : Nat => sec L (2 + a + i)) := by
  have hr := h.rgt
  unfold pagesF
  rw [if_pos h.right, Int.toNat_natCast]
  refine List.map_congr_left (fun i hi => ?_)
  have hi := List.mem_range.1 hi
  unfold pageF mayF
  rw [h.right, decide_eq_true (show (0 : Int) ≤ (i : Int) by omega), decide_eq_true (show (i : Int) < (b : Int) by omega)]
  show secF n L noW (atF (a : Int) (i : Int)) = _
  rw [show atF (a : Int) (i : Int) = 2 + a + i by unfold atF; omega]
  exact secF_no (by omega)
theorem Lay.log {n a b : Nat} {E : Int} {L : List Int} (h : Lay n a b E L) : logF n L noW (a : Int) (b : Int) E = secs a (fun i => sec L (2 + i)) := by
  have hr := h.rgt
  unfold logF
  rw [if_pos h.right, Int.toNat_natCast]
  exact secs_congr (fun i hi => secF_no (by omega))
theorem homeW_at {n a b : Nat} {E : Int} {pages : List (List Int)} (hr : rightR (a : Int) (b : Int) E n = true) (hp : ∀ k : Nat, k < b → (pages.getD k []).length = 64) : ∀ (ks : List Int) (wt : Wt), (∀ k ∈ ks, 0 ≤ k ∧ k < (b : Int)) → ∀ i, homeW n (a : Int) (b : Int) E pages ks wt i = if ∃ k ∈ ks, atF (a : Int) k = i then some (pages.getD (i - (2 + a)) []) else wt i
  | [], wt, _, i => by
    rw [if_neg (by rintro ⟨k, hk, -⟩; cases hk)]
    rfl
  | k :: t, wt, hk, i => by
    have h0 := hk k (List.mem_cons_self ..)
    obtain ⟨j, rfl⟩ := Int.eq_ofNat_of_zero_le h0.1
    show homeW n (a : Int) (b : Int) E pages t _ i = _
    rw [homeW_at hr hp t _ (fun x hx => hk x (List.mem_cons_of_mem _ hx)) i]
    by_cases h1 : ∃ k ∈ t, atF (a : Int) k = i
    · obtain ⟨k2, hk2, he⟩ := h1
      rw [if_pos ⟨k2, hk2, he⟩, if_pos ⟨k2, List.mem_cons_of_mem _ hk2, he⟩]
    · rw [if_neg h1]
      have hm : mayF n (a : Int) (b : Int) E (j : Int) = true := by
        unfold mayF
        rw [hr, decide_eq_true h0.1, decide_eq_true h0.2]; rfl
      have hat := (Home.home_at hm).2
      have hj : j < b := by omega
      have hpl := hp j hj
      unfold putP
      rw [if_pos hm, Int.toNat_natCast]
      unfold putW
      rw [if_pos ⟨hat, hpl⟩]
      by_cases h2 : i = atF (a : Int) (j : Int)
      · rw [if_pos h2, if_pos ⟨_, List.mem_cons_self .., h2.symm⟩]
        rw [h2, show atF (a : Int) (j : Int) - (2 + a) = j by unfold atF; omega]
      · rw [if_neg h2, if_neg]
        rintro ⟨k2, hk2, he⟩
        rcases List.mem_cons.1 hk2 with rfl | hk2
        · exact h2 he.symm
        · exact h1 ⟨k2, hk2, he⟩
theorem m32_nat {a : Nat} (h : a ≤ 64) : m32 (a : Int) = (a : Int) := by unfold m32; omega
theorem homeW_bytes {n : Nat} {a b E : Int} {pages : List (List Int)} (hp : ∀ k : Nat, Bytes (pages.getD k [])) : ∀ (ks : List Int) {wt : Wt}, (∀ i b, wt i = some b → Bytes b) → ∀ i c, homeW n a b E pages ks wt i = some c → Bytes c
  | [], _, h => h
  | k :: t, wt, h => homeW_bytes hp t (by
      unfold putP
      split
      · exact putW_bytes h (hp _)
      · exact h)
end Go.Proofs.YtjngnigelkgekaaGreat.Store
namespace Go.Proofs.YtjngnigelkgekaaGreat.Deed
open Go.RowKit Go.Proofs.YtjngnigelkgekaaGreat.Kit Go.Proofs.YtjngnigelkgekaaGreat.Disk Go.Proofs.YtjngnigelkgekaaGreat.Plain Go.Proofs.YtjngnigelkgekaaGreat.Root
open Go.Proofs.YtjngnigelkgekaaGreat.Home (putP mayF atF)
open Go.Proofs.YtjngnigelkgekaaGreat.Store (homeW homeW_at chkL sortK sortK_perm)
def homeD (a : Nat) (pages : List (List Int)) (l : List Nat) : List Dd := l.map (fun p => some (2 + a + p, pages.getD p []))
def rootD (a b : Nat) (E : Int) : Dd := some (((E + 1) % 2).toNat, rootF (m32 (a : Int)) (m32 (b : Int)) (E + 1))
def chkD (a b : Nat) (E : Int) (pages : List (List Int)) (l : List Nat) : List Dd := none :: (homeD a pages l ++ [none, rootD a b E, none])
theorem homeD_len (a : Nat) (pages : List (List Int)) (l : List Nat) : (homeD a pages l).length = l.length := by unfold homeD; rw [List.length_map]
theorem chkD_len (a b : Nat) (E : Int) (pages : List (List Int)) (l : List Nat) : (chkD a b E pages l).length = l.length + 4 := by
  unfold chkD; rw [List.length_cons, List.length_append, homeD_len]; rfl
theorem homeD_snoc (a : Nat) (pages : List (List Int)) (l : List Nat) (k : Nat) : homeD a pages (l ++ [k]) = homeD a pages l ++ [some (2 + a + k, pages.getD k [])] := by unfold homeD; rw [List.map_append]; rfl
section
variable {n a b : Nat} {E : Int} {pages : List (List Int)}
theorem homeD_ok (hr : rightR (a : Int) (b : Int) E n = true) (hp : ∀ k : Nat, k < b → (pages.getD k []).length = 64) {l : List Nat} (hl : ∀ k ∈ l, k < b) : OkD n (homeD a pages l) := fun i x hm => by
  unfold homeD at hm
  obtain ⟨k, hk, he⟩ := List.mem_map.1 hm
  injection he with he
  injection he with h1 h2
  have h3 := hl k hk
  have h4 := of_decide_eq_true hr
  subst h1 h2
  exact ⟨by omega, hp k h3⟩
theorem chkD_ok (hr : rightR (a : Int) (b : Int) E n = true) (hp : ∀ k : Nat, k < b → (pages.getD k []).length = 64) {l : List Nat} (hl : ∀ k ∈ l, k < b) : OkD n (chkD a b E pages l) := fun i x hm => by
  unfold chkD at hm
  rcases List.mem_cons.1 hm with hm | hm
  · cases hm
  rcases List.mem_append.1 hm with hm | hm
  · exact homeD_ok hr hp hl i x hm
  have h4 := of_decide_eq_true hr
  rcases List.mem_cons.1 hm with hm | hm
  · cases hm
  rcases List.mem_cons.1 hm with hm | hm
  · unfold rootD at hm
    injection hm with he
    injection he with h1 h2
    subst h1 h2
    exact ⟨by omega, rootF_len _ _ _⟩
  · cases List.mem_singleton.1 hm
theorem homeD_run (hr : rightR (a : Int) (b : Int) E n = true) (hp : ∀ k : Nat, k < b → (pages.getD k []).length = 64) : ∀ (l : List Nat) (L : List Int) (w : Wt), (∀ k ∈ l, k < b) → runD (L, w) (homeD a pages l) = (L, homeW n (a : Int) (b : Int) E pages (l.map (fun k : Nat => (k : Int))) w)
  | [], L, w, _ => rfl
  | k :: t, L, w, hl => by
    have hk := hl k (List.mem_cons_self ..)
    have hm : mayF n (a : Int) (b : Int) E (k : Int) = true := by
      unfold mayF
      rw [hr, decide_eq_true (show (0 : Int) ≤ (k : Int) by omega), decide_eq_true (show (k : Int) < (b : Int) by omega)]; rfl
    have h4 := of_decide_eq_true hr
    have hat : atF (a : Int) (k : Int) = 2 + a + k := by unfold atF; omega
    have hpk : putP n w (a : Int) (b : Int) E (k : Int) (pages.getD (k : Int).toNat []) = fun j => if j = 2 + a + k then some (pages.getD k []) else w j := by
      unfold putP putW
      rw [if_pos hm, hat, Int.toNat_natCast, if_pos ⟨by omega, hp k hk⟩]
    show runD (doD (L, w) (some (2 + a + k, pages.getD k []))) (homeD a pages t) = (L, homeW n (a : Int) (b : Int) E pages (t.map (fun k : Nat => (k : Int))) (putP n w (a : Int) (b : Int) E (k : Int) (pages.getD (k : Int).toNat [])))
    rw [hpk]
    exact homeD_run hr hp t L _ (fun x hx => hl x (List.mem_cons_of_mem _ hx))
theorem chkD_run (hr : rightR (a : Int) (b : Int) E n = true) (hp : ∀ k : Nat, k < b → (pages.getD k []).length = 64) {named : List Int} {nm : List Bool} (hks : ∀ k ∈ named, 0 ≤ k ∧ k < (b : Int)) (hnm : ∀ k : Nat, k < b → ((k : Int) ∈ named ↔ nm.getD k false = true)) (las : List Int) (wt : Wt) :
    runD (las, wt) (chkD a b E pages ((List.range b).filter (fun i => nm.getD i false))) = (chkL n las wt (a : Int) (b : Int) E pages named, fun _ => none) := by
  have hl : ∀ k ∈ (List.range b).filter (fun i => nm.getD i false), k < b := fun k hk => List.mem_range.1 (List.mem_filter.1 hk).1
  have h4 := of_decide_eq_true hr
  unfold chkD
  show runD (flushed las wt, fun _ => none) (homeD a pages _ ++ _) = _
  rw [runD_append, homeD_run hr hp _ _ _ hl]
  have hW : homeW n (a : Int) (b : Int) E pages (((List.range b).filter (fun i => nm.getD i false)).map (fun k : Nat => (k : Int))) (fun _ => none) = homeW n (a : Int) (b : Int) E pages (sortK named) (fun _ => none) := by
    funext i
    rw [homeW_at hr hp _ _ (fun k hk => by
      obtain ⟨j, hj, rfl⟩ := List.mem_map.1 hk
      have := hl j hj
      omega) i, homeW_at hr hp _ _ (fun k hk => hks k ((sortK_perm named).mem_iff.2 hk)) i]
    have he : (∃ k ∈ ((List.range b).filter (fun i => nm.getD i false)).map (fun k : Nat => (k : Int)), atF (a : Int) k = i) ↔ (∃ k ∈ sortK named, atF (a : Int) k = i) := by
      constructor
      · rintro ⟨k, hk, hi⟩
        obtain ⟨j, hj, rfl⟩ := List.mem_map.1 hk
        exact ⟨_, (sortK_perm named).mem_iff.1 ((hnm j (hl j hj)).2 (List.mem_filter.1 hj).2), hi⟩
      · rintro ⟨k, hk, hi⟩
        have h1 := (sortK_perm named).mem_iff.2 hk
        have h2 := hks k h1
        obtain ⟨j, rfl⟩ := Int.eq_ofNat_of_zero_le h2.1
        exact ⟨_, List.mem_map.2 ⟨j, List.mem_filter.2 ⟨List.mem_range.2 (by omega), (hnm j (by omega)).1 h1⟩, rfl⟩, hi⟩
    simp only [he]
  rw [hW]
  have hput : putW n (fun _ => none) ((E + 1) % 2).toNat (rootF (m32 (a : Int)) (m32 (b : Int)) (E + 1)) = fun j => if j = ((E + 1) % 2).toNat then some (rootF (m32 (a : Int)) (m32 (b : Int)) (E + 1)) else none := by
    unfold putW; rw [if_pos ⟨by omega, rootF_len _ _ _⟩]
  unfold chkL
  rw [hput]
  rfl
end
end Go.Proofs.YtjngnigelkgekaaGreat.Deed
namespace Go.Proofs.YtjngnigelkgekaaGreat.RStore
open Go.RowKit Go.Proofs.YtjngnigelkgekaaGreatW.PrintWords Go.Proofs.YtjngnigelkgekaaGreatW.PrintLast Go.Proofs.YtjngnigelkgekaaGreatW.PrintMore Go.Proofs.YtjngnigelkgekaaGreat.Kit Go.Proofs.YtjngnigelkgekaaGreat.Plain Go.Proofs.YtjngnigelkgekaaGreat.Disk Go.Proofs.YtjngnigelkgekaaGreat.Root
open Go.Proofs.YtjngnigelkgekaaGreat.Delta (Chg KC)
open Go.Proofs.YtjngnigelkgekaaGreat.Store (KP ov_at ov_C)
open Go.Proofs.YtjngnigelkgekaaGreat.Deed
def nmZ (nm : List Bool) (j : Nat) : List Bool := List.replicate j false ++ nm.drop j
theorem nmZ_get {nm : List Bool} {j : Nat} (hj : j ≤ nm.length) (i : Nat) : (nmZ nm j)[i]? = if i < j then some false else nm[i]? := by
  unfold nmZ
  by_cases h : i < j
  · rw [if_pos h, List.getElem?_append_left (by rw [List.length_replicate]; exact h), List.getElem?_replicate, if_pos h]
  · rw [if_neg h, List.getElem?_append_right (by rw [List.length_replicate]; omega), List.length_replicate, List.getElem?_drop, show j + (i - j) = i by omega]
theorem nmZ_len {nm : List Bool} {j : Nat} (hj : j ≤ nm.length) : (nmZ nm j).length = nm.length := by unfold nmZ; rw [List.length_append, List.length_replicate, List.length_drop]; omega
theorem nmZ_at {nm : List Bool} {j : Nat} (hj : j < nm.length) : (nmZ nm j).getD j false = nm.getD j false := by
  rw [List.getD_eq_getElem?_getD, List.getD_eq_getElem?_getD, nmZ_get (by omega), if_neg (Nat.lt_irrefl _)]
theorem nmZ_no {nm : List Bool} {j : Nat} (hj : j < nm.length) (h : nm.getD j false = false) : nmZ nm (j + 1) = nmZ nm j := by
  apply List.ext_getElem?
  intro i
  rw [nmZ_get (by omega), nmZ_get (by omega)]
  rw [List.getD_eq_getElem?_getD] at h
  by_cases h1 : i < j
  · rw [if_pos (by omega), if_pos h1]
  · by_cases h2 : i = j
    · subst h2
      rw [if_pos (by omega), if_neg (by omega)]
      rw [List.getElem?_eq_getElem hj] at h ⊢
      rw [show nm[i] = false from h]
    · rw [if_neg (by omega), if_neg (by omega)]
theorem nmZ_yes {nm : List Bool} {j : Nat} (hj : j < nm.length) : (nmZ nm j).set j false = nmZ nm (j + 1) := by
  apply List.ext_getElem?
  intro i
  rw [List.getElem?_set, nmZ_get (by omega), nmZ_get (by omega), nmZ_len (by omega)]
  by_cases h2 : j = i
  · subst h2
    rw [if_pos rfl, if_pos hj, if_pos (by omega)]
  · rw [if_neg h2]
    by_cases h1 : i < j
    · rw [if_pos h1, if_pos (by omega)]
    · rw [if_neg h1, if_neg (by omega)]
theorem nmZ_all {nm : List Bool} {b : Nat} (h : nm.length = b) : nmZ nm b = List.replicate b false := by
  unfold nmZ; rw [List.drop_of_length_le (by omega), List.append_nil]
theorem nmZ_0 (nm : List Bool) : nmZ nm 0 = nm := by unfold nmZ; simp
def nmL (nm : List Bool) (j : Nat) : List Nat := (List.range j).filter (fun i => nm.getD i false)
theorem nmL_no {nm : List Bool} {j : Nat} (h : nm.getD j false = false) : nmL nm (j + 1) = nmL nm j := by
  unfold nmL; rw [List.range_succ, List.filter_append, List.filter_cons, h]; simp
theorem nmL_yes {nm : List Bool} {j : Nat} (h : nm.getD j false = true) : nmL nm (j + 1) = nmL nm j ++ [j] := by
  unfold nmL; rw [List.range_succ, List.filter_append, List.filter_cons, h]; simp
theorem nmL_len (nm : List Bool) (j : Nat) : (nmL nm j).length ≤ j := by
  unfold nmL
  have := List.length_filter_le (fun i => nm.getD i false) (List.range j)
  rw [List.length_range] at this
  exact this
theorem nmL_lt {nm : List Bool} {j k : Nat} (h : k ∈ nmL nm j) : k < j := List.mem_range.1 (List.mem_filter.1 h).1
theorem pre_ok {n a b : Nat} {E : Int} {pages : List (List Int)} (hr : rightR (a : Int) (b : Int) E n = true) (hp : ∀ k : Nat, k < b → (pages.getD k []).length = 64) {l : List Nat} (hl : ∀ k ∈ l, k < b) : OkD n (none :: homeD a pages l) := fun i x hm => by
  rcases List.mem_cons.1 hm with hm | hm
  · cases hm
  · exact homeD_ok hr hp hl i x hm
section
variable {w0 W : World} {F : List HP} {gx gr n a b : Nat} {ep : Int} {pages : List (List Int)} {nm : List Bool} {used seq : Nat}
theorem kv_cell {g N c kk : Nat} {e : Nat} {cs : List OV} {u : Value} (h : Sep w0 W (Row KV e (.slice (some ⟨g, 0, none⟩) N c) cs :: F)) (hk : kk < N) (hc : kk < cs.length) (hu : (cs[kk]).1 = u) : W.cell? ⟨g, kk, none⟩ = some u := by
  have h1 := (h.rowCell (enc := fun x : OV => x.1) ⟨.int .i64 0, rfl⟩ kk hk).1
  rw [List.getD_eq_getElem?_getD, List.getElem?_eq_getElem hc] at h1
  rw [← hu]; exact h1
set_option maxHeartbeats 1600000 in
set_option maxRecDepth 100000 in
theorem rcheck_full {x y : Int} (h : Sep w0 W (RStB gx gr x y 4294967295 pages nm used seq :: F)) : Calls Tryz.prog 48 #[.pointer (some ⟨gx, 0, none⟩)] W fun e w' => e = .returned (.int .i64 24) ∧ W = w' := by
  obtain ⟨hp, gp, cp, gn, cn, hs⟩ := rstb_open h
  have z3 := (hs.cell 3).trans rfl
  clear h hs hp
  go_enter Tryz.func48, Tryz.ntmps48
  go_wp2_with fail
  go_ret
  exact ⟨by first | rfl | (simp; done), rfl⟩
set_option maxHeartbeats 3200000 in
set_option maxRecDepth 100000 in
theorem rcheck_ {S : DS} {k : Int} {d : Nat} (h : Sep w0 W (RStB gx gr (a : Int) (b : Int) ep pages nm used seq :: RQ gr n S k d [] :: F)) (hs : OkS n S) (hr : rightR (a : Int) (b : Int) ep n = true) (he : ep < 4294967295) (hbp : pages.length = b) (hpg : ∀ kk : Nat, kk < b → (pages.getD kk []).length = 64) (hk : -1 ≤ k ∧ k ≤ 1000000) (hd : d ≤ 1000000) :
    Calls Tryz.prog 48 #[.pointer (some ⟨gx, 0, none⟩)] W fun e w' => e = .returned (.int .i64 0) ∧ Sep w0 w' (RStB gx gr (a : Int) (b : Int) (ep + 1) pages (List.replicate b false) 0 0 :: RQ gr n S k d (chkD a b ep pages (nmL nm b)) :: F) := by
  obtain ⟨hp, gp, cp, gn, cn, hs0⟩ := rstb_open h
  obtain ⟨cs, hs2⟩ := hs0.at2.rowV_open
  obtain ⟨N, hN⟩ : ∃ N, pages.length = N := ⟨_, rfl⟩
  obtain rfl : N = b := hN.symm.trans hbp
  rw [hN] at hs2
  have hr4 := of_decide_eq_true hr
  have HN := Aside0.mk hN
  have HNM : Aside0 (nm.length = N) := ⟨hp.1.trans hN⟩
  have HNU : Aside0 (1 ≤ a ∧ a ≤ 64 ∧ 1 ≤ N ∧ N ≤ 64 ∧ 2 + a + N ≤ n ∧ 1 ≤ ep) := ⟨by omega⟩
  have HP := Aside0.mk hp
  have HS := Aside0.mk hs
  have HR := Aside0.mk hr
  have HPG := Aside0.mk hpg
  have HK := Aside0.mk hk
  have HD := Aside0.mk hd
  have HEP := Aside0.mk he
  have B0 : Aside0 (Sep w0 W (RQ gr n S k d [] :: Row KV 24 (.slice (some ⟨gp, 0, none⟩) N cp) cs :: Fx (EachV KP pages cs) :: Blk gx 87 #[.pointer (some ⟨gr, 0, none⟩), .int .i64 (a : Int), .int .i64 (N : Int), .int .u32 ep, .slice (some ⟨gp, 0, none⟩) N cp, .slice (some ⟨gn, 0, none⟩) N cn, .int .i64 (used : Int), .int .u32 (seq : Int)] :: Row BK 4 (.slice (some ⟨gn, 0, none⟩) N cn) nm :: F)) := ⟨hs2.at5⟩
  have z0 := (B0.out.at4.cell 0).trans rfl
  have z3 := (B0.out.at4.cell 3).trans rfl
  have hep2 : (ep == 4294967295) = false := by simp; omega
  have hep3 : ¬ ep = 4294967295 := by omega
  have hN0 : 1 ≤ N := by omega
  have hN64 : N ≤ 64 := by omega
  clear h hs0 hs2 hN hbp hr4 hp hs hr hpg hk hd he
  go_enter Tryz.func48, Tryz.ntmps48
  go_wp2_with fail
  refine (qflush_ B0.out HS.out OkD.nil HK.out (by have := HD.out; simp only [List.length_nil]; omega)).mono ?_
  rintro e w1 ⟨rfl, hS1⟩
  have B1 : Aside0 (Sep w0 w1 (RQ gr n S k d (none :: homeD a pages (nmL nm 0)) :: _)) := ⟨hS1⟩
  clear hS1 z0 z3
  have z5 := (B1.out.at4.cell 5).trans rfl
  go_wp2_with fail
  go_loopg [20] N (fun k_ p wr => ∃ (j : Nat), p = .int .i64 (j : Int) ∧ j + k_ = N ∧ Sep w0 wr (RQ gr n S k d (none :: homeD a pages (nmL nm j)) :: Row KV 24 (.slice (some ⟨gp, 0, none⟩) N cp) cs :: Fx (EachV KP pages cs) :: Blk gx 87 #[.pointer (some ⟨gr, 0, none⟩), .int .i64 (a : Int), .int .i64 (N : Int), .int .u32 ep, .slice (some ⟨gp, 0, none⟩) N cp, .slice (some ⟨gn, 0, none⟩) N cn, .int .i64 (used : Int), .int .u32 (seq : Int)] :: Row BK 4 (.slice (some ⟨gn, 0, none⟩) N cn) (nmZ nm j) :: F))
  case atStart => exact ⟨0, rfl, by omega, by rw [nmZ_0]; exact B1.out⟩
  case round =>
    obtain ⟨j, rfl, hjk, hS⟩ := hrel
    obtain ⟨w5, rfl⟩ : ∃ x, x = wr := ⟨_, rfl⟩
    have AK := Aside0.mk hjk
    have AS := Aside0.mk hS
    clear hS z5
    by_cases cj : j < N
    case pos =>
      have hjl : (j : Int) < (N : Int) := by omega
      have hjm : j < nm.length := by rw [HNM.out]; exact cj
      have z5 := (AS.out.at4.cell 5).trans rfl
      obtain ⟨f5, f5b⟩ := AS.out.at5.rowCell (enc := Value.bool) false j cj
      rw [nmZ_at hjm] at f5
      clear f5b
      cases hb : nm.getD j false with
      | false =>
        rw [hb] at f5
        have HNL := Aside0.mk (And.intro (nmL_no hb) (nmZ_no hjm hb))
        clear hjk cj hjm hb
        go_wp2_with fail
        go_roundg (gk - 1)
        case measure => have := AK.out; omega
        case rel => exact ⟨j + 1, by go_num, by have := AK.out; omega, by rw [HNL.out.1, HNL.out.2]; exact AS.out⟩
      | true =>
        rw [hb] at f5
        have HNL := Aside0.mk (And.intro (nmL_yes hb) (nmZ_yes hjm))
        have hkp : j < pages.length := by rw [HN.out]; exact cj
        have BD := Aside0.mk AS.out.drew
        obtain ⟨hc', B, cB, hov, hlc⟩ := ov_at BD.out.at3.fx hkp
        have hpl : (pages[j]).length = 64 := by
          have h1 := HPG.out j cj
          rw [List.getD_eq_getElem?_getD, List.getElem?_eq_getElem hkp] at h1
          exact h1
        have HCX : Aside0 (∀ W', Sep w0 W' (Row KV 24 (.slice (some ⟨gp, 0, none⟩) N cp) cs :: Fx (EachV KP pages cs) :: Blk gx 87 #[.pointer (some ⟨gr, 0, none⟩), .int .i64 (a : Int), .int .i64 (N : Int), .int .u32 ep, .slice (some ⟨gp, 0, none⟩) N cp, .slice (some ⟨gn, 0, none⟩) N cn, .int .i64 (used : Int), .int .u32 (seq : Int)] :: Row BK 4 (.slice (some ⟨gn, 0, none⟩) N cn) (nmZ nm j) :: F) → (Kd.int .u8).C W' B (pages[j]).length pages[j]) := ⟨fun W' hW => ov_C hW.at2.fx hkp hc' hov⟩
        rw [hpl] at hov HCX
        have HOV : Aside0 (∃ hc : j < cs.length, (cs[j]).1 = .slice B 64 cB) := ⟨⟨hc', hov⟩⟩
        have HPD : Aside0 (pages[j] = pages.getD j []) := ⟨by rw [List.getD_eq_getElem?_getD, List.getElem?_eq_getElem hkp]; rfl⟩
        have HDS : Aside0 (homeD a pages (nmL nm (j + 1)) = homeD a pages (nmL nm j) ++ [some (2 + a + j, pages[j])]) := ⟨by rw [nmL_yes hb, homeD_snoc, HPD.out]⟩
        obtain ⟨x, hx⟩ : ∃ x, pages[j] = x := ⟨_, rfl⟩
        rw [hx] at HCX HDS
        clear HPD
        have HOK : Aside0 (OkD n (none :: homeD a pages (nmL nm j))) := ⟨pre_ok HR.out HPG.out (fun q hq => by have := nmL_lt hq; omega)⟩
        have HLE : Aside0 (d + (none :: homeD a pages (nmL nm j)).length ≤ 2000000) := ⟨by have h1 := nmL_len nm j; have h2 := HD.out; have h3 := HNU.out; rw [List.length_cons, homeD_len]; omega⟩
        have hHF : homeF (a : Int) (N : Int) (j : Int) = ((2 + a + j : Nat) : Int) := by
          have h3 := HNU.out
          unfold homeF
          rw [if_neg (by omega), IntWalk.wrap64_in (2 + (a : Int)) (by omega), IntWalk.wrap64_in _ (by omega)]
          omega
        have HHF := Aside0.mk hHF
        obtain ⟨pp, hpp⟩ : ∃ p, 2 + a + j = p := ⟨_, rfl⟩
        rw [hpp] at HHF HDS
        have HPN : Aside0 (pp < n) := ⟨by have := HNU.out; omega⟩
        clear hjk cj hov hlc hx hkp hpl hc' hHF hpp hb hjm
        go_wp2_with fail
        refine start_ (n := 18) (S := fun w' => w'.cell? ⟨gx, 0, none⟩ = some (.pointer (some ⟨gr, 0, none⟩)) ∧ w'.cell? ⟨gx, 1, none⟩ = some (.int .i64 (a : Int)) ∧ w'.cell? ⟨gx, 2, none⟩ = some (.int .i64 (N : Int)) ∧ w'.cell? ⟨gx, 3, none⟩ = some (.int .u32 ep) ∧ w'.cell? ⟨gx, 4, none⟩ = some (.slice (some ⟨gp, 0, none⟩) N cp) ∧ w'.cell? ⟨gp, j, none⟩ = some (.slice B 64 cB)) (ds := [17]) #[Z,Z,Z,Z,Z,Z,Z,Z,Z,Z,Z,Z,Z,Z,Z,Z,Z,Z] (by kernel_rfl) rfl rfl ⟨(BD.out.at4.cell 0).trans rfl, (BD.out.at4.cell 1).trans rfl, (BD.out.at4.cell 2).trans rfl, (BD.out.at4.cell 3).trans rfl, (BD.out.at4.cell 4).trans rfl, kv_cell BD.out.at2 (by omega) HOV.out.1 HOV.out.2⟩ (fun hHeld => ?_)
        refine pu_ 0 30 ?_ #[J,Z,Z,Z,Z,Z,Z,Z,Z,Z,Z,Z,Z,Z,Z,Z,Z,Z] rfl rfl ?_ ?_ ?_ ?_
        rotate_left
        · intro w'
          go_simp
          with_reducible rfl
        rotate_left
        · simp only [aP]
          rfl
        refine pu_ 1 31 ?_ #[J,J,Z,Z,Z,Z,Z,Z,Z,Z,Z,Z,Z,Z,Z,Z,Z,Z] rfl rfl ?_ ?_ ?_ ?_
        rotate_left
        · intro w'
          go_simp
          with_reducible rfl
        rotate_left
        · simp only [aP]
          rfl
        refine pu_ 2 32 ?_ #[J,J,J,Z,Z,Z,Z,Z,Z,Z,Z,Z,Z,Z,Z,Z,Z,Z] rfl rfl ?_ ?_ ?_ ?_
        rotate_left
        · intro w'
          go_simp
          with_reducible rfl
        rotate_left
        · simp only [aP]
          rfl
        refine pu_ 4 34 ?_ #[J,J,J,Z,J,Z,Z,Z,Z,Z,Z,Z,Z,Z,Z,Z,Z,Z] rfl rfl ?_ ?_ ?_ ?_
        rotate_left
        · intro w'
          go_simp
          with_reducible rfl
        rotate_left
        · simp only [aP]
          rfl
        refine pu_ 5 35 ?_ #[J,J,J,Z,J,J,Z,Z,Z,Z,Z,Z,Z,Z,Z,Z,Z,Z] rfl rfl ?_ ?_ ?_ ?_
        rotate_left
        · intro w'
          go_simp
          with_reducible rfl
        rotate_left
        · simp only [aP]
          rfl
        refine pu_ 6 36 ?_ #[J,J,J,Z,J,J,J,Z,Z,Z,Z,Z,Z,Z,Z,Z,Z,Z] rfl rfl ?_ ?_ ?_ ?_
        rotate_left
        · intro w'
          go_simp
          with_reducible rfl
        rotate_left
        · simp only [aP]
          rfl
        refine pu_ 8 38 ?_ #[J,J,J,Z,J,J,J,Z,J,Z,Z,Z,Z,Z,Z,Z,Z,Z] rfl rfl ?_ ?_ ?_ ?_
        rotate_left
        · intro w'
          go_simp
          with_reducible rfl
        rotate_left
        · simp only [aP]
          rfl
        refine pu_ 10 40 ?_ #[J,J,J,Z,J,J,J,Z,J,Z,J,Z,Z,Z,Z,Z,Z,Z] rfl rfl ?_ ?_ ?_ ?_
        rotate_left
        · intro w'
          go_simp
          with_reducible rfl
        rotate_left
        · simp only [aP]
          rfl
        refine pu_ 11 41 ?_ #[J,J,J,Z,J,J,J,Z,J,Z,J,J,Z,Z,Z,Z,Z,Z] rfl rfl ?_ ?_ ?_ ?_
        rotate_left
        · intro w'
          go_simp
          with_reducible rfl
        rotate_left
        · simp only [aP]
          rfl
        refine pu_ 12 42 ?_ #[J,J,J,Z,J,J,J,Z,J,Z,J,J,J,Z,Z,Z,Z,Z] rfl rfl ?_ ?_ ?_ ?_
        rotate_left
        · intro w'
          go_simp
          with_reducible rfl
        rotate_left
        · simp only [aP]
          rfl
        refine pu_ 14 44 ?_ #[J,J,J,Z,J,J,J,Z,J,Z,J,J,J,Z,J,Z,Z,Z] rfl rfl ?_ ?_ ?_ ?_
        rotate_left
        · intro w'
          go_simp
          with_reducible rfl
        rotate_left
        · simp only [aP]
          rfl
        refine ta_ 3 33 ?_ #[J,J,J,J,J,J,J,Z,J,Z,J,J,J,Z,J,Z,Z,Z] rfl rfl ?_ hHeld ?_ ?_ ?_
        rotate_left
        · rintro w' ⟨s0, s1, s2, s3, s4, s5⟩
          go_simp
          with_reducible rfl
        rotate_left
        · simp only [aP]
          rfl
        refine ta_ 7 37 ?_ #[J,J,J,J,J,J,J,J,J,Z,J,J,J,Z,J,Z,Z,Z] rfl rfl ?_ hHeld ?_ ?_ ?_
        rotate_left
        · rintro w' ⟨s0, s1, s2, s3, s4, s5⟩
          go_simp
          with_reducible rfl
        rotate_left
        · simp only [aP]
          rfl
        refine ta_ 13 43 ?_ #[J,J,J,J,J,J,J,J,J,Z,J,J,J,J,J,Z,Z,Z] rfl rfl ?_ hHeld ?_ ?_ ?_
        rotate_left
        · rintro w' ⟨s0, s1, s2, s3, s4, s5⟩
          go_simp
          with_reducible rfl
        rotate_left
        · simp only [aP]
          rfl
        refine pu_ 15 45 ?_ #[J,J,J,J,J,J,J,J,J,Z,J,J,J,J,J,J,Z,Z] rfl rfl ?_ ?_ ?_ ?_
        rotate_left
        · intro w'
          go_simp
          with_reducible rfl
        rotate_left
        · simp only [aP]
          rfl
        refine ta_ 16 46 ?_ #[J,J,J,J,J,J,J,J,J,Z,J,J,J,J,J,J,J,Z] rfl rfl ?_ hHeld ?_ ?_ ?_
        rotate_left
        · rintro w' ⟨s0, s1, s2, s3, s4, s5⟩
          go_simp
          with_reducible rfl
        rotate_left
        · simp only [aP]
          rfl
        refine one_ (i := 9) (N := some 39) #[J,J,J,J,J,J,J,J,J,J,J,J,J,J,J,J,J,Z] rfl rfl (by kernel_rfl) (by decide) (fun K hK => ?_)
        refine goes_ Tryz.func95 (by kernel_rfl) rfl #[.agg #[.int .i64 (a : Int), .int .i64 (N : Int), .int .u32 ep], .int .i64 (j : Int)] (by rfl) rfl rfl (by simp only [List.map_toArray, List.map_cons, List.map_nil]; rfl) ?_
        with_reducible refine (rhome_ (a : Int) (N : Int) ep (j : Int) _).mono ?_
        rintro e w6 ⟨rfl, hb6⟩
        refine ⟨_, rfl, ?_⟩
        rw [HHF.out]
        have B6 := Aside0.mk (BD.out.below hb6)
        clear hb6
        refine hK.out _ _ ⟨(B6.out.at4.cell 0).trans rfl, (B6.out.at4.cell 1).trans rfl, (B6.out.at4.cell 2).trans rfl, (B6.out.at4.cell 3).trans rfl, (B6.out.at4.cell 4).trans rfl, kv_cell B6.out.at2 (by omega) HOV.out.1 HOV.out.2⟩ (fun hHeld => ?_)
        clear hK K
        refine norm_ (a' := ?_) ?_ ?_
        rotate_left
        · show Act.put _ (some 39) _ = _
          simp only [aP]
          rfl
        refine last_ (i := 17) (N := some 47) #[J,J,J,J,J,J,J,J,J,J,J,J,J,J,J,J,J,J] rfl rfl (by kernel_rfl) (by decide) (fun K hK => ?_)
        refine goes_ Tryz.func79 (by kernel_rfl) rfl #[.pointer (some ⟨gr, 0, none⟩), .int .i64 (pp : Int), .slice B 64 cB] (by rfl) rfl rfl (by simp only [List.map_toArray, List.map_cons, List.map_nil]; rfl) ?_
        with_reducible refine (qwrite_ B6.out HS.out HOK.out HK.out HLE.out pp HPN.out HCX.out).mono ?_
        rintro e w7 ⟨rfl, hS7⟩
        refine ⟨_, rfl, ?_⟩
        have B7 := Aside0.mk hS7
        clear hS7
        refine hK.out _ _ ?_
        clear hK K
        refine norm_ (a' := ?_) ?_ ?_
        rotate_left
        · show Act.put _ (some 47) _ = _
          simp only [aP]
          rfl
        refine done_ (by kernel_rfl) ?_
        clear z5 f5
        have z5 := (B7.out.at4.cell 5).trans rfl
        obtain ⟨f5a, f5b⟩ := B7.out.at5.rowCell (enc := Value.bool) false j (by omega)
        have B8 := Aside0.mk (B7.out.at5.putRow (enc := Value.bool) j false)
        go_wp2_with fail
        go_roundg (gk - 1)
        case measure => have := AK.out; omega
        case rel => exact ⟨j + 1, by go_num, by have := AK.out; omega, by rw [HDS.out, ← HNL.out.2]; exact B8.out.to5⟩
    case neg =>
    obtain rfl : j = N := by omega
    have hjl : ¬ (j : Int) < (j : Int) := by omega
    have z0 := (AS.out.at4.cell 0).trans rfl
    obtain ⟨ds, hds⟩ : ∃ l, none :: homeD a pages (nmL nm j) = l := ⟨_, rfl⟩
    have HOK : Aside0 (OkD n ds) := ⟨by rw [← hds]; exact pre_ok HR.out HPG.out (fun q hq => nmL_lt hq)⟩
    have HLE : Aside0 (d + ds.length ≤ 1000100) := ⟨by have h1 := nmL_len nm j; have h2 := HD.out; have h3 := HNU.out; rw [← hds, List.length_cons, homeD_len]; omega⟩
    have HDS := Aside0.mk hds
    rw [hds, nmZ_all HNM.out] at AS
    clear hjk cj hds
    go_wp2_with fail
    refine (qflush_ AS.out HS.out HOK.out HK.out (by have := HLE.out; omega)).mono ?_
    rintro e w4 ⟨rfl, hS4⟩
    have B4 := Aside0.mk hS4.at4
    clear hS4 z0
    have z3 := (B4.out.cell 3).trans rfl
    have f3 := B4.out.frozen 3
    obtain ⟨E, hE⟩ : ∃ E, ep + 1 = E := ⟨_, rfl⟩
    have HE := Aside0.mk hE
    have HEB : Aside0 (0 ≤ E ∧ E ≤ 4294967295) := ⟨by have := HEP.out; have := HNU.out; omega⟩
    have B5 := Aside0.mk (B4.out.setBlk 3 (.int .u32 E))
    have hu1 : IntKind.u32.wrap (ep + 1) = E := by have := HEP.out; have := HNU.out; rw [IntKind.wrap_u32]; omega
    obtain ⟨jj, hjj⟩ := Int.eq_ofNat_of_zero_le (show 0 ≤ E % 2 by omega)
    have HJJ : Aside0 (((ep + 1) % 2).toNat = jj) := ⟨by rw [hE, hjj, Int.toNat_natCast]⟩
    have HJN : Aside0 (jj < n) := ⟨by have := HNU.out; omega⟩
    have hjt : E.tmod 2 = (jj : Int) := by rw [Int.tmod_eq_emod_of_nonneg HEB.out.1]; exact hjj
    have hjw : IntKind.i64.wrap (jj : Int) = (jj : Int) := by rw [IntKind.wrap_i64]; omega
    have hjw2 : IntKind.u32.wrap (jj : Int) = (jj : Int) := by rw [IntKind.wrap_u32]; omega
    clear hE hep3 hep2
    go_upto_region 13 with fail
    obtain ⟨w5, hw5⟩ : ∃ x, w4.setCell ⟨gx, 3, none⟩ (.int .u32 E) = x := ⟨_, rfl⟩
    rw [hw5] at B5 ⊢
    have B6 : Aside0 (Sep w0 w5.drew _) := ⟨B5.out.drew⟩
    clear hw5 B5 z3 f3 hu1
    refine start_ (n := 17) (S := fun w' => w'.cell? ⟨gx, 0, none⟩ = some (.pointer (some ⟨gr, 0, none⟩)) ∧ w'.cell? ⟨gx, 1, none⟩ = some (.int .i64 (a : Int)) ∧ w'.cell? ⟨gx, 2, none⟩ = some (.int .i64 (j : Int)) ∧ w'.cell? ⟨gx, 3, none⟩ = some (.int .u32 E)) (ds := [16]) #[Z,Z,Z,Z,Z,Z,Z,Z,Z,Z,Z,Z,Z,Z,Z,Z,Z] (by kernel_rfl) rfl rfl ⟨(B6.out.cell 0).trans rfl, (B6.out.cell 1).trans rfl, (B6.out.cell 2).trans rfl, (B6.out.cell 3).trans rfl⟩ (fun hHeld => ?_)
    refine pu_ 0 69 ?_ #[J,Z,Z,Z,Z,Z,Z,Z,Z,Z,Z,Z,Z,Z,Z,Z,Z] rfl rfl ?_ ?_ ?_ ?_
    rotate_left
    · intro w'
      go_simp
      with_reducible rfl
    rotate_left
    · simp only [aP]
      rfl
    refine pu_ 1 70 ?_ #[J,J,Z,Z,Z,Z,Z,Z,Z,Z,Z,Z,Z,Z,Z,Z,Z] rfl rfl ?_ ?_ ?_ ?_
    rotate_left
    · intro w'
      go_simp
      with_reducible rfl
    rotate_left
    · simp only [aP]
      rfl
    refine pu_ 2 71 ?_ #[J,J,J,Z,Z,Z,Z,Z,Z,Z,Z,Z,Z,Z,Z,Z,Z] rfl rfl ?_ ?_ ?_ ?_
    rotate_left
    · intro w'
      go_simp
      with_reducible rfl
    rotate_left
    · simp only [aP]
      rfl
    refine pu_ 4 73 ?_ #[J,J,J,Z,J,Z,Z,Z,Z,Z,Z,Z,Z,Z,Z,Z,Z] rfl rfl ?_ ?_ ?_ ?_
    rotate_left
    · intro w'
      go_simp
      with_reducible rfl
    rotate_left
    · simp only [aP]
      rfl
    refine pu_ 5 74 ?_ #[J,J,J,Z,J,J,Z,Z,Z,Z,Z,Z,Z,Z,Z,Z,Z] rfl rfl ?_ ?_ ?_ ?_
    rotate_left
    · intro w'
      go_simp
      with_reducible rfl
    rotate_left
    · simp only [aP]
      rfl
    refine pu_ 6 75 ?_ #[J,J,J,Z,J,J,J,Z,Z,Z,Z,Z,Z,Z,Z,Z,Z] rfl rfl ?_ ?_ ?_ ?_
    rotate_left
    · intro w'
      go_simp
      with_reducible rfl
    rotate_left
    · simp only [aP]
      rfl
    refine pu_ 7 76 ?_ #[J,J,J,Z,J,J,J,J,Z,Z,Z,Z,Z,Z,Z,Z,Z] rfl rfl ?_ ?_ ?_ ?_
    rotate_left
    · intro w'
      go_simp
      with_reducible rfl
    rotate_left
    · simp only [aP]
      rfl
    refine pu_ 11 80 ?_ #[J,J,J,Z,J,J,J,J,Z,Z,Z,J,Z,Z,Z,Z,Z] rfl rfl ?_ ?_ ?_ ?_
    rotate_left
    · intro w'
      go_simp
      with_reducible rfl
    rotate_left
    · simp only [aP]
      rfl
    refine pu_ 12 81 ?_ #[J,J,J,Z,J,J,J,J,Z,Z,Z,J,J,Z,Z,Z,Z] rfl rfl ?_ ?_ ?_ ?_
    rotate_left
    · intro w'
      go_simp
      with_reducible rfl
    rotate_left
    · simp only [aP]
      rfl
    refine pu_ 13 82 ?_ #[J,J,J,Z,J,J,J,J,Z,Z,Z,J,J,J,Z,Z,Z] rfl rfl ?_ ?_ ?_ ?_
    rotate_left
    · intro w'
      go_simp
      with_reducible rfl
    rotate_left
    · simp only [aP]
      rfl
    refine ta_ 3 72 ?_ #[J,J,J,J,J,J,J,J,Z,Z,Z,J,J,J,Z,Z,Z] rfl rfl ?_ hHeld ?_ ?_ ?_
    rotate_left
    · rintro w' ⟨s0, s1, s2, s3⟩
      go_simp
      with_reducible rfl
    rotate_left
    · simp only [aP]
      rfl
    refine ta_ 8 77 ?_ #[J,J,J,J,J,J,J,J,J,Z,Z,J,J,J,Z,Z,Z] rfl rfl ?_ hHeld ?_ ?_ ?_
    rotate_left
    · rintro w' ⟨s0, s1, s2, s3⟩
      go_simp
      with_reducible rfl
    rotate_left
    · simp only [aP]
      rfl
    refine pu_ 9 78 ?_ #[J,J,J,J,J,J,J,J,J,J,Z,J,J,J,Z,Z,Z] rfl rfl ?_ ?_ ?_ ?_
    rotate_left
    · intro w'
      go_simp
      with_reducible rfl
    rotate_left
    · simp only [aP]
      rfl
    refine pu_ 10 79 ?_ #[J,J,J,J,J,J,J,J,J,J,J,J,J,J,Z,Z,Z] rfl rfl ?_ ?_ ?_ ?_
    rotate_left
    · intro w'
      go_simp
      with_reducible rfl
    rotate_left
    · simp only [aP]
      rfl
    refine ta_ 14 83 ?_ #[J,J,J,J,J,J,J,J,J,J,J,J,J,J,J,Z,Z] rfl rfl ?_ hHeld ?_ ?_ ?_
    rotate_left
    · rintro w' ⟨s0, s1, s2, s3⟩
      go_simp
      with_reducible rfl
    rotate_left
    · simp only [aP]
      rfl
    refine one_ (i := 15) (N := some 84) #[J,J,J,J,J,J,J,J,J,J,J,J,J,J,J,J,Z] rfl rfl (by kernel_rfl) (by decide) (fun K hK => ?_)
    refine goes_ Tryz.func45 (by kernel_rfl) rfl #[.agg #[.int .i64 (a : Int), .int .i64 (j : Int), .int .u32 E]] (by rfl) rfl rfl (by simp only [List.map_toArray, List.map_cons, List.map_nil]; rfl) ?_
    with_reducible refine (rroot_ (a : Int) (j : Int) E HEB.out _).mono ?_
    rintro e w6 ⟨v6, rfl, hS6⟩
    refine ⟨_, rfl, ?_⟩
    obtain ⟨R6, hR6⟩ : ∃ R, rootF (m32 (a : Int)) (m32 (j : Int)) E = R := ⟨_, rfl⟩
    have HR6 := Aside0.mk hR6
    have HR6L : Aside0 (R6.length = 64) := ⟨by rw [← hR6]; exact rootF_len _ _ _⟩
    rw [hR6] at hS6
    obtain ⟨A6, c6, rfl⟩ := hS6.rowN HR6L.out
    have B7 := Aside0.mk (B6.out.lift1 hS6)
    clear hS6 hR6
    refine hK.out _ _ ⟨(B7.out.at2.cell 0).trans rfl, (B7.out.at2.cell 1).trans rfl, (B7.out.at2.cell 2).trans rfl, (B7.out.at2.cell 3).trans rfl⟩ (fun hHeld => ?_)
    clear hK K
    refine norm_ (a' := ?_) ?_ ?_
    rotate_left
    · show Act.put _ (some 84) _ = _
      simp only [aP]
      rfl
    refine last_ (i := 16) (N := some 85) #[J,J,J,J,J,J,J,J,J,J,J,J,J,J,J,J,J] rfl rfl (by kernel_rfl) (by decide) (fun K hK => ?_)
    refine goes_ Tryz.func79 (by kernel_rfl) rfl #[.pointer (some ⟨gr, 0, none⟩), .int .i64 (jj : Int), .slice A6 64 c6] (by rfl) rfl rfl (by simp only [List.map_toArray, List.map_cons, List.map_nil]; rfl) ?_
    with_reducible refine (qwrite_ (b := R6) B7.out.at3 HS.out HOK.out.flush HK.out (by have := HLE.out; rw [List.length_append, List.length_singleton]; omega) jj HJN.out (fun W' hW => hW.rowC')).mono ?_
    rintro e w7 ⟨rfl, hS7⟩
    refine ⟨_, rfl, ?_⟩
    have B8 := Aside0.mk hS7
    clear hS7
    refine hK.out _ _ ?_
    clear hK K
    refine norm_ (a' := ?_) ?_ ?_
    rotate_left
    · show Act.put _ (some 85) _ = _
      simp only [aP]
      rfl
    refine done_ (by kernel_rfl) ?_
    have z0 := (B8.out.at3.cell 0).trans rfl
    clear hjt hjw hjw2
    go_wp2_with fail
    refine (qflush_ B8.out HS.out (HOK.out.flush.write HJN.out HR6L.out) HK.out (by have := HLE.out; rw [List.length_append, List.length_append, List.length_singleton, List.length_singleton]; omega)).mono ?_
    rintro e w8 ⟨rfl, hS8⟩
    have HDD : Aside0 (((ds ++ [none]) ++ [some (jj, R6)]) ++ [none] = chkD a j ep pages (nmL nm j)) := ⟨by
      unfold chkD rootD
      rw [← HDS.out, HJJ.out, HE.out, HR6.out]
      simp⟩
    rw [HDD.out] at hS8
    have B10 := Aside0.mk hS8.at3
    clear hS8 z0
    have z6 := (B10.out.cell 6).trans rfl
    have f6 := B10.out.frozen 6
    have B11 := Aside0.mk (B10.out.setBlk 6 (.int .i64 0))
    have z7 := (B11.out.cell 7).trans rfl
    have f7 := B11.out.frozen 7
    have B12 := Aside0.mk (B11.out.setBlk 7 (.int .u32 0))
    go_wp2_with fail
    go_ret
    refine ⟨by first | rfl | (simp; done), ?_⟩
    rw [HE.out]
    have h3 := Sep.pull [_, _, _, _] (Sep.pull [_, _, _, _] B12.out)
    have h5 := Sep.pull [_, _, _, _] (Sep.rowV_shut h3)
    have h7 := rstb_shut (by rw [List.length_replicate, HN.out]; have := HNU.out; exact ⟨rfl, by omega, by omega⟩) h5.turn3
    exact h7.at3.tail
end
end Go.Proofs.YtjngnigelkgekaaGreat.RStore
namespace Go.Proofs.YtjngnigelkgekaaGreat.Ref
open Go.RowKit Go.Proofs.YtjngnigelkgekaaGreatW.PrintWords Go.Proofs.YtjngnigelkgekaaGreatW.PrintLast Go.Proofs.YtjngnigelkgekaaGreatW.PrintMore Go.Proofs.YtjngnigelkgekaaGreat.Kit Go.Proofs.YtjngnigelkgekaaGreat.Disk
set_option maxHeartbeats 400000 in
theorem ofnone_ {A : Option Addr} {k c : Nat} {w : World} (hm : k ≤ 9223372036854775807) (hb : k = 0 ∨ k % 64 ≠ 0 ∨ 10240 < k) :
    Calls Tryz.prog 56 #[.slice A k c] w fun e w' => e = .returned (.pointer none) ∧ w = w' := by
  have hq : ((k : Int)).tdiv 64 = ((k / 64 : Nat) : Int) := by rw [Int.tdiv_eq_ediv_of_nonneg (by omega)]; omega
  have hr : ((k : Int)).tmod 64 = ((k % 64 : Nat) : Int) := by rw [Int.tmod_eq_emod_of_nonneg (by omega)]; omega
  generalize hqe : k / 64 = q at *
  generalize hre : k % 64 = r at *
  by_cases b1 : r = 0
  · subst b1
    by_cases b2 : (q : Int) < 1
    · clear hb
      go_enter Tryz.func56, Tryz.ntmps56
      go_wp2
      go_ret
      exact ⟨by first | rfl | (simp; done), rfl⟩
    · have b3 : 160 < (q : Int) := by omega
      clear hb
      go_enter Tryz.func56, Tryz.ntmps56
      go_wp2
      go_ret
      exact ⟨by first | rfl | (simp; done), rfl⟩
  · have b4 : ((r : Int) != 0) = true := by simp; omega
    have b5 : ¬ (r : Int) = 0 := by omega
    clear hb
    go_enter Tryz.func56, Tryz.ntmps56
    go_wp2
    go_ret
    exact ⟨by first | rfl | (simp; done), rfl⟩
end Go.Proofs.YtjngnigelkgekaaGreat.Ref
namespace Go.Proofs.YtjngnigelkgekaaGreat.Ref
open Go.RowKit Go.Proofs.YtjngnigelkgekaaGreatW.PrintWords Go.Proofs.YtjngnigelkgekaaGreatW.PrintLast Go.Proofs.YtjngnigelkgekaaGreatW.PrintMore Go.Proofs.YtjngnigelkgekaaGreat.Kit Go.Proofs.YtjngnigelkgekaaGreat.Disk
section
variable {w0 W : World} {g gr n : Nat} {las : List Int} {left done : Int} {F : List HP} {wt : Wt}
set_option maxHeartbeats 3200000 in
set_option maxRecDepth 100000 in
theorem alike18_ (h : Sep w0 W (Dsk g las wt :: RD gr n las (flushed las wt) (waitL n wt) left done :: F)) (hl : las.length = 64 * n) :
    Calls Tryz.prog 46 #[.pointer (some ⟨g, 0, none⟩), .pointer (some ⟨gr, 0, none⟩)] W fun e w' => e = .returned (.bool true) ∧ Sep w0 w' (Dsk g las wt :: RD gr n las (flushed las wt) (waitL n wt) left done :: F) := by
  have H0 := Aside0.mk h
  obtain ⟨gl, cl, gn, cn, gw, cw, ⟨n1, n2, n3, n4, n5, n6, n7, n8⟩, hs⟩ := open_ h.drew.at2
  have AS := Aside0.mk hs
  have HN := Aside0.mk (And.intro n3 (And.intro n4 n5))
  have HL := Aside0.mk hl
  have c0 : W.drew.cell? ⟨gr, 0, none⟩ = some (.slice (some ⟨gl, 0, none⟩) (64 * n) cl) := (hs.cell 0).trans rfl
  have c1 : W.drew.cell? ⟨gr, 1, none⟩ = some (.slice (some ⟨gn, 0, none⟩) (64 * n) cn) := (hs.cell 1).trans rfl
  have s0 := str_ hs.at2
  have s1 := str_ hs.at3
  clear h hs n3 n4 n5 hl
  go_enter Tryz.func46, Tryz.ntmps46
  go_wp2_with fail
  refine start_ (n := 28) (S := fun w' => w'.cell? ⟨gr, 0, none⟩ = some (.slice (some ⟨gl, 0, none⟩) (64 * n) cl) ∧ w'.cell? ⟨gr, 1, none⟩ = some (.slice (some ⟨gn, 0, none⟩) (64 * n) cn) ∧ (convert 24 9 (.slice (some ⟨gl, 0, none⟩) (64 * n) cl)).run Tryz.prog w' = .ok (.string (strOfNums las)) w' ∧ (convert 24 9 (.slice (some ⟨gn, 0, none⟩) (64 * n) cn)).run Tryz.prog w' = .ok (.string (strOfNums (flushed las wt))) w') (ds := [24, 25]) #[Z,Z,Z,Z,Z,Z,Z,Z,Z,Z,Z,Z,Z,Z,Z,Z,Z,Z,Z,Z,Z,Z,Z,Z,Z,Z,Z,Z] (by kernel_rfl) rfl rfl ⟨c0, c1, s0, s1⟩ (fun hHeld => ?_)
  refine pu_ 0 5 ?_ #[J,Z,Z,Z,Z,Z,Z,Z,Z,Z,Z,Z,Z,Z,Z,Z,Z,Z,Z,Z,Z,Z,Z,Z,Z,Z,Z,Z] rfl rfl ?_ ?_ ?_ ?_
  rotate_left
  · intro w'
    go_simp
    with_reducible rfl
  rotate_left
  · simp only [aP]
    rfl
  refine pu_ 3 8 ?_ #[J,Z,Z,J,Z,Z,Z,Z,Z,Z,Z,Z,Z,Z,Z,Z,Z,Z,Z,Z,Z,Z,Z,Z,Z,Z,Z,Z] rfl rfl ?_ ?_ ?_ ?_
  rotate_left
  · intro w'
    go_simp
    with_reducible rfl
  rotate_left
  · simp only [aP]
    rfl
  refine pu_ 4 9 ?_ #[J,Z,Z,J,J,Z,Z,Z,Z,Z,Z,Z,Z,Z,Z,Z,Z,Z,Z,Z,Z,Z,Z,Z,Z,Z,Z,Z] rfl rfl ?_ ?_ ?_ ?_
  rotate_left
  · intro w'
    go_simp
    with_reducible rfl
  rotate_left
  · simp only [aP]
    rfl
  refine pu_ 5 10 ?_ #[J,Z,Z,J,J,J,Z,Z,Z,Z,Z,Z,Z,Z,Z,Z,Z,Z,Z,Z,Z,Z,Z,Z,Z,Z,Z,Z] rfl rfl ?_ ?_ ?_ ?_
  rotate_left
  · intro w'
    go_simp
    with_reducible rfl
  rotate_left
  · simp only [aP]
    rfl
  refine ta_ 6 11 ?_ #[J,Z,Z,J,J,J,J,Z,Z,Z,Z,Z,Z,Z,Z,Z,Z,Z,Z,Z,Z,Z,Z,Z,Z,Z,Z,Z] rfl rfl ?_ hHeld ?_ ?_ ?_
  rotate_left
  · rintro w' ⟨s0, s1, s2, s3⟩
    go_simp
    with_reducible rfl
  rotate_left
  · simp only [aP]
    rfl
  refine ta_ 7 12 ?_ #[J,Z,Z,J,J,J,J,J,Z,Z,Z,Z,Z,Z,Z,Z,Z,Z,Z,Z,Z,Z,Z,Z,Z,Z,Z,Z] rfl rfl ?_ hHeld ?_ ?_ ?_
  rotate_left
  · rintro w' ⟨s0, s1, s2, s3⟩
    go_simp
    with_reducible rfl
  rotate_left
  · simp only [aP]
    rfl
  refine one_ (i := 1) (N := some 6) #[J,J,Z,J,J,J,J,J,Z,Z,Z,Z,Z,Z,Z,Z,Z,Z,Z,Z,Z,Z,Z,Z,Z,Z,Z,Z] rfl rfl (by kernel_rfl) (by decide) (fun K hK => ?_)
  refine goes_ Tryz.func21 (by kernel_rfl) rfl #[.pointer (some ⟨g, 0, none⟩)] (by rfl) rfl rfl (by simp only [List.map_toArray, List.map_cons, List.map_nil]; rfl) ?_
  with_reducible refine (image_ (W := W.drew) AS.out.at5).mono ?_
  rintro e w3 ⟨v3, rfl, hS3⟩
  refine ⟨_, rfl, ?_⟩
  obtain ⟨A3, c3, rfl⟩ := hS3.rowN HL.out
  have hs3 := str_ hS3
  have AS3 := Aside0.mk hS3.tail
  clear hS3
  refine hK.out _ _ ⟨(AS3.out.at2.cell 0).trans rfl, (AS3.out.at2.cell 1).trans rfl, str_ AS3.out.at3, str_ AS3.out.at4⟩ (fun hHeld => ?_)
  clear hK K
  refine norm_ (a' := ?_) ?_ ?_
  rotate_left
  · show Act.put _ (some 6) _ = _
    simp only [aP]
    rfl
  refine one_ (i := 2) (N := some 7) #[J,J,J,J,J,J,J,J,Z,Z,Z,Z,Z,Z,Z,Z,Z,Z,Z,Z,Z,Z,Z,Z,Z,Z,Z,Z] rfl rfl (by kernel_rfl) (by decide) (fun K hK => ?_)
  refine value_ (w1 := ?_) (v := ?_) (by rfl) rfl ?_ ?_
  rotate_left 2
  · go_simp
    constructor
    · rfl
    · rfl
  refine hK.out _ _ ⟨(AS3.out.at2.cell 0).trans rfl, (AS3.out.at2.cell 1).trans rfl, str_ AS3.out.at3, str_ AS3.out.at4⟩ (fun hHeld => ?_)
  clear hK K
  refine norm_ (a' := ?_) ?_ ?_
  rotate_left
  · show Act.put _ (some 7) _ = _
    simp only [aP]
    rfl
  refine pu_ 8 13 ?_ #[J,J,J,J,J,J,J,J,J,Z,Z,Z,Z,Z,Z,Z,Z,Z,Z,Z,Z,Z,Z,Z,Z,Z,Z,Z] rfl rfl ?_ ?_ ?_ ?_
  rotate_left
  · intro w'
    go_simp
    with_reducible rfl
  rotate_left
  · simp only [aP]
    rfl
  refine pu_ 9 14 ?_ #[J,J,J,J,J,J,J,J,J,J,Z,Z,Z,Z,Z,Z,Z,Z,Z,Z,Z,Z,Z,Z,Z,Z,Z,Z] rfl rfl ?_ ?_ ?_ ?_
  rotate_left
  · intro w'
    go_simp
    with_reducible rfl
  rotate_left
  · simp only [aP]
    rfl
  refine pu_ 10 15 ?_ #[J,J,J,J,J,J,J,J,J,J,J,Z,Z,Z,Z,Z,Z,Z,Z,Z,Z,Z,Z,Z,Z,Z,Z,Z] rfl rfl ?_ ?_ ?_ ?_
  rotate_left
  · intro w'
    go_simp
    with_reducible rfl
  rotate_left
  · simp only [aP]
    rfl
  refine pu_ 13 18 ?_ #[J,J,J,J,J,J,J,J,J,J,J,Z,Z,J,Z,Z,Z,Z,Z,Z,Z,Z,Z,Z,Z,Z,Z,Z] rfl rfl ?_ ?_ ?_ ?_
  rotate_left
  · intro w'
    go_simp
    with_reducible rfl
  rotate_left
  · simp only [aP]
    rfl
  refine pu_ 14 19 ?_ #[J,J,J,J,J,J,J,J,J,J,J,Z,Z,J,J,Z,Z,Z,Z,Z,Z,Z,Z,Z,Z,Z,Z,Z] rfl rfl ?_ ?_ ?_ ?_
  rotate_left
  · intro w'
    go_simp
    with_reducible rfl
  rotate_left
  · simp only [aP]
    rfl
  refine pu_ 15 20 ?_ #[J,J,J,J,J,J,J,J,J,J,J,Z,Z,J,J,J,Z,Z,Z,Z,Z,Z,Z,Z,Z,Z,Z,Z] rfl rfl ?_ ?_ ?_ ?_
  rotate_left
  · intro w'
    go_simp
    with_reducible rfl
  rotate_left
  · simp only [aP]
    rfl
  refine ta_ 16 21 ?_ #[J,J,J,J,J,J,J,J,J,J,J,Z,Z,J,J,J,J,Z,Z,Z,Z,Z,Z,Z,Z,Z,Z,Z] rfl rfl ?_ hHeld ?_ ?_ ?_
  rotate_left
  · rintro w' ⟨s0, s1, s2, s3⟩
    go_simp
    with_reducible rfl
  rotate_left
  · simp only [aP]
    rfl
  refine ta_ 17 22 ?_ #[J,J,J,J,J,J,J,J,J,J,J,Z,Z,J,J,J,J,J,Z,Z,Z,Z,Z,Z,Z,Z,Z,Z] rfl rfl ?_ hHeld ?_ ?_ ?_
  rotate_left
  · rintro w' ⟨s0, s1, s2, s3⟩
    go_simp
    with_reducible rfl
  rotate_left
  · simp only [aP]
    rfl
  refine one_ (i := 11) (N := some 16) #[J,J,J,J,J,J,J,J,J,J,J,J,Z,J,J,J,J,J,Z,Z,Z,Z,Z,Z,Z,Z,Z,Z] rfl rfl (by kernel_rfl) (by decide) (fun K hK => ?_)
  refine goes_ Tryz.func90 (by kernel_rfl) rfl #[.pointer (some ⟨g, 0, none⟩)] (by rfl) rfl rfl (by simp only [List.map_toArray, List.map_cons, List.map_nil]; rfl) ?_
  with_reducible refine (seen_ AS3.out).mono ?_
  rintro e w4 ⟨v4, rfl, hS4⟩
  refine ⟨_, rfl, ?_⟩
  obtain ⟨A4, c4, rfl⟩ := hS4.rowN HN.out.2.1
  have hs4 := str_ hS4
  have AS4 := Aside0.mk hS4.tail
  clear hS4
  refine hK.out _ _ ⟨(AS4.out.at2.cell 0).trans rfl, (AS4.out.at2.cell 1).trans rfl, str_ AS4.out.at3, str_ AS4.out.at4⟩ (fun hHeld => ?_)
  clear hK K
  refine norm_ (a' := ?_) ?_ ?_
  rotate_left
  · show Act.put _ (some 16) _ = _
    simp only [aP]
    rfl
  refine one_ (i := 12) (N := some 17) #[J,J,J,J,J,J,J,J,J,J,J,J,J,J,J,J,J,J,Z,Z,Z,Z,Z,Z,Z,Z,Z,Z] rfl rfl (by kernel_rfl) (by decide) (fun K hK => ?_)
  refine value_ (w1 := ?_) (v := ?_) (by rfl) rfl ?_ ?_
  rotate_left 2
  · go_simp
    constructor
    · rfl
    · rfl
  refine hK.out _ _ ⟨(AS4.out.at2.cell 0).trans rfl, (AS4.out.at2.cell 1).trans rfl, str_ AS4.out.at3, str_ AS4.out.at4⟩ (fun hHeld => ?_)
  clear hK K
  refine norm_ (a' := ?_) ?_ ?_
  rotate_left
  · show Act.put _ (some 17) _ = _
    simp only [aP]
    rfl
  refine pu_ 18 23 ?_ #[J,J,J,J,J,J,J,J,J,J,J,J,J,J,J,J,J,J,J,Z,Z,Z,Z,Z,Z,Z,Z,Z] rfl rfl ?_ ?_ ?_ ?_
  rotate_left
  · intro w'
    go_simp
    with_reducible rfl
  rotate_left
  · simp only [aP]
    rfl
  refine pu_ 19 24 ?_ #[J,J,J,J,J,J,J,J,J,J,J,J,J,J,J,J,J,J,J,J,Z,Z,Z,Z,Z,Z,Z,Z] rfl rfl ?_ ?_ ?_ ?_
  rotate_left
  · intro w'
    go_simp
    with_reducible rfl
  rotate_left
  · simp only [aP]
    rfl
  refine pu_ 20 25 ?_ #[J,J,J,J,J,J,J,J,J,J,J,J,J,J,J,J,J,J,J,J,J,Z,Z,Z,Z,Z,Z,Z] rfl rfl ?_ ?_ ?_ ?_
  rotate_left
  · intro w'
    go_simp
    with_reducible rfl
  rotate_left
  · simp only [aP]
    rfl
  refine pu_ 21 26 ?_ #[J,J,J,J,J,J,J,J,J,J,J,J,J,J,J,J,J,J,J,J,J,J,Z,Z,Z,Z,Z,Z] rfl rfl ?_ ?_ ?_ ?_
  rotate_left
  · intro w'
    go_simp
    with_reducible rfl
  rotate_left
  · simp only [aP]
    rfl
  refine pu_ 23 28 ?_ #[J,J,J,J,J,J,J,J,J,J,J,J,J,J,J,J,J,J,J,J,J,J,Z,J,Z,Z,Z,Z] rfl rfl ?_ ?_ ?_ ?_
  rotate_left
  · intro w'
    go_simp
    with_reducible rfl
  rotate_left
  · simp only [aP]
    rfl
  refine one_ (i := 22) (N := some 27) #[J,J,J,J,J,J,J,J,J,J,J,J,J,J,J,J,J,J,J,J,J,J,J,J,Z,Z,Z,Z] rfl rfl (by kernel_rfl) (by decide) (fun K hK => ?_)
  refine goes_ Tryz.func57 (by kernel_rfl) rfl #[.pointer (some ⟨g, 0, none⟩)] (by rfl) rfl rfl (by simp only [List.map_toArray, List.map_cons, List.map_nil]; rfl) ?_
  with_reducible refine (Disk.waits_ AS4.out).mono ?_
  rintro e w5 ⟨v5, rfl, hS5⟩
  refine ⟨_, rfl, ?_⟩
  obtain ⟨A5, c5, rfl⟩ := hS5.rowV
  have AS5 := Aside0.mk hS5
  clear hS5
  refine hK.out _ _ ⟨(AS5.out.at3.cell 0).trans rfl, (AS5.out.at3.cell 1).trans rfl, str_ AS5.out.at4, str_ AS5.out.at5⟩ (fun hHeld => ?_)
  clear hK K
  refine norm_ (a' := ?_) ?_ ?_
  rotate_left
  · show Act.put _ (some 27) _ = _
    simp only [aP]
    rfl
  refine last_ (i := 24) (N := some 29) #[J,J,J,J,J,J,J,J,J,J,J,J,J,J,J,J,J,J,J,J,J,J,J,J,J,Z,Z,Z] rfl rfl (by kernel_rfl) (by decide) (fun K hK => ?_)
  refine goes_ Tryz.func59 (by kernel_rfl) rfl #[.pointer (some ⟨gr, 0, none⟩)] (by rfl) rfl rfl (by simp only [List.map_toArray, List.map_cons, List.map_nil]; rfl) ?_
  with_reducible refine (rwaits_ (n := n) (left := left) (done := done) (las := las) (wt := wt) (F := Dsk g las wt :: Row I64 3 (.slice A5 (keysI las wt).length c5) (keysI las wt) :: F) (W := w5) (w0 := w0) (shut_ n1 n2 HN.out.1 HN.out.2.1 HN.out.2.2 (AS5.out.at2.rot24)) HL.out).mono ?_
  rintro e w6 ⟨v6, rfl, hS6⟩
  refine ⟨_, rfl, ?_⟩
  obtain ⟨A6, c6, rfl⟩ := hS6.rowV
  have AS6 := Aside0.mk hS6
  clear hS6
  refine hK.out _ _ ?_
  clear hK K
  refine norm_ (a' := ?_) ?_ ?_
  rotate_left
  · show Act.put _ (some 29) _ = _
    simp only [aP]
    rfl
  refine last_ (i := 25) (N := some 30) #[J,J,J,J,J,J,J,J,J,J,J,J,J,J,J,J,J,J,J,J,J,J,J,J,J,J,Z,Z] rfl rfl (by kernel_rfl) (by decide) (fun K hK => ?_)
  refine goes_ Tryz.func91 (by kernel_rfl) rfl #[.slice A5 (keysI las wt).length c5, .slice A6 (keysI las wt).length c6] (by rfl) rfl rfl (by simp only [List.map_toArray, List.map_cons, List.map_nil]; rfl) ?_
  with_reducible refine (bsame_ (w := w6) AS6.out.at4.rowC.2.2 AS6.out.rowC.2.2).mono ?_
  rintro e w7 ⟨rfl, hb7⟩
  refine ⟨_, rfl, ?_⟩
  have AS7 := Aside0.mk (AS6.out.below hb7)
  clear hb7
  refine hK.out _ _ ?_
  clear hK K
  refine norm_ (a' := ?_) ?_ ?_
  rotate_left
  · show Act.put _ (some 30) _ = _
    simp only [aP]
    rfl
  refine pu_ 26 31 ?_ #[J,J,J,J,J,J,J,J,J,J,J,J,J,J,J,J,J,J,J,J,J,J,J,J,J,J,J,Z] rfl rfl ?_ ?_ ?_ ?_
  rotate_left
  · intro w'
    go_simp
    with_reducible rfl
  rotate_left
  · simp only [aP]
    rfl
  refine pu_ 27 4 ?_ #[J,J,J,J,J,J,J,J,J,J,J,J,J,J,J,J,J,J,J,J,J,J,J,J,J,J,J,J] rfl rfl ?_ ?_ ?_ ?_
  rotate_left
  · intro w'
    go_simp
    with_reducible rfl
  rotate_left
  · simp only [aP]
    rfl
  refine done_ (by kernel_rfl) ?_
  go_wp2_with fail
  go_ret
  exact ⟨by first | rfl | (simp; done), AS7.out.tail.at2.at3.tail⟩
end
end Go.Proofs.YtjngnigelkgekaaGreat.Ref
namespace Go.Proofs.YtjngnigelkgekaaGreat.Home
open Go.RowKit Go.Proofs.YtjngnigelkgekaaGreatW.PrintWords Go.Proofs.YtjngnigelkgekaaGreatW.PrintLast Go.Proofs.YtjngnigelkgekaaGreatW.PrintMore Go.Proofs.YtjngnigelkgekaaGreat.Kit Go.Proofs.YtjngnigelkgekaaGreat.Plain Go.Proofs.YtjngnigelkgekaaGreat.Disk Go.Proofs.YtjngnigelkgekaaGreat.Root
set_option maxHeartbeats 400000 in
theorem pair18_ {A : Option Addr} {m c n : Nat} {l : List Int} {w : World} (hr : U8.C w A m l) (hc : m ≤ c) (hm : m = 64 * n) (h1 : 1 ≤ n) (h2 : n ≤ 160) :
    Calls Tryz.prog 38 #[.slice A m c] w fun e w' => ∃ g gr, e = .returned (.tuple #[.pointer (some ⟨g, 0, none⟩), .pointer (some ⟨gr, 0, none⟩)]) ∧ Sep w w' [Dsk g l (fun _ => none), RT gr n l (fun _ => none) 0] := by
  have HR := Aside0.mk (And.intro hr (And.intro hc (And.intro hm (And.intro h1 h2))))
  clear hr hc hm h1 h2
  go_enter Tryz.func38, Tryz.ntmps38
  go_wp2_with fail
  refine (of_ok HR.out.1 HR.out.2.1 HR.out.2.2.1 HR.out.2.2.2.1 HR.out.2.2.2.2).mono ?_
  rintro e w1 ⟨g, rfl, hS1⟩
  have A1 := Aside0.mk hS1
  clear hS1
  go_wp2_with fail
  refine (Ref.of_ok (Kd.C_below HR.out.1 A1.out.toBelow) HR.out.2.2.1 HR.out.2.2.2.1 HR.out.2.2.2.2).mono ?_
  rintro e w2 ⟨gr, rfl, hS2⟩
  have A2 : Aside0 (Sep w w2 [Dsk g l (fun _ => none), RT gr n l (fun _ => none) 0]) := ⟨by
    show Sep w w2 [_, Ref.RD gr n l (flushed l (fun _ => none)) (Ref.waitL n (fun _ => none)) (-1) ((0 : Nat) : Int)]
    rw [flushed_none (n := n) (HR.out.1.1.trans HR.out.2.2.1), Ref.waitL_none]
    exact (A1.out.lift1 hS2).at2⟩
  clear hS2
  go_wp2_with fail
  go_ret2
  exact ⟨_, _, by first | rfl | (simp; done), A2.out⟩
set_option maxHeartbeats 400000 in
theorem pair18_none {A : Option Addr} {m c : Nat} {w : World} {l : List Int} (hr : U8.C w A m l) (hb : m = 0 ∨ m % 64 ≠ 0 ∨ 10240 < m) :
    Calls Tryz.prog 38 #[.slice A m c] w fun e w' => e = .returned (.tuple #[.pointer none, .pointer none]) ∧ w = w' := by
  have H0 := Aside0.mk hr
  have hn0 : m ≤ 9223372036854775807 := hr.2.1
  clear hr
  go_enter Tryz.func38, Tryz.ntmps38
  go_wp2_with fail
  refine (Disk.of_none H0.out hb).mono ?_
  rintro e w1 ⟨rfl, rfl⟩
  go_wp2_with fail
  refine (Ref.ofnone_ hn0 hb).mono ?_
  rintro e w1 ⟨rfl, rfl⟩
  go_wp2_with fail
  go_ret2
  exact ⟨by first | rfl | (simp; done), rfl⟩
end Go.Proofs.YtjngnigelkgekaaGreat.Home
