/- StLaw2, StLaw3, StLaw4, StMost, StFP, StKnown2, StFull, StOpens, Open: what StoreOpens needs. -/
import Derived.Test.YtjngnigelkgekaaTstoreOpens15
import Derived.Test.YtjngnigelkgekaaProg
import Derived.WalkKit
import Derived.ProofKit
import Derived.OpenShut
import Derived.ShutString
import Derived.ChangeOld
import Derived.Below
import Derived.SizedLaws
namespace Go.Proofs.Ytjngnigelkgekaa.Store
set_option linter.unusedVariables false
set_option linter.unusedSimpArgs false
open Go.RowKit Go.Proofs.YtjngnigelkgekaaW.PrintWords Go.Proofs.YtjngnigelkgekaaW.PrintLast Go.Proofs.YtjngnigelkgekaaW.PrintMore Go.Proofs.Ytjngnigelkgekaa.Kit Go.Proofs.Ytjngnigelkgekaa.Plain Go.Proofs.Ytjngnigelkgekaa.Disk Go.Proofs.Ytjngnigelkgekaa.Root
open Go.Proofs.Ytjngnigelkgekaa.Delta (Chg KC deltaF rightF okF undeltaF)
open Go.Proofs.Ytjngnigelkgekaa.Redo (recR logF logF_bytes)
open Go.Proofs.Ytjngnigelkgekaa.Home (pagesF pageF putP mayF atF may_in)
open Go.Proofs.Ytjngnigelkgekaa.Frame (frameF frameF_len readF scanF scanR ScanAt scan_start scan_none scan_some recsF longs longs_app recs_bytes scan_facts recs_len longs_len)
/-- Roots of a disk: the newer one lies where its epoch says; the other sector's is no newer. -/
structure Lay (n a b : Nat) (E : Int) (L : List Int) : Prop where
  len : L.length = 64 * n
  byt : Bytes L
  rgt : 1 ≤ a ∧ a ≤ 64 ∧ 1 ≤ b ∧ b ≤ 64 ∧ 2 + a + b ≤ n ∧ 1 ≤ E ∧ E ≤ 4294967295
  rt : sec L (E % 2).toNat = rootF (a : Int) (b : Int) E
  ot : ∀ r, unrootF (sec L ((E + 1) % 2).toNat) = some r → r.2.2 < E
theorem Lay.right {n a b : Nat} {E : Int} {L : List Int} (h : Lay n a b E L) : rightR (a : Int) (b : Int) E n = true := by
  have := h.rgt
  unfold rightR
  rw [decide_eq_true_eq]
  omega
theorem secF_no {n : Nat} {L : List Int} {j : Nat} (h : j < n) : secF n L noW j = sec L j := by
  unfold secF
  rw [if_pos h]; rfl
theorem Lay.unroot {n a b : Nat} {E : Int} {L : List Int} (h : Lay n a b E L) : unrootF (sec L (E % 2).toNat) = some ((a : Int), (b : Int), E) := by
  have := h.rgt
  rw [h.rt]
  exact unroot_root (by omega) (by omega) (by omega) (by omega) (by omega) (by omega)
theorem pick_take {n : Int} {best r : R3} {l : List Int} (h : unrootF l = some r) (hr : rightR r.1 r.2.1 r.2.2 n = true) (hb : best.2.2 < r.2.2) : pickF n best l = r := by
  unfold pickF
  rw [h]
  exact if_pos ⟨hr, hb⟩
theorem pick_keep {n : Int} {best : R3} {l : List Int} (h : ∀ r, unrootF l = some r → r.2.2 ≤ best.2.2) : pickF n best l = best := by
  unfold pickF
  cases hu : unrootF l with
  | none => rfl
  | some r => exact if_neg (fun h2 => by have := h r hu; omega)
theorem pick_low {n : Int} {l : List Int} {E : Int} (hE : 0 < E) (h : ∀ r, unrootF l = some r → r.2.2 < E) : (pickF n (0, 0, 0) l).2.2 < E := by
  unfold pickF
  cases hu : unrootF l with
  | none => exact hE
  | some r =>
    dsimp only
    split
    · exact h r hu
    · exact hE
theorem Lay.best {n a b : Nat} {E : Int} {L : List Int} (h : Lay n a b E L) : bestTo (n : Int) (secF n L noW) 2 = ((a : Int), (b : Int), E) := by
  have hr := h.rgt
  show pickF (n : Int) (pickF (n : Int) (0, 0, 0) (secF n L noW 0)) (secF n L noW 1) = _
  rw [secF_no (by omega), secF_no (by omega)]
  have hrt := h.right
  have hu := h.unroot
  have ho := h.ot
  rcases (show E % 2 = 0 ∨ E % 2 = 1 by omega) with h0 | h0
  · have h1 : (E + 1) % 2 = 1 := by omega
    rw [h0] at hu
    rw [h1] at ho
    rw [show pickF (n : Int) (0, 0, 0) (sec L 0) = ((a : Int), (b : Int), E) from pick_take hu hrt (by show (0 : Int) < E; omega)]
    exact pick_keep (fun r h2 => Int.le_of_lt (ho r h2))
  · have h1 : (E + 1) % 2 = 0 := by omega
    rw [h0] at hu
    rw [h1] at ho
    exact pick_take hu hrt (pick_low (E := E) (by omega) ho)
theorem Lay.pages {n a b : Nat} {E : Int} {L : List Int} (h : Lay n a b E L) : pagesF n L noW (a : Int) (b : Int) E = (List.range b).map (fun i : Nat => sec L (2 + a + i)) := by
  have hr := h.rgt
  unfold pagesF
  rw [if_pos h.right, Int.toNat_natCast]
  refine List.map_congr_left (fun i hi => ?_)
  have hi := List.mem_range.1 hi
  unfold pageF mayF
  rw [h.right, decide_eq_true (show (0 : Int) ≤ (i : Int) by omega), decide_eq_true (show (i : Int) < (b : Int) by omega)]
  show secF n L noW (atF (a : Int) (i : Int)) = _
  rw [show atF (a : Int) (i : Int) = 2 + a + i by unfold atF; omega]
  exact secF_no (by omega)
theorem Lay.log {n a b : Nat} {E : Int} {L : List Int} (h : Lay n a b E L) : logF n L noW (a : Int) (b : Int) E = secs a (fun i => sec L (2 + i)) := by
  have hr := h.rgt
  unfold logF
  rw [if_pos h.right, Int.toNat_natCast]
  exact secs_congr (fun i hi => secF_no (by omega))
theorem sec_bytes {L : List Int} (h : Bytes L) (i : Nat) : Bytes (sec L i) := by
  unfold sec
  exact (h.drop _).take _
theorem homeW_at {n a b : Nat} {E : Int} {pages : List (List Int)} (hr : rightR (a : Int) (b : Int) E n = true) (hp : ∀ k : Nat, k < b → (pages.getD k []).length = 64) : ∀ (ks : List Int) (wt : Wt), (∀ k ∈ ks, 0 ≤ k ∧ k < (b : Int)) → ∀ i, homeW n (a : Int) (b : Int) E pages ks wt i = if ∃ k ∈ ks, atF (a : Int) k = i then some (pages.getD (i - (2 + a)) []) else wt i
  | [], wt, _, i => by
    rw [if_neg (by rintro ⟨k, hk, -⟩; cases hk)]
    rfl
  | k :: t, wt, hk, i => by
    have h0 := hk k (List.mem_cons_self ..)
    obtain ⟨j, rfl⟩ := Int.eq_ofNat_of_zero_le h0.1
    show homeW n (a : Int) (b : Int) E pages t _ i = _
    rw [homeW_at hr hp t _ (fun x hx => hk x (List.mem_cons_of_mem _ hx)) i]
    by_cases h1 : ∃ k ∈ t, atF (a : Int) k = i
    · obtain ⟨k2, hk2, he⟩ := h1
      rw [if_pos ⟨k2, hk2, he⟩, if_pos ⟨k2, List.mem_cons_of_mem _ hk2, he⟩]
    · rw [if_neg h1]
      have hm : mayF n (a : Int) (b : Int) E (j : Int) = true := by
        unfold mayF
        rw [hr, decide_eq_true h0.1, decide_eq_true h0.2]; rfl
      have hat := (Home.home_at hm).2
      have hj : j < b := by omega
      have hpl := hp j hj
      unfold putP
      rw [if_pos hm, Int.toNat_natCast]
      unfold putW
      rw [if_pos ⟨hat, hpl⟩]
      by_cases h2 : i = atF (a : Int) (j : Int)
      · rw [if_pos h2, if_pos ⟨_, List.mem_cons_self .., h2.symm⟩]
        rw [h2, show atF (a : Int) (j : Int) - (2 + a) = j by unfold atF; omega]
      · rw [if_neg h2, if_neg]
        rintro ⟨k2, hk2, he⟩
        rcases List.mem_cons.1 hk2 with rfl | hk2
        · exact h2 he.symm
        · exact h1 ⟨k2, hk2, he⟩
theorem m32_nat {a : Nat} (h : a ≤ 64) : m32 (a : Int) = (a : Int) := by unfold m32; omega
theorem homeW_bytes {n : Nat} {a b E : Int} {pages : List (List Int)} (hp : ∀ k : Nat, Bytes (pages.getD k [])) : ∀ (ks : List Int) {wt : Wt}, (∀ i b, wt i = some b → Bytes b) → ∀ i c, homeW n a b E pages ks wt i = some c → Bytes c
  | [], _, h => h
  | k :: t, wt, h => homeW_bytes hp t (by
      unfold putP
      split
      · exact putW_bytes h (hp _)
      · exact h)
theorem getD_bytes {pages : List (List Int)} (hp : ∀ p ∈ pages, Bytes p) (k : Nat) : Bytes (pages.getD k []) := by
  rw [List.getD_eq_getElem?_getD]
  cases h : pages[k]? with
  | none => exact Bytes.nil
  | some x => exact hp x (List.mem_of_getElem? h)
/-- Behind a checkpoint. -/
theorem Lay.chk {n a b : Nat} {E : Int} {L : List Int} (h : Lay n a b E L) (hE : E < 4294967295) {pages : List (List Int)} {named : List Int} (hpl : pages.length = b) (hp : ∀ p ∈ pages, p.length = 64 ∧ Bytes p) (hk : ∀ k ∈ named, 0 ≤ k ∧ k < (b : Int)) (hst : ∀ k : Nat, k < b → (k : Int) ∉ named → pages.getD k [] = sec L (2 + a + k)) :
    Lay n a b (E + 1) (chkL n L noW (a : Int) (b : Int) E pages named) ∧ (∀ k : Nat, k < b → sec (chkL n L noW (a : Int) (b : Int) E pages named) (2 + a + k) = pages.getD k []) ∧ (∀ i, i < a → sec (chkL n L noW (a : Int) (b : Int) E pages named) (2 + i) = sec L (2 + i)) := by
  have hr := h.rgt
  have hrt := h.right
  have hp1 : ∀ k : Nat, k < b → (pages.getD k []).length = 64 := fun k hk => by
    rw [List.getD_eq_getElem?_getD, List.getElem?_eq_getElem (by omega)]
    exact (hp _ (List.getElem_mem _)).1
  have hp2 := getD_bytes (fun p h => (hp p h).2)
  have hks : ∀ k ∈ sortK named, 0 ≤ k ∧ k < (b : Int) := fun k h2 => hk k ((sortK_perm named).mem_iff.2 h2)
  have hW := homeW_at hrt hp1 (sortK named) noW hks
  have hWl := homeW_len (n := n) (a := (a : Int)) (b := (b : Int)) (c := E) (pages := pages) (sortK named) Ref.none_len
  have hWb := homeW_bytes (n := n) (a := (a : Int)) (b := (b : Int)) (E := E) hp2 (sortK named) no_bytes
  obtain ⟨w1, hw1⟩ : ∃ w, homeW n (a : Int) (b : Int) E pages (sortK named) noW = w := ⟨_, rfl⟩
  rw [hw1] at hW hWl hWb
  obtain ⟨L1, hL1⟩ : ∃ L1, flushed L w1 = L1 := ⟨_, rfl⟩
  have hl1 : L1.length = 64 * n := by rw [← hL1]; exact Ref.flushed_len h.len hWl
  have hb1 : Bytes L1 := by rw [← hL1]; exact Redo.flushed_bytes h.byt hWb
  have hs1 : ∀ i, i < n → sec L1 i = (w1 i).getD (sec L i) := fun i hi => by rw [← hL1]; exact Ref.sec_flushed h.len hWl hi
  obtain ⟨p, hpd⟩ : ∃ p, ((E + 1) % 2).toNat = p := ⟨_, rfl⟩
  obtain ⟨q, hqd⟩ : ∃ q, (E % 2).toNat = q := ⟨_, rfl⟩
  have hpq : p < 2 ∧ q < 2 ∧ p ≠ q ∧ ((E + 1 + 1) % 2).toNat = q := by omega
  have hrl := rootF_len (a : Int) (b : Int) (E + 1)
  have hw2 : putW n noW p (rootF (a : Int) (b : Int) (E + 1)) = fun j => if j = p then some (rootF (a : Int) (b : Int) (E + 1)) else noW j := by
    unfold putW
    rw [if_pos ⟨by omega, hrl⟩]
  have hC : chkL n L noW (a : Int) (b : Int) E pages named = flushed L1 (putW n noW p (rootF (a : Int) (b : Int) (E + 1))) := by
    unfold chkL
    rw [m32_nat (by omega), m32_nat (by omega), flushed_none h.len, hpd, hw1, hL1]
  have hl2 : (flushed L1 (putW n noW p (rootF (a : Int) (b : Int) (E + 1)))).length = 64 * n := Ref.flushed_len hl1 (putW_len Ref.none_len)
  have hs2 : ∀ i, i < n → sec (flushed L1 (putW n noW p (rootF (a : Int) (b : Int) (E + 1)))) i = if i = p then rootF (a : Int) (b : Int) (E + 1) else sec L1 i := fun i hi => by
    rw [Ref.sec_flushed hl1 (putW_len Ref.none_len) hi, hw2]
    dsimp only
    split <;> rfl
  have hlow : ∀ i, i < 2 + a → sec L1 i = sec L i := fun i hi => by
    rw [hs1 i (by omega), hW i, if_neg]
    · rfl
    · rintro ⟨k, hk2, he⟩
      have := hks k hk2
      unfold atF at he
      omega
  rw [hC]
  refine ⟨⟨hl2, Redo.flushed_bytes hb1 (putW_bytes no_bytes (rootF_bytes _ _ _)), by omega, ?_, ?_⟩, fun k hk2 => ?_, fun i hi => ?_⟩
  · rw [hpd, hs2 p (by omega), if_pos rfl]
  · rw [hpq.2.2.2, hs2 q (by omega), if_neg (by omega), hlow q (by omega), ← hqd, h.unroot]
    intro r hr2
    cases hr2
    show E < E + 1
    omega
  · rw [hs2 _ (by omega), if_neg (by omega), hs1 _ (by omega), hW]
    by_cases hn : (k : Int) ∈ named
    · rw [if_pos ⟨(k : Int), (sortK_perm named).mem_iff.1 hn, by unfold atF; omega⟩, show 2 + a + k - (2 + a) = k by omega]
      rfl
    · rw [if_neg]
      · exact (hst k hk2 hn).symm
      · rintro ⟨k2, hk3, he⟩
        have h5 := hks k2 hk3
        have : k2 = (k : Int) := by unfold atF at he; omega
        subst this
        exact hn ((sortK_perm named).mem_iff.2 hk3)
  · rw [hs2 _ (by omega), if_neg (by omega), hlow _ (by omega)]
end Go.Proofs.Ytjngnigelkgekaa.Store
namespace Go.Proofs.Ytjngnigelkgekaa.Store
set_option linter.unusedVariables false
set_option linter.unusedSimpArgs false
open Go.RowKit Go.Proofs.YtjngnigelkgekaaW.PrintWords Go.Proofs.YtjngnigelkgekaaW.PrintLast Go.Proofs.YtjngnigelkgekaaW.PrintMore Go.Proofs.Ytjngnigelkgekaa.Kit Go.Proofs.Ytjngnigelkgekaa.Plain Go.Proofs.Ytjngnigelkgekaa.Disk Go.Proofs.Ytjngnigelkgekaa.Root
open Go.Proofs.Ytjngnigelkgekaa.Delta (Chg KC deltaF rightF okF undeltaF)
open Go.Proofs.Ytjngnigelkgekaa.Redo (recR logF logF_bytes)
open Go.Proofs.Ytjngnigelkgekaa.Home (pagesF pageF putP mayF atF may_in)
open Go.Proofs.Ytjngnigelkgekaa.Frame (frameF frameF_len readF scanF scanR ScanAt scan_start scan_none scan_some recsF longs longs_app recs_bytes scan_facts recs_len longs_len)
theorem insK_keep {ks : List Int} {k x : Int} (h : x ∈ ks) : x ∈ insK ks k := by
  unfold insK
  split
  · exact h
  · exact List.mem_append_left _ h
theorem insK_new (ks : List Int) (k : Int) : k ∈ insK ks k := by
  unfold insK
  split
  · assumption
  · exact List.mem_append_right _ (List.mem_singleton.2 rfl)
theorem insAll_keep {x : Int} : ∀ (l : List Chg) {ks : List Int}, x ∈ ks → x ∈ insAll ks l
  | [], _, h => h
  | c :: r, ks, h => insAll_keep r (ks := insK ks c.1) (insK_keep h)
theorem insAll_new : ∀ (l : List Chg) {ks : List Int} {c : Chg}, c ∈ l → c.1 ∈ insAll ks l
  | d :: r, ks, c, h => by
    rcases List.mem_cons.1 h with rfl | h
    · exact insAll_keep r (insK_new ks c.1)
    · exact insAll_new r h
theorem nmAll_keep {x : Int} : ∀ (rows : List (List Chg)) {ks : List Int}, x ∈ ks → x ∈ nmAll ks rows
  | [], _, h => h
  | l :: r, ks, h => nmAll_keep r (ks := insAll ks l) (insAll_keep l h)
theorem nmAll_new : ∀ (rows : List (List Chg)) {ks : List Int} {l : List Chg} {c : Chg}, l ∈ rows → c ∈ l → c.1 ∈ nmAll ks rows
  | d :: r, ks, l, c, h, hc => by
    rcases List.mem_cons.1 h with rfl | h
    · exact nmAll_keep r (insAll_new l hc)
    · exact nmAll_new r h hc
theorem insList_all {x : Int} : ∀ (l : List Int) {ks : List Int}, x ∈ l ∨ x ∈ ks → x ∈ insList ks l
  | [], ks, h => by
    rcases h with h | h
    · cases h
    · exact h
  | k :: t, ks, h => insList_all t (ks := insK ks k) (by
      rcases h with h | h
      · rcases List.mem_cons.1 h with rfl | h
        · exact .inr (insK_new _ _)
        · exact .inl h
      · exact .inr (insK_keep h))
/-- The pages named behind Open. -/
def openN (rows : List (List Chg)) : List Int := insList [] (sortK (nmAll [] rows))
theorem openN_mem {rows : List (List Chg)} {x : Int} : x ∈ openN rows ↔ x ∈ nmAll [] rows := by
  unfold openN
  constructor
  · intro h
    rcases insList_mem _ h with h | h
    · cases h
    · exact (sortK_perm _).mem_iff.2 h
  · intro h
    exact insList_all _ (.inl ((sortK_perm _).mem_iff.1 h))
theorem applyOne_out {ps : List (List Int)} {c : Chg} {k : Nat} (h : c.1 ≠ (k : Int)) : (applyOne ps c)[k]? = ps[k]? := by
  unfold applyOne
  split
  · rename_i h2
    rw [List.getElem?_set_ne (by omega)]
  · rfl
theorem applyF_out {k : Nat} : ∀ (l : List Chg) {ps : List (List Int)}, (∀ c ∈ l, c.1 ≠ (k : Int)) → (applyF ps l)[k]? = ps[k]?
  | [], _, _ => rfl
  | c :: r, ps, h => by
    show (applyF (applyOne ps c) r)[k]? = _
    rw [applyF_out r (fun x hx => h x (List.mem_cons_of_mem _ hx)), applyOne_out (h c (List.mem_cons_self ..))]
theorem pgAll_out {k : Nat} : ∀ (rows : List (List Chg)) {ps : List (List Int)}, (∀ l ∈ rows, ∀ c ∈ l, c.1 ≠ (k : Int)) → (pgAll ps rows)[k]? = ps[k]?
  | [], _, _ => rfl
  | l :: r, ps, h => by
    show (pgAll (applyF ps l) r)[k]? = _
    rw [pgAll_out r (fun x hx => h x (List.mem_cons_of_mem _ hx)), applyF_out l (h l (List.mem_cons_self ..))]
theorem applyOne_all {Q : List Int → Prop} {ps : List (List Int)} {c : Chg} (h : ∀ p ∈ ps, Q p) (hc : Q c.2) : ∀ p ∈ applyOne ps c, Q p := by
  unfold applyOne
  split
  · intro p hp
    rcases List.mem_or_eq_of_mem_set hp with h1 | rfl
    · exact h p h1
    · exact hc
  · exact h
theorem applyF_all {Q : List Int → Prop} : ∀ {l : List Chg} {ps : List (List Int)}, (∀ p ∈ ps, Q p) → (∀ c ∈ l, Q c.2) → ∀ p ∈ applyF ps l, Q p
  | [], _, h, _ => h
  | c :: r, _, h, hl => applyF_all (l := r) (applyOne_all h (hl c (List.mem_cons_self ..))) (fun x hx => hl x (List.mem_cons_of_mem _ hx))
theorem pgAll_all {Q : List Int → Prop} : ∀ {rows : List (List Chg)} {ps : List (List Int)}, (∀ p ∈ ps, Q p) → (∀ x ∈ rows, ∀ c ∈ x, Q c.2) → ∀ p ∈ pgAll ps rows, Q p
  | [], _, h, _ => h
  | x :: r, _, h, hl => pgAll_all (rows := r) (applyF_all h (hl x (List.mem_cons_self ..))) (fun y hy => hl y (List.mem_cons_of_mem _ hy))
/-- The rows that Open finds. -/
abbrev rowsF (n a b : Nat) (E : Int) (L : List Int) : List (List Chg) := (recR n L noW (a : Int) (b : Int) E).1
/-- The pages that Open shows. -/
abbrev shownF (n a b : Nat) (E : Int) (L : List Int) : List (List Int) := pgAll (pagesF n L noW (a : Int) (b : Int) E) (rowsF n a b E L)
theorem Lay.logB {n a b : Nat} {E : Int} {L : List Int} (h : Lay n a b E L) : Bytes (logF n L noW (a : Int) (b : Int) E) ∧ (logF n L noW (a : Int) (b : Int) E).length = 64 * a := by
  have hr := h.rgt
  have hl := h.len
  rw [h.log]
  exact ⟨Redo.secs_bytes (fun i _ => sec_bytes h.byt _), secs_len (fun i hi => sec_len (by omega))⟩
theorem Lay.rows {n a b : Nat} {E : Int} {L : List Int} (h : Lay n a b E L) : (rowsF n a b E L).length ≤ 1000 ∧ ∀ x ∈ rowsF n a b E L, x.length ≤ 64 ∧ ∀ c ∈ x, 0 ≤ c.1 ∧ c.1 < (b : Int) ∧ c.2.length = 64 ∧ Bytes c.2 := by
  have hr := h.rgt
  obtain ⟨hb, hl⟩ := h.logB
  obtain ⟨h1, h2, h3⟩ := scan_facts hb E
  refine ⟨?_, fun x hx => ?_⟩
  · have h4 := (recs_len (b : Int) (scanR (logF n L noW (a : Int) (b : Int) E) E).1).1
    have h5 := longs_len (scanR (logF n L noW (a : Int) (b : Int) E) E).1
    show (recsF (b : Int) (scanR (logF n L noW (a : Int) (b : Int) E) E).1).1.length ≤ 1000
    omega
  · have h4 := recs_right (b : Int) _ x hx
    have h5 := right_in h4
    have h6 := recs_bytes (b : Int) _ h1 x hx
    exact ⟨(right_len h4).2, fun c hc => ⟨(h5.2 c hc).1, (h5.2 c hc).2.1, (h5.2 c hc).2.2, h6 c hc⟩⟩
theorem Lay.shown {n a b : Nat} {E : Int} {L : List Int} (h : Lay n a b E L) : (shownF n a b E L).length = b ∧ ∀ p ∈ shownF n a b E L, p.length = 64 ∧ Bytes p := by
  have hr := h.rgt
  have hl := h.len
  refine ⟨by unfold shownF; rw [pgAll_len, h.pages, List.length_map, List.length_range], ?_⟩
  refine pgAll_all (Q := fun p => p.length = 64 ∧ Bytes p) (fun p hp => ?_) (fun x hx c hc => ((h.rows.2 x hx).2 c hc).2.2)
  rw [h.pages] at hp
  obtain ⟨i, hi, rfl⟩ := List.mem_map.1 hp
  have hi := List.mem_range.1 hi
  exact ⟨sec_len (by omega), sec_bytes h.byt _⟩
/-- What lasts behind Open. -/
abbrev openL (n a b : Nat) (E : Int) (L : List Int) : List Int := chkL n L noW (a : Int) (b : Int) E (shownF n a b E L) (openN (rowsF n a b E L))
theorem Lay.opened {n a b : Nat} {E : Int} {L : List Int} (h : Lay n a b E L) (hE : E < 4294967295) : Lay n a b (E + 1) (openL n a b E L) ∧ pagesF n (openL n a b E L) noW (a : Int) (b : Int) (E + 1) = shownF n a b E L ∧ logF n (openL n a b E L) noW (a : Int) (b : Int) (E + 1) = logF n L noW (a : Int) (b : Int) E := by
  have hs := h.shown
  obtain ⟨h1, h2, h3⟩ := h.chk hE hs.1 hs.2 (named := openN (rowsF n a b E L)) (fun k hk => by
      refine nmAll_mem (P := fun k => 0 ≤ k ∧ k < (b : Int)) (fun k hk => by cases hk) (fun x hx c hc => ?_) k (openN_mem.1 hk)
      have := (h.rows.2 x hx).2 c hc
      exact ⟨this.1, this.2.1⟩) (fun k hk hn => by
      have hn2 : ∀ l ∈ rowsF n a b E L, ∀ c ∈ l, c.1 ≠ (k : Int) := fun l hl c hc he => hn (openN_mem.2 (he ▸ nmAll_new _ hl hc))
      rw [List.getD_eq_getElem?_getD, pgAll_out _ hn2, h.pages, List.getElem?_map, List.getElem?_range hk]
      rfl)
  refine ⟨h1, ?_, ?_⟩
  · rw [h1.pages]
    apply List.ext_getElem (by rw [List.length_map, List.length_range, hs.1])
    intro k hk1 hk2
    rw [hs.1] at hk2
    rw [List.getElem_map, List.getElem_range, h2 k hk2, List.getD_eq_getElem?_getD, List.getElem?_eq_getElem (by rw [hs.1]; exact hk2)]
    rfl
  · rw [h1.log, h.log]
    exact secs_congr (fun i hi => h3 i hi)
section
variable {w0 W : World} {F : List HP} {g : Nat}
/-- Open, by the layout. -/
theorem lay_open {n a b : Nat} {E : Int} {L : List Int} (h : Sep w0 W (Dsk g L noW :: F)) (hl : Lay n a b E L) (hn : n ≤ 160) (hE : E < 4294967295) :
    Calls Try.prog 27 #[.pointer (some ⟨g, 0, none⟩)] W fun e w' => ∃ gs m, e = .returned (.tuple #[.pointer (some ⟨gs, 0, none⟩), .int .i64 0]) ∧ Sep w0 w' (StB gs g m (a : Int) (b : Int) (E + 1) (shownF n a b E L) [] 0 0 :: Dsk g (openL n a b E L) noW :: F) := by
  have hr := hl.rgt
  have hpl : (pagesF n L noW (a : Int) (b : Int) E).length = b := by rw [hl.pages, List.length_map, List.length_range]
  refine open_ok h hl.len hn Ref.none_len (fun j => secF_bytes hl.byt no_bytes j) (a : Int) (b : Int) E hl.best (by omega) hE (logF_bytes hl.byt no_bytes _ _ _) (by omega) (by omega) (fun p hp => ?_) hl.rows.1 (fun x hx => (hl.rows.2 x hx).1)
  rw [hl.pages] at hp
  obtain ⟨i, hi, rfl⟩ := List.mem_map.1 hp
  have hi := List.mem_range.1 hi
  have hll := hl.len
  rw [sec_len (by omega)]
  decide
end
end Go.Proofs.Ytjngnigelkgekaa.Store
namespace Go.Proofs.Ytjngnigelkgekaa.Store
set_option linter.unusedVariables false
set_option linter.unusedSimpArgs false
open Go.RowKit Go.Proofs.YtjngnigelkgekaaW.PrintWords Go.Proofs.YtjngnigelkgekaaW.PrintLast Go.Proofs.YtjngnigelkgekaaW.PrintMore Go.Proofs.Ytjngnigelkgekaa.Kit Go.Proofs.Ytjngnigelkgekaa.Plain Go.Proofs.Ytjngnigelkgekaa.Disk Go.Proofs.Ytjngnigelkgekaa.Root
open Go.Proofs.Ytjngnigelkgekaa.Delta (Chg KC deltaF rightF okF undeltaF)
open Go.Proofs.Ytjngnigelkgekaa.Redo (recR logF logF_bytes appR okA appW appW_flushed over_over sec_over_out logF_of)
open Go.Proofs.Ytjngnigelkgekaa.Home (pagesF pageF putP mayF atF may_in)
open Go.Proofs.Ytjngnigelkgekaa.Frame (frameF frameF_len readF scanF scanR ScanAt scan_start scan_none scan_some recsF longs longs_app recs_bytes scan_facts recs_len longs_len)
theorem putsW_at {n s : Nat} {z : List Int} (hz : z.length = 64) : ∀ (k : Nat) (wt : Wt), s + k ≤ n → ∀ i, putsW n s z k wt i = if s ≤ i ∧ i < s + k then some z else wt i
  | 0, wt, _, i => by rw [if_neg (by omega)]; rfl
  | k + 1, wt, h, i => by
    show putW n (putsW n s z k wt) (s + k) z i = _
    unfold putW
    rw [if_pos ⟨by omega, hz⟩, putsW_at hz k wt (by omega) i]
    by_cases h1 : i = s + k
    · rw [if_pos h1, if_pos (by omega)]
    · rw [if_neg h1]
      by_cases h2 : s ≤ i ∧ i < s + k
      · rw [if_pos h2, if_pos (by omega)]
      · rw [if_neg h2, if_neg (by omega)]
theorem putsW_bytes {n s : Nat} {z : List Int} (hz : Bytes z) : ∀ (k : Nat) {wt : Wt}, (∀ i b, wt i = some b → Bytes b) → ∀ i b, putsW n s z k wt i = some b → Bytes b
  | 0, _, h => h
  | k + 1, _, h => putW_bytes (putsW_bytes hz k h) hz
theorem unroot_zeros : unrootF zz64 = none := by decide +kernel
/-- A format's layout. -/
theorem lay_fmt {n a b : Nat} {las : List Int} {wt : Wt} (hl : las.length = 64 * n) (hb : Bytes las) (hw : ∀ i b, wt i = some b → b.length = 64) (hwb : ∀ i b, wt i = some b → Bytes b) (hr : rightR (a : Int) (b : Int) 1 n = true) :
    Lay n a b 1 (fmtL n las wt a b) ∧ (∀ i, i < a + b → sec (fmtL n las wt a b) (2 + i) = zz64) := by
  have hr' := of_decide_eq_true hr
  have hz : zz64.length = 64 := List.length_replicate
  have hzb : Bytes zz64 := zeros_bytes 64
  have w1 := putsW_len (n := n) (s := 0) (z := zz64) hw 2
  have w2 := putsW_len (n := n) (s := 2) (z := zz64) Ref.none_len (a + b)
  have b1 := putsW_bytes (n := n) (s := 0) hzb 2 hwb
  have b2 := putsW_bytes (n := n) (s := 2) hzb (a + b) no_bytes
  have e1 := putsW_at (n := n) (s := 0) hz 2 wt (by omega)
  have e2 := putsW_at (n := n) (s := 2) hz (a + b) noW (by omega)
  obtain ⟨L1, hL1⟩ : ∃ L, flushed las (putsW n 0 zz64 2 wt) = L := ⟨_, rfl⟩
  have l1 : L1.length = 64 * n := by rw [← hL1]; exact Ref.flushed_len hl w1
  have c1 : Bytes L1 := by rw [← hL1]; exact Redo.flushed_bytes hb b1
  have s1 : ∀ i, i < 2 → sec L1 i = zz64 := fun i hi => by
    rw [← hL1, Ref.sec_flushed hl w1 (by omega), e1, if_pos (by omega)]; rfl
  obtain ⟨L2, hL2⟩ : ∃ L, flushed L1 (putsW n 2 zz64 (a + b) noW) = L := ⟨_, rfl⟩
  have l2 : L2.length = 64 * n := by rw [← hL2]; exact Ref.flushed_len l1 w2
  have c2 : Bytes L2 := by rw [← hL2]; exact Redo.flushed_bytes c1 b2
  have s2 : ∀ i, i < 2 + a + b → sec L2 i = zz64 := fun i hi => by
    rw [← hL2, Ref.sec_flushed l1 w2 (by omega), e2]
    by_cases h : i < 2
    · rw [if_neg (by omega)]
      exact s1 i h
    · rw [if_pos (by omega)]; rfl
  have hrl := rootF_len (a : Int) (b : Int) 1
  have hw3 : putW n noW 1 (rootF (a : Int) (b : Int) 1) = fun j => if j = 1 then some (rootF (a : Int) (b : Int) 1) else noW j := by
    unfold putW
    rw [if_pos ⟨by omega, hrl⟩]
  have hF : fmtL n las wt a b = flushed L2 (putW n noW 1 (rootF (a : Int) (b : Int) 1)) := by
    unfold fmtL
    rw [m32_nat (by omega), m32_nat (by omega), hL1, hL2]
  have s3 : ∀ i, i < n → sec (flushed L2 (putW n noW 1 (rootF (a : Int) (b : Int) 1))) i = if i = 1 then rootF (a : Int) (b : Int) 1 else sec L2 i := fun i hi => by
    rw [Ref.sec_flushed l2 (putW_len Ref.none_len) hi, hw3]
    dsimp only
    split <;> rfl
  rw [hF]
  refine ⟨⟨Ref.flushed_len l2 (putW_len Ref.none_len), Redo.flushed_bytes c2 (putW_bytes no_bytes (rootF_bytes _ _ _)), by omega, ?_, ?_⟩, fun i hi => ?_⟩
  · show sec _ 1 = _
    rw [s3 1 (by omega), if_pos rfl]
  · show ∀ r, unrootF (sec _ 0) = some r → _
    rw [s3 0 (by omega), if_neg (by decide), s2 0 (by omega), unroot_zeros]
    intro r h
    cases h
  · rw [s3 _ (by omega), if_neg (by omega), s2 _ (by omega)]
theorem secs_zeros (a : Nat) : secs a (fun _ => zz64) = List.replicate (64 * a) 0 := by
  induction a with
  | zero => rfl
  | succ a ih => rw [secs_succ, ih, List.replicate_append_replicate, Nat.mul_succ]
/-- Bytes laid into the log. -/
theorem Lay.app {n a b : Nat} {E : Int} {L x : List Int} (h : Lay n a b E L) (hx : Bytes x) {at_ : Nat} (hfit : at_ + x.length ≤ 64 * a) :
    Lay n a b E (over L (128 + at_) x) ∧ pagesF n (over L (128 + at_) x) noW (a : Int) (b : Int) E = pagesF n L noW (a : Int) (b : Int) E ∧ logF n (over L (128 + at_) x) noW (a : Int) (b : Int) E = over (logF n L noW (a : Int) (b : Int) E) at_ x := by
  have hr := h.rgt
  have hl := h.len
  have ho : 128 + at_ + x.length ≤ L.length := by omega
  have hol := over_len ho
  have hn : Lay n a b E (over L (128 + at_) x) := by
    refine ⟨by rw [hol]; exact hl, Redo.over_bytes h.byt hx, hr, ?_, ?_⟩
    · rw [sec_over_out ho (.inl (by omega))]; exact h.rt
    · rw [sec_over_out ho (.inl (by omega))]; exact h.ot
  refine ⟨hn, ?_, ?_⟩
  · rw [hn.pages, h.pages]
    refine List.map_congr_left (fun i hi => ?_)
    exact sec_over_out ho (.inr (by omega))
  · rw [logF_of hn.len Ref.none_len hn.right, logF_of hl Ref.none_len h.right, flushed_none hn.len, flushed_none hl]
    apply List.ext_getElem?
    intro j
    rw [over_get (by rw [List.length_drop, List.length_take]; omega), List.getElem?_drop, List.getElem?_take, over_get ho, List.getElem?_drop, List.getElem?_take]
    by_cases h1 : at_ ≤ j ∧ j < at_ + x.length
    · rw [if_pos (by omega), if_pos (by omega), if_pos h1, show 128 + j - (128 + at_) = j - at_ by omega]
    · rw [if_neg h1]
      by_cases h2 : 128 + j < 64 * (2 + a)
      · rw [if_pos h2, if_pos h2, if_neg (by omega)]
      · rw [if_neg h2, if_neg h2]
theorem over_tail {X y : List Int} {k : Nat} (h : y.length ≤ k) : over (X ++ List.replicate k 0) X.length y = (X ++ y) ++ List.replicate (k - y.length) 0 := by
  unfold over
  rw [List.take_left, ← List.drop_drop, List.drop_left, List.drop_replicate]
/-- A disk of which the log holds these records, and nothing behind them. -/
structure Com (n a b : Nat) (E : Int) (p0 : List (List Int)) (ls : List (List Chg)) (G : List Int) : Prop where
  lay : Lay n a b E G
  pgs : pagesF n G noW (a : Int) (b : Int) E = p0
  log : logF n G noW (a : Int) (b : Int) E = framesF E (ls.map deltaF) ++ List.replicate (64 * a - longs (ls.map deltaF)) 0
  fit : longs (ls.map deltaF) ≤ 64 * a
  rgt : ∀ l ∈ ls, rightF l (b : Int) = true ∧ Bytes (deltaF l)
theorem Com.start {n a b : Nat} {las : List Int} {wt : Wt} (hl : las.length = 64 * n) (hb : Bytes las) (hw : ∀ i b, wt i = some b → b.length = 64) (hwb : ∀ i b, wt i = some b → Bytes b) (hr : rightR (a : Int) (b : Int) 1 n = true) :
    Com n a b 1 (List.replicate b zz64) [] (fmtL n las wt a b) := by
  obtain ⟨h1, h2⟩ := lay_fmt hl hb hw hwb hr
  have hr' := h1.rgt
  refine ⟨h1, ?_, ?_, Nat.zero_le _, fun l hl => by cases hl⟩
  · rw [h1.pages]
    apply List.ext_getElem (by simp)
    intro k k1 k2
    rw [List.length_replicate] at k2
    rw [List.getElem_map, List.getElem_range, List.getElem_replicate, Nat.add_assoc, h2 (a + k) (by omega)]
  · rw [h1.log]
    show _ = List.replicate (64 * a - 0) 0
    rw [Nat.sub_zero, ← secs_zeros]
    exact secs_congr (fun i hi => h2 i (by omega))
section
variable {n a b : Nat} {E : Int} {p0 : List (List Int)} {ls : List (List Chg)} {G las : List Int} {wt : Wt}
theorem delta_len {l : List Chg} (h : rightF l (b : Int) = true) : (deltaF l).length = 2 + 66 * l.length := (right_len h).1
theorem Com.small (h : Com n a b E p0 ls G) : ls.length ≤ 4096 := by
  have h1 := longs_len (ls.map deltaF)
  rw [List.length_map] at h1
  have h2 := h.fit
  have h3 := h.lay.rgt
  omega
theorem Com.rows (h : Com n a b E p0 ls G) : rowsF n a b E G = ls := by
  have hr := h.lay.rgt
  have hs := h.small
  show (recsF (b : Int) (scanR (logF n G noW (a : Int) (b : Int) E) E).1).1 = ls
  rw [h.log, scan_framed (by omega) (fun x hx => ?_) (zeros_bytes _) (fun x hx => ?_) (by rw [List.length_map]; omega) (read_other (by rw [getF_zeros]; omega))]
  · exact recs_deltas ls (fun l hl => (h.rgt l hl).1)
  · obtain ⟨l, hl, rfl⟩ := List.mem_map.1 hx
    exact (h.rgt l hl).2
  · obtain ⟨l, hl, rfl⟩ := List.mem_map.1 hx
    have h1 := right_len (h.rgt l hl).1
    omega
theorem Com.shown (h : Com n a b E p0 ls G) : shownF n a b E G = pgAll p0 ls := by
  unfold shownF
  rw [h.rows, h.pgs]
theorem Com.commit (h : Com n a b E p0 ls (flushed las wt)) (hl : las.length = 64 * n) (hw : ∀ i b, wt i = some b → b.length = 64) {l : List Chg} (hr : rightF l (b : Int) = true) (hb : Bytes (deltaF l)) {u : Nat} (hu : longs (ls.map deltaF) = u) {q : Nat} (hq : ls.length = q) (hf : u + (18 + 66 * l.length) ≤ 64 * a) :
    Com n a b E p0 (ls ++ [l]) (flushed las (appR n las wt (a : Int) (b : Int) E (u : Int) (frameF E (q : Int) (deltaF l)))) := by
  have hrr := h.lay.rgt
  have hfl : (frameF E (q : Int) (deltaF l)).length = 18 + 66 * l.length := by rw [frameF_len, delta_len hr]; omega
  have hok : okA n (a : Int) (b : Int) E (u : Int) (frameF E (q : Int) (deltaF l)).length = true := by
    unfold okA Redo.sizeF
    rw [h.lay.right, hfl, if_neg (by omega), decide_eq_true (by omega), decide_eq_true (by omega)]; rfl
  have hF : flushed las (appR n las wt (a : Int) (b : Int) E (u : Int) (frameF E (q : Int) (deltaF l))) = over (flushed las wt) (128 + u) (frameF E (q : Int) (deltaF l)) := by
    unfold appR
    rw [if_pos hok, Int.toNat_natCast]
    exact appW_flushed hl hw (by rw [hfl]; omega)
  rw [hF]
  obtain ⟨h1, h2, h3⟩ := h.lay.app (x := frameF E (q : Int) (deltaF l)) (Frame.frameF_bytes _ _ hb) (at_ := u) (by rw [hfl]; omega)
  have hlg : longs ((ls ++ [l]).map deltaF) = u + (18 + 66 * l.length) := by
    rw [List.map_append, longs_app, hu]
    simp only [List.map_cons, List.map_nil, longs]
    rw [delta_len hr]; omega
  refine ⟨h1, by rw [h2, h.pgs], ?_, by rw [hlg]; exact hf, fun x hx => ?_⟩
  · rw [h3, h.log, hlg, List.map_append, List.map_cons, List.map_nil, framesF_snoc, List.length_map, hq]
    have ho := over_tail (X := framesF E (ls.map deltaF)) (y := frameF E (q : Int) (deltaF l)) (k := 64 * a - longs (ls.map deltaF)) (by rw [hfl, hu]; omega)
    rw [framesF_len, hu, hfl] at ho
    rw [hu, ho]
    congr 2
    omega
  · rcases List.mem_append.1 hx with hx | hx
    · exact h.rgt x hx
    · obtain rfl := List.mem_singleton.1 hx
      exact ⟨hr, hb⟩
theorem framesF_nil (E : Int) : framesF E [] = [] := rfl
/-- A disk behind Open: an older epoch's records in its log. -/
structure Old (n a b : Nat) (E E0 : Int) (ps : List (List Int)) (ds : List (List Int)) (G : List Int) : Prop where
  lay : Lay n a b E G
  pgs : pagesF n G noW (a : Int) (b : Int) E = ps
  log : logF n G noW (a : Int) (b : Int) E = framesF E0 ds ++ List.replicate (64 * a - longs ds) 0
  old : 0 ≤ E0 ∧ E0 < E
theorem framesF_head {E0 : Int} (h0 : 0 ≤ E0 ∧ E0 ≤ 4294967295) : ∀ (ds : List (List Int)) (k : Nat), getF (framesF E0 ds ++ List.replicate k 0) 0 = E0 ∨ getF (framesF E0 ds ++ List.replicate k 0) 0 = 0
  | [], k => .inr (by show getF ([] ++ _) 0 = 0; rw [List.nil_append]; exact getF_zeros k)
  | d :: t, k => .inl (by
      unfold framesF
      rw [List.length_cons, List.range_succ_eq_map, List.flatMap_cons, List.append_assoc]
      exact getF_frame _ h0)
theorem Old.rows {E0 : Int} {ps ds : List (List Int)} (h : Old n a b E E0 ps ds G) : rowsF n a b E G = [] := by
  have hr := h.lay.rgt
  have ho := h.old
  show (recsF (b : Int) (scanR (logF n G noW (a : Int) (b : Int) E) E).1).1 = []
  rw [h.log, scan_none (scan_start _ _) (by rw [List.drop_zero]; exact read_other (by rcases framesF_head (E0 := E0) (by omega) ds (64 * a - longs ds) with h1 | h1 <;> rw [h1] <;> omega))]
  rfl
theorem Old.shown {E0 : Int} {ps ds : List (List Int)} (h : Old n a b E E0 ps ds G) : shownF n a b E G = ps := by
  unfold shownF
  rw [h.rows, h.pgs]
  rfl
theorem Com.opened (h : Com n a b E p0 ls G) (hE : E < 4294967295) : Old n a b (E + 1) E (pgAll p0 ls) (ls.map deltaF) (openL n a b E G) := by
  have hr := h.lay.rgt
  obtain ⟨h1, h2, h3⟩ := h.lay.opened hE
  exact ⟨h1, by rw [h2, h.shown], by rw [h3, h.log], by omega⟩
theorem Old.opened {E0 : Int} {ps ds : List (List Int)} (h : Old n a b E E0 ps ds G) (hE : E < 4294967295) : Old n a b (E + 1) E0 ps ds (openL n a b E G) := by
  have ho := h.old
  obtain ⟨h1, h2, h3⟩ := h.lay.opened hE
  exact ⟨h1, by rw [h2, h.shown], by rw [h3, h.log], by omega⟩
theorem Old.com {E0 : Int} {ps : List (List Int)} (h : Old n a b E E0 ps [] G) : Com n a b E ps [] G :=
  ⟨h.lay, h.pgs, by rw [h.log, List.map_nil, framesF_nil, framesF_nil], Nat.zero_le _, fun l hl => by cases hl⟩
end
end Go.Proofs.Ytjngnigelkgekaa.Store
namespace Go.Proofs.Ytjngnigelkgekaa.Store
set_option linter.unusedVariables false
set_option linter.unusedSimpArgs false
open Go.RowKit Go.Proofs.YtjngnigelkgekaaW.PrintWords Go.Proofs.YtjngnigelkgekaaW.PrintLast Go.Proofs.YtjngnigelkgekaaW.PrintMore Go.Proofs.Ytjngnigelkgekaa.Kit Go.Proofs.Ytjngnigelkgekaa.Plain
open Go.Proofs.Ytjngnigelkgekaa.Redo (sizeF sizeF_in size_)
open Go.Proofs.Ytjngnigelkgekaa.Delta (needF need_ rneed_)
end Go.Proofs.Ytjngnigelkgekaa.Store
namespace Go.Proofs.Ytjngnigelkgekaa.Store
set_option linter.unusedVariables false
open Go.RowKit Go.Proofs.YtjngnigelkgekaaW.PrintWords Go.Proofs.YtjngnigelkgekaaW.PrintLast Go.Proofs.YtjngnigelkgekaaW.PrintMore Go.Proofs.Ytjngnigelkgekaa.Kit Go.Proofs.Ytjngnigelkgekaa.Plain Go.Proofs.Ytjngnigelkgekaa.Disk Go.Proofs.Ytjngnigelkgekaa.Root
open Go.Proofs.Ytjngnigelkgekaa.Delta (Chg KC deltaF rightF okF)
open Go.Proofs.Ytjngnigelkgekaa.Redo (recR logF logF_bytes appR sizeF)
open Go.Proofs.Ytjngnigelkgekaa.Home (pagesF)
open Go.Proofs.Ytjngnigelkgekaa.Tape (good)
abbrev y0L : List Int := List.replicate (40 * 64) 0
theorem appR_len {n : Nat} {las : List Int} {wt : Wt} {a b c at_ : Int} {xs : List Int} (hl : las.length = 64 * n) (hw : ∀ i b, wt i = some b → b.length = 64) : ∀ i b', appR n las wt a b c at_ xs i = some b' → b'.length = 64 := by
  unfold appR
  split
  · rename_i h
    have h1 := Redo.ok_in h
    exact Redo.appW_len hl hw (by omega)
  · exact hw
theorem good_right {l : List Chg} (h : good 6 l) : rightF l 6 = true := by
  unfold rightF
  rw [Bool.and_eq_true]
  exact ⟨by decide, h.1⟩
section
variable {w0 W : World} {F : List HP} {g : Nat}
end
end Go.Proofs.Ytjngnigelkgekaa.Store
namespace Go.Proofs.Ytjngnigelkgekaa.Store
set_option linter.unusedVariables false
set_option linter.unusedSimpArgs false
open Go.RowKit Go.Proofs.YtjngnigelkgekaaW.PrintWords Go.Proofs.YtjngnigelkgekaaW.PrintLast Go.Proofs.YtjngnigelkgekaaW.PrintMore Go.Proofs.Ytjngnigelkgekaa.Kit Go.Proofs.Ytjngnigelkgekaa.Plain Go.Proofs.Ytjngnigelkgekaa.Disk Go.Proofs.Ytjngnigelkgekaa.Root
open Go.Proofs.Ytjngnigelkgekaa.Delta (Chg KC deltaF rightF)
open Go.Proofs.Ytjngnigelkgekaa.Redo (appR sizeF)
open Go.Proofs.Ytjngnigelkgekaa.Frame (frameF)
theorem k_size : ((0 : Nat) : Int) ≤ sizeF 9 := by decide +kernel
theorem k_flush' : flushed z2L (appR 20 z2L noW 9 4 2 ((0 : Nat) : Int) (frameF 2 ((0 : Nat) : Int) (deltaF [(2, s5)]))) = z3L := k_flush
theorem k_p2 {ps : List (List Int)} (h : applyF zps [(2, s5)] = ps) : ∃ hi : 2 < ps.length, ps[2] = s5 ∧ ps.length = 4 := by
  rw [k_app] at h
  subst h
  exact ⟨by decide, rfl, rfl⟩
set_option maxHeartbeats 3200000 in
set_option maxRecDepth 100000 in
theorem known_ (w : World) : Calls Try.prog 37 #[] w fun e w' => e = .returned (.bool true) ∧ Below w.heap.size w w' := by
  go_enter Try.func37, Try.ntmps37
  go_wp2_with fail
  refine (new_ok (n := 20) (by decide) (by decide)).mono ?_
  rintro e w1 ⟨g, rfl, hS1⟩
  have B1 := Aside0.mk hS1
  clear hS1
  go_wp2_with fail
  refine (k_open0 B1.out).mono ?_
  rintro e w2 ⟨rfl, hS2⟩
  have B2 := Aside0.mk hS2
  clear hS2
  go_wp2_with fail
  refine (k_format B2.out).mono ?_
  rintro e w3 ⟨rfl, hS3⟩
  have B3 := Aside0.mk hS3
  clear hS3
  go_wp2_with fail
  refine (k_open1 B3.out).mono ?_
  rintro e w4 ⟨gs, m, rfl, hS4⟩
  have B4 := Aside0.mk hS4
  clear hS4
  go_wp2_with fail
  refine (sector_ 5 _).mono ?_
  rintro e w5 ⟨v5, rfl, hS5⟩
  obtain ⟨A5, c5, rfl⟩ := hS5.rowN (n := 64) rfl
  have B5 := Aside0.mk ((B4.out.lift1 hS5).newBlk 106 #[.int .i64 2, .slice A5 64 c5])
  clear hS5
  go_wp2_with fail
  refine (commit_ok (n := 20) (l := [(2, s5)]) (n2 := 1) (c2 := 1) B5.out.at3.at4.at2 k_len2 (by decide) Ref.none_len (fun W' hW => chg_lit hW) k_r1 k_size k_fit (by decide) (by decide) (by decide) k_pl (by decide)).mono ?_
  rintro e w6 ⟨rfl, hS6⟩
  obtain ⟨ps, hps⟩ : ∃ p, applyF zps [(2, s5)] = p := ⟨_, rfl⟩
  have HPS := Aside0.mk (k_p2 hps)
  have HPE := Aside0.mk hps
  rw [hps] at hS6
  obtain ⟨nm, hnm⟩ : ∃ p, insAll [] [(2, s5)] = p := ⟨_, rfl⟩
  rw [hnm] at hS6
  obtain ⟨wt6, hwt6⟩ : ∃ t, appR 20 z2L noW 9 4 2 ((0 : Nat) : Int) (frameF 2 ((0 : Nat) : Int) (deltaF [(2, s5)])) = t := ⟨_, rfl⟩
  have HFL : Aside0 (flushed z2L wt6 = z3L) := ⟨by rw [← hwt6]; exact k_flush'⟩
  rw [hwt6] at hS6
  have B6 : Aside0 (Sep w w6 (StB gs g m 9 4 2 ps nm 84 1 :: Dsk g z2L wt6 :: _)) := ⟨hS6⟩
  clear hS6 hps hnm hwt6
  go_wp2_with fail
  refine (sector_ 5 _).mono ?_
  rintro e w7 ⟨v7, rfl, hS7⟩
  obtain ⟨A7, c7, rfl⟩ := hS7.rowN (n := 64) rfl
  have B7 := Aside0.mk ((B6.out.lift1 hS7).newBlk 106 #[.int .i64 4, .slice A7 64 c7])
  clear hS7
  go_wp2_with fail
  refine (commit_bad (l := [(4, s5)]) (n2 := 1) (c2 := 1) B7.out.at3 (chg_lit B7.out) k_r2).mono ?_
  rintro e w8 ⟨rfl, hS8⟩
  have B8 : Aside0 (Sep w w8 (StB gs g m 9 4 2 ps nm 84 1 :: Dsk g z2L wt6 :: _)) := ⟨hS8.at4.at2⟩
  clear hS8
  go_wp2_with fail
  obtain ⟨hi2, hp2, hp4⟩ := HPS.out
  refine (page_in B8.out 2 hi2 (by rw [hp2]; decide) (by rw [hp4]; decide)).mono ?_
  rintro e w9 ⟨v9, rfl, hS9⟩
  rw [hp2] at hS9
  obtain ⟨g9, c9, rfl⟩ := hS9.rowFormN (n := 64) rfl (by decide)
  have B9 := Aside0.mk hS9
  clear hS9
  go_wp2_with fail
  refine (used_ B9.out.at2).mono ?_
  rintro e w10 ⟨rfl, rfl⟩
  go_wp2_with fail
  refine (seq_ B9.out.at2).mono ?_
  rintro e w10 ⟨rfl, rfl⟩
  go_wp2_with fail
  refine (sync_ B9.out.to3).mono ?_
  rintro e w11 ⟨rfl, hS11⟩
  rw [HFL.out] at hS11
  have B11 := Aside0.mk hS11.at2
  clear hS11
  go_wp2_with fail
  refine (crash_ (cuts := []) (n := 0) (c := 0) (A := none) B11.out (fun W' hW => Kd.C_nil _ _)).mono ?_
  rintro e w12 ⟨rfl, hS12⟩
  rw [k_crash] at hS12
  have B12 := Aside0.mk hS12
  clear hS12
  generalize ((keysOf (z3L.length / 64) noW).length : Int) = q12
  go_wp2_with fail
  refine (k_open3 B12.out).mono ?_
  rintro e w13 ⟨gs2, m2, L4, rfl, hL4, hS13⟩
  rw [HPE.out] at hS13
  have HL4 := Aside0.mk hL4
  have B13 := Aside0.mk hS13
  clear hS13 hL4
  go_wp2_with fail
  refine (page_in B13.out 2 hi2 (by rw [hp2]; decide) (by rw [hp4]; decide)).mono ?_
  rintro e w14 ⟨v14, rfl, hS14⟩
  rw [hp2] at hS14
  obtain ⟨g14, c14, rfl⟩ := hS14.rowFormN (n := 64) rfl (by decide)
  have B14 := Aside0.mk hS14
  clear hS14
  have y1 := (B14.out.rowCell (0 : Int) 0 (by decide)).1
  have y2 := (B14.out.at5.rowCell (0 : Int) 0 (by decide)).1
  rw [show List.getD s5 0 0 = 5 from rfl] at y1 y2
  go_wp2_with fail
  refine (root_ B14.out.at2).mono ?_
  rintro e w15 ⟨rfl, hb15⟩
  have B15 := Aside0.mk (B14.out.below hb15)
  clear hb15 y1 y2
  have hfd : ∀ w : World, (Instr.field 26 (.agg #[.int .i64 9, .int .i64 4, .int .u32 3]) 2).run Try.prog w = .ok (.int .u32 3) w := fun _ => by kernel_rfl
  go_wp2_with fail
  refine (page_out B15.out.at2 9 (by rw [hp4]; decide)).mono ?_
  rintro e w16 ⟨rfl, rfl⟩
  go_wp2_with fail
  refine (format_bad (n := 20) B15.out.at3 HL4.out 99 1 (by decide +kernel)).mono ?_
  rintro e w17 ⟨rfl, hS17⟩
  have B17 := Aside0.mk hS17
  clear hS17
  go_wp2_with fail
  refine (format_nil 1 1 _).mono ?_
  rintro e w18 ⟨rfl, rfl⟩
  go_wp2_with fail
  go_ret
  exact ⟨by first | rfl | (simp; done), B17.out.toBelow⟩
end Go.Proofs.Ytjngnigelkgekaa.Store
namespace Go.Proofs.Ytjngnigelkgekaa.Full
set_option linter.unusedVariables false
set_option linter.unusedSimpArgs false
open Go.RowKit Go.Proofs.YtjngnigelkgekaaW.PrintWords Go.Proofs.YtjngnigelkgekaaW.PrintLast Go.Proofs.YtjngnigelkgekaaW.PrintMore Go.Proofs.Ytjngnigelkgekaa.Kit Go.Proofs.Ytjngnigelkgekaa.Plain Go.Proofs.Ytjngnigelkgekaa.Disk Go.Proofs.Ytjngnigelkgekaa.Root
open Go.Proofs.Ytjngnigelkgekaa.Delta (Chg KC deltaF rightF okF)
open Go.Proofs.Ytjngnigelkgekaa.Redo (appR sizeF TpX tpx_shut changesX_)
open Go.Proofs.Ytjngnigelkgekaa.Tape (good)
open Go.Proofs.Ytjngnigelkgekaa.Store hiding join_
structure Inv (lg : Int) (e i : Nat) (ep : Int) (pages : List (List Int)) (named : List Int) (used seq : Nat) (las : List Int) (wt : Wt) : Prop where
  len : las.length = 64 * 40
  wl : ∀ i b, wt i = some b → b.length = 64
  ep0 : 0 ≤ ep
  ep1 : ep ≤ (e : Int)
  pl : pages.length = 6
  pb : ∀ p ∈ pages, p.length ≤ 1000000
  nk : ∀ k ∈ named, 0 ≤ k ∧ k < 6
  nl : named.length ≤ 6 * i
  us : (used : Int) ≤ sizeF lg
  sq : seq ≤ i
theorem Inv.ok {lg ep : Int} {e i used seq n2 : Nat} {pages : List (List Int)} {named : List Int} {las : List Int} {wt : Wt} {l : List Chg} {x : List Int} (h : Inv lg e i ep pages named used seq las wt) (hg : good 6 l) (hn : l.length = n2) (hf : fitsF lg used n2 = true) :
    Inv lg e (i + 1) ep (applyF pages l) (insAll named l) (used + (18 + 66 * n2)) (seq + 1) las (appR 40 las wt lg 6 ep (used : Int) x) := by
  have hr := right_in (good_right hg)
  refine ⟨h.len, appR_len h.len h.wl, h.ep0, h.ep1, by rw [applyF_len]; exact h.pl, applyF_le h.pb (fun c hc => by have := (hr.2 c hc).2.2; omega), fun k hk => ?_, ?_, ?_, by have := h.sq; omega⟩
  · rcases insAll_mem l hk with h1 | ⟨c, hc, rfl⟩
    · exact h.nk k h1
    · exact ⟨(hr.2 c hc).1, (hr.2 c hc).2.1⟩
  · have h1 := insAll_len l named
    have h2 := h.nl
    have h3 := hg.2.2
    omega
  · have h1 := (fits_in hf).2
    omega
section
variable {w0 W : World} {F : List HP} {gs g m : Nat} {a b ep : Int} {pages : List (List Int)} {named : List Int} {used seq : Nat}
end
end Go.Proofs.Ytjngnigelkgekaa.Full
namespace Go.Proofs.Ytjngnigelkgekaa.Opens
set_option linter.unusedVariables false
set_option linter.unusedSimpArgs false
open Go.RowKit Go.Proofs.YtjngnigelkgekaaW.PrintWords Go.Proofs.YtjngnigelkgekaaW.PrintLast Go.Proofs.YtjngnigelkgekaaW.PrintMore Go.Proofs.Ytjngnigelkgekaa.Kit Go.Proofs.Ytjngnigelkgekaa.Plain Go.Proofs.Ytjngnigelkgekaa.Disk Go.Proofs.Ytjngnigelkgekaa.Root
open Go.Proofs.Ytjngnigelkgekaa.Delta (Chg KC deltaF rightF okF)
open Go.Proofs.Ytjngnigelkgekaa.Redo (appR sizeF TpX tpx_shut changesX_ delta_good)
open Go.Proofs.Ytjngnigelkgekaa.Tape (good)
open Go.Proofs.Ytjngnigelkgekaa.Frame (longs longs_app frameF)
open Go.Proofs.Ytjngnigelkgekaa.Store hiding join_
theorem crashed_none {n : Nat} {L : List Int} (h : L.length = 64 * n) : crashed L noW [] = L := by
  unfold crashed
  rw [show L.length / 64 = n by omega]
  exact secs_self h
theorem and3 (b : Int) : Go.bits .and .i64 b 3 = b % 4 := by
  rw [and64]
  have e : (BitVec.ofInt 64 b &&& BitVec.ofInt 64 3).toNat = (BitVec.ofInt 64 b).toNat % 4 := by
    rw [BitVec.toNat_and]
    exact Nat.and_two_pow_sub_one_eq_mod _ 2
  have h := ofInt_toNat b
  rw [BitVec.toInt_eq_toNat_cond, e]
  split <;> omega
theorem good5 {l : List Chg} (h : good 5 l) : rightF l 5 = true := by
  unfold rightF
  rw [Bool.and_eq_true]
  exact ⟨by decide, h.1⟩
theorem pg_bounds_com {n a b : Nat} {E : Int} {p0 : List (List Int)} {ls : List (List Chg)} {G : List Int} (h : Com n a b E p0 ls G) : (pgAll p0 ls).length = b ∧ ∀ p ∈ pgAll p0 ls, p.length = 64 := by
  have hs := h.lay.shown
  rw [h.shown] at hs
  exact ⟨hs.1, fun p hp => (hs.2 p hp).1⟩
def Again (n a b : Nat) (E : Int) (ps : List (List Int)) (G : List Int) : Prop := (∃ p0 ls, Com n a b E p0 ls G ∧ pgAll p0 ls = ps) ∨ ∃ E0 ds, Old n a b E E0 ps ds G
theorem Again.lay {n a b : Nat} {E : Int} {ps : List (List Int)} {G : List Int} (h : Again n a b E ps G) : Lay n a b E G := by
  rcases h with ⟨p0, ls, h, rfl⟩ | ⟨E0, ds, h⟩
  · exact h.lay
  · exact h.lay
theorem Again.shown {n a b : Nat} {E : Int} {ps : List (List Int)} {G : List Int} (h : Again n a b E ps G) : shownF n a b E G = ps := by
  rcases h with ⟨p0, ls, h, rfl⟩ | ⟨E0, ds, h⟩
  · exact h.shown
  · exact h.shown
theorem Again.opened {n a b : Nat} {E : Int} {ps : List (List Int)} {G : List Int} (h : Again n a b E ps G) (hE : E < 4294967295) : Again n a b (E + 1) ps (openL n a b E G) := by
  rcases h with ⟨p0, ls, h, rfl⟩ | ⟨E0, ds, h⟩
  · exact .inr ⟨_, _, h.opened hE⟩
  · exact .inr ⟨_, _, h.opened hE⟩
theorem fits20 {u n : Nat} (hu : u ≤ 500) (hn : n ≤ 5) : fitsF 20 u n = true := by
  unfold fitsF Delta.needF sizeF
  rw [decide_eq_true_eq, if_neg (by omega), if_neg (by decide)]
  omega
theorem s_com : Com 40 20 5 1 (List.replicate 5 zz64) [] (fmtL 40 y0L noW 20 5) :=
  Com.start List.length_replicate (zeros_bytes _) Ref.none_len no_bytes (by decide)
set_option maxHeartbeats 3200000 in
set_option maxRecDepth 100000 in
theorem storeOpens_ {A0 : Option Addr} {n0 c0 : Nat} {tape : List Int} {times : Int} {w : World} (ht : I64.C w A0 n0 tape) :
    Calls Try.prog 18 #[.slice A0 n0 c0, .int .i64 times] w fun e w' => e = .returned (.bool true) ∧ Below w.heap.size w w' := by
  have HT := Aside0.mk ht
  have h3 := and3 times
  obtain ⟨q, hq⟩ : ∃ q : Nat, times % 4 = (q : Int) := ⟨(times % 4).toNat, by omega⟩
  have HQ : Aside0 (q ≤ 3) := ⟨by omega⟩
  rw [hq] at h3
  have hq1 : wrap64 (1 + (q : Int)) = 1 + (q : Int) := IntWalk.wrap64_in _ (by omega)
  clear ht hq
  go_enter Try.func18, Try.ntmps18
  go_wp2_with fail
  refine (new_ok (n := 40) (by decide) (by decide)).mono ?_
  rintro e w1 ⟨g, rfl, hS1⟩
  have B1 := Aside0.mk hS1
  clear hS1
  go_wp2_with fail
  refine (format_ok (n := 40) B1.out List.length_replicate (by decide) Ref.none_len 20 5 (by decide)).mono ?_
  rintro e w3 ⟨rfl, hS3⟩
  have B3 := Aside0.mk hS3
  clear hS3 B1
  go_wp2_with fail
  refine (lay_open B3.out s_com.lay (by decide) (by decide)).mono ?_
  rintro e w4 ⟨gs, m, rfl, hS4⟩
  have HO' := s_com.opened (by decide)
  rw [s_com.shown] at hS4
  obtain ⟨L, hL⟩ : ∃ L, openL 40 20 5 1 (fmtL 40 y0L noW 20 5) = L := ⟨_, rfl⟩
  rw [hL] at HO' hS4
  obtain ⟨p0, hp0⟩ : ∃ p, List.replicate 5 zz64 = p := ⟨_, rfl⟩
  rw [hp0] at HO' hS4
  have HC0 : Aside0 (Com 40 20 5 2 p0 [] L) := ⟨Old.com HO'⟩
  have HL := Aside0.mk HO'.lay.len
  have HC1 : Aside0 (Com 40 20 5 2 p0 [] (flushed L noW)) := ⟨by rw [flushed_none HL.out]; exact HC0.out⟩
  have HP0 : Aside0 (p0.length = 5 ∧ ∀ p ∈ p0, p.length = 64) := ⟨pg_bounds_com HC0.out⟩
  obtain ⟨gt, hgt⟩ : ∃ q, w4.heap.size = q := ⟨_, rfl⟩
  have B4' := tpx_shut (Int.le_refl 0) (hS4.newBlk 46 #[.slice A0 n0 c0, .int .i64 0])
  rw [hgt] at B4'
  have B4 : Aside0 (Sep w (w4.alloc (.cells #[.slice A0 n0 c0, .int .i64 0] 46)) (TpX gt A0 n0 c0 :: StB gs g m 20 5 2 p0 [] 0 0 :: Dsk g L noW :: [])) := ⟨B4'⟩
  clear hS4 hL HO' B3 hp0 B4'
  go_wp2_with fail
  clear hgt
  refine (changesX_ HT.out B4.out 5 (by decide)).mono ?_
  rintro e w5 ⟨v5, l1, rfl, hg1, hS5⟩
  obtain ⟨n1, hn1⟩ : ∃ n, l1.length = n := ⟨_, rfl⟩
  obtain ⟨A5, c5, rfl⟩ := hS5.rowN hn1
  have HG1 := Aside0.mk (And.intro hg1 hn1)
  have HN1 : Aside0 (n1 ≤ 5) := ⟨by have := hg1.2.2; omega⟩
  have B5 := Aside0.mk hS5.at4.at4
  clear hS5 hg1 hn1
  go_wp2_with fail
  refine (commit_ok (n := 40) (l := l1) (n2 := n1) (c2 := c5) B5.out HL.out (by decide) Ref.none_len (fun W' hW => hW.rowC') (good5 HG1.out.1) (by decide) (fits20 (by decide) HN1.out) (by decide) (by decide) (by rw [HP0.out.1]; decide) (fun p hp => by rw [HP0.out.2 p hp]; decide) (by decide)).mono ?_
  rintro e w6 ⟨rfl, hS6⟩
  have HC2' := HC1.out.commit HL.out Ref.none_len (good5 HG1.out.1) (delta_good HG1.out.1).1 (u := 0) rfl (q := 0) rfl (by rw [HG1.out.2]; have := HN1.out; omega)
  have HW6' := appR_len (n := 40) (a := 20) (b := 5) (c := 2) (at_ := ((0 : Nat) : Int)) (xs := frameF 2 ((0 : Nat) : Int) (deltaF l1)) HL.out Ref.none_len
  obtain ⟨wt6, hwt6⟩ : ∃ t, appR 40 L noW 20 5 2 ((0 : Nat) : Int) (frameF 2 ((0 : Nat) : Int) (deltaF l1)) = t := ⟨_, rfl⟩
  rw [hwt6] at HW6' hS6
  have HW6 := Aside0.mk HW6'
  have HC2 : Aside0 (Com 40 20 5 2 p0 [l1] (flushed L wt6)) := ⟨by rw [← hwt6]; exact HC2'⟩
  obtain ⟨p1, hp1⟩ : ∃ p, applyF p0 l1 = p := ⟨_, rfl⟩
  have HP1 : Aside0 (pgAll p0 [l1] = p1) := ⟨hp1⟩
  have HP1B : Aside0 (p1.length = 5 ∧ ∀ p ∈ p1, p.length = 64) := ⟨by have := pg_bounds_com HC2.out; rwa [HP1.out] at this⟩
  obtain ⟨nm1, hnm1⟩ : ∃ p, insAll [] l1 = p := ⟨_, rfl⟩
  have HNM : Aside0 (nm1.length ≤ 5) := ⟨by rw [← hnm1]; have := insAll_len l1 []; have := HN1.out; have := HG1.out.2; simp only [List.length_nil] at *; omega⟩
  obtain ⟨u1, hu1⟩ : ∃ u, 0 + (18 + 66 * n1) = u := ⟨_, rfl⟩
  have HU1 : Aside0 (u1 = 18 + 66 * n1) := ⟨by omega⟩
  rw [hp1, hnm1, hu1] at hS6
  have B6 : Aside0 (Sep w w6 (TpX gt A0 n0 c0 :: StB gs g m 20 5 2 p1 nm1 u1 1 :: Dsk g L wt6 :: [])) := ⟨hS6.at3.tail.at3⟩
  clear hS6 HC2' HW6' hwt6 hp1 hnm1 hu1 B5 B4
  go_wp2_with fail
  refine (changesX_ HT.out B6.out 5 (by decide)).mono ?_
  rintro e w7 ⟨v7, l2, rfl, hg2, hS7⟩
  obtain ⟨n2, hn2⟩ : ∃ n, l2.length = n := ⟨_, rfl⟩
  obtain ⟨A7, c7, rfl⟩ := hS7.rowN hn2
  have HG2 := Aside0.mk (And.intro hg2 hn2)
  have HN2 : Aside0 (n2 ≤ 5) := ⟨by have := hg2.2.2; omega⟩
  have B7 := Aside0.mk hS7.at4.at4
  clear hS7 hg2 hn2
  go_wp2_with fail
  refine (commit_ok (n := 40) (l := l2) (n2 := n2) (c2 := c7) B7.out HL.out (by decide) HW6.out (fun W' hW => hW.rowC') (good5 HG2.out.1) (by rw [HU1.out]; have := HN1.out; show _ ≤ (20 * 64 : Int); omega) (fits20 (by have := HU1.out; have := HN1.out; omega) HN2.out) (by decide) (by decide) (by rw [HP1B.out.1]; decide) (fun p hp => by rw [HP1B.out.2 p hp]; decide) (by have := HNM.out; omega)).mono ?_
  rintro e w8 ⟨rfl, hS8⟩
  have HC3' := HC2.out.commit HL.out HW6.out (good5 HG2.out.1) (delta_good HG2.out.1).1 (u := u1) (by
      simp only [List.map_cons, List.map_nil, longs]
      rw [delta_len (b := 5) (good5 HG1.out.1), HG1.out.2, HU1.out]; omega) (q := 1) rfl (by rw [HG2.out.2]; have := HN2.out; have := HN1.out; have := HU1.out; omega)
  obtain ⟨wt8, hwt8⟩ : ∃ t, appR 40 L wt6 20 5 2 (u1 : Int) (frameF 2 ((1 : Nat) : Int) (deltaF l2)) = t := ⟨_, rfl⟩
  rw [hwt8] at hS8
  have HC3 : Aside0 (Com 40 20 5 2 p0 [l1, l2] (flushed L wt8)) := ⟨by rw [← hwt8]; exact HC3'⟩
  obtain ⟨p2, hp2⟩ : ∃ p, applyF p1 l2 = p := ⟨_, rfl⟩
  have HP2 : Aside0 (pgAll p0 [l1, l2] = p2) := ⟨by rw [← hp2, ← HP1.out]; rfl⟩
  have HP2B : Aside0 (p2.length = 5 ∧ ∀ p ∈ p2, p.length = 64) := ⟨by have := pg_bounds_com HC3.out; rwa [HP2.out] at this⟩
  obtain ⟨nm2, hnm2⟩ : ∃ p, insAll nm1 l2 = p := ⟨_, rfl⟩
  obtain ⟨u2, hu2⟩ : ∃ u, u1 + (18 + 66 * n2) = u := ⟨_, rfl⟩
  rw [hp2, hnm2, hu2] at hS8
  have B8 : Aside0 (Sep w w8 (StB gs g m 20 5 2 p2 nm2 u2 2 :: Dsk g L wt8 :: [])) := ⟨hS8.at3.tail.at3.tail⟩
  clear hS8 HC3' hwt8 hp2 hnm2 hu2 B7 B6
  obtain ⟨G, hG⟩ : ∃ G, flushed L wt8 = G := ⟨_, rfl⟩
  have HGE := Aside0.mk hG
  obtain ⟨js, hjs⟩ : ∃ s, joinF p2 = s := ⟨_, rfl⟩
  have HJS := Aside0.mk hjs
  clear hG hjs
  rw [HGE.out] at HC3
  go_wp2_with fail
  refine (sync_ B8.out).mono ?_
  rintro e w9 ⟨rfl, hS9⟩
  rw [HGE.out] at hS9
  have B9 := Aside0.mk hS9
  clear hS9
  go_wp2_with fail
  refine (all_ B9.out (by rw [HP2B.out.1]; decide) (fun p hp => by rw [HP2B.out.2 p hp]; decide)).mono ?_
  rintro e w10 ⟨v10, rfl, hS10⟩
  obtain ⟨A10, c10, rfl⟩ := Sep.rowVN hS10 HP2B.out.1
  have B10 := Aside0.mk hS10
  clear hS10
  go_wp2_with fail
  refine (Store.join_ (l := p2) (by have h := (Sep.rowVC rfl B10.out).2.2; exact h) (by decide) (fun p hp => by rw [HP2B.out.2 p hp]; decide)).mono ?_
  rintro e w11 ⟨rfl, hw11⟩
  rw [HJS.out]
  have B11 := Aside0.mk B10.out.tail
  rw [hw11] at B11
  clear hw11
  go_wp2_with fail
  refine (root_ B11.out).mono ?_
  rintro e w12 ⟨rfl, hb12⟩
  have B12 := Aside0.mk (B11.out.below hb12).tail
  clear hb12
  have hfd : ∀ E w, (Instr.field 26 (.agg #[.int .i64 20, .int .i64 5, .int .u32 E]) 2).run Try.prog w = .ok (.int .u32 E) w := fun E _ => by kernel_rfl
  go_wp2_with fail
  have HA : Aside0 (Again 40 20 5 2 p2 G) := ⟨.inl ⟨_, _, HC3.out, HP2.out⟩⟩
  go_loopg [10, 11] (1 + q) (fun k_ ep p wr => ∃ (i E : Nat) (G : List Int), ep = .int .u32 (E : Int) ∧ p = .int .i64 (i : Int) ∧ i + k_ = 1 + q ∧ E = 2 + i ∧ Again 40 20 5 (E : Int) p2 G ∧ Sep w wr [Dsk g G noW])
  case atStart => exact ⟨0, 2, G, rfl, rfl, by omega, rfl, HA.out, B12.out⟩
  case round =>
    obtain ⟨i, E, G2, rfl, rfl, hik, hEi, hA, hS⟩ := hrel
    obtain ⟨w5, rfl⟩ : ∃ x, x = wr := ⟨_, rfl⟩
    have AK := Aside0.mk (And.intro hik hEi)
    have AA := Aside0.mk hA
    have AS := Aside0.mk hS
    by_cases ci : i < 1 + q
    case neg =>
      have hil : ¬ (i : Int) < 1 + (q : Int) := by omega
      clear hS hA hik hEi ci
      go_wp2_with fail
      refine (Store.known_ _).mono ?_
      rintro e w6 ⟨rfl, hb6⟩
      have B6 := Aside0.mk (AS.out.below hb6)
      clear hb6
      go_wp2_with fail
      go_ret
      exact ⟨by first | rfl | (simp; done), B6.out.toBelow⟩
    case pos =>
    have hil : (i : Int) < 1 + (q : Int) := by omega
    have HI1 : Aside0 (wrap64 ((i : Int) + 1) = ((i + 1 : Nat) : Int)) := ⟨by have := HQ.out; rw [IntWalk.wrap64_in _ (by omega)]; omega⟩
    have HE : Aside0 ((E : Int) < 4294967295) := ⟨by have := HQ.out; omega⟩
    have hEw : IntKind.u32.wrap ((E : Int) + 1) = (E : Int) + 1 := by have := HQ.out; rw [IntKind.wrap_u32]; omega
    clear hS hA hik hEi ci
    go_wp2_with fail
    refine (crash_ (cuts := []) (n := 0) (c := 0) (A := none) AS.out (fun W' hW => Kd.C_nil _ _)).mono ?_
    rintro e w6 ⟨rfl, hS6⟩
    rw [crashed_none AA.out.lay.len] at hS6
    have B6 := Aside0.mk hS6
    clear hS6
    generalize ((keysOf (G2.length / 64) noW).length : Int) = q12
    go_wp2_with fail
    refine (lay_open B6.out AA.out.lay (by decide) HE.out).mono ?_
    rintro e w7 ⟨gs7, m7, rfl, hS7⟩
    rw [AA.out.shown] at hS7
    have HA7 := Aside0.mk (AA.out.opened HE.out)
    obtain ⟨G3, hG3⟩ : ∃ x, openL 40 20 5 (E : Int) G2 = x := ⟨_, rfl⟩
    obtain ⟨E1, hE1⟩ : ∃ x : Nat, x = E + 1 := ⟨_, rfl⟩
    have HE1 := Aside0.mk hE1
    have hEc : (E : Int) + 1 = (E1 : Int) := by omega
    rw [hEc] at hEw
    rw [hG3, hEc] at hS7 HA7
    have B7 : Aside0 (Sep w w7 (StB gs7 g m7 20 5 (E1 : Int) p2 [] 0 0 :: Dsk g G3 noW :: [])) := ⟨hS7⟩
    clear hS7 hG3 hE1
    go_wp2_with fail
    refine (all_ B7.out (by rw [HP2B.out.1]; decide) (fun p hp => by rw [HP2B.out.2 p hp]; decide)).mono ?_
    rintro e w8 ⟨v8, rfl, hS8⟩
    obtain ⟨A8, c8, rfl⟩ := Sep.rowVN hS8 HP2B.out.1
    have B8 := Aside0.mk hS8
    clear hS8
    go_wp2_with fail
    refine (Store.join_ (l := p2) (by have h := (Sep.rowVC rfl B8.out).2.2; exact h) (by decide) (fun p hp => by rw [HP2B.out.2 p hp]; decide)).mono ?_
    rintro e w9 ⟨rfl, hw9⟩
    rw [HJS.out]
    have B9 := Aside0.mk B8.out.tail
    rw [hw9] at B9
    clear hw9
    go_wp2_with fail
    refine (root_ B9.out).mono ?_
    rintro e w10 ⟨rfl, hb10⟩
    have B10 := Aside0.mk (B9.out.below hb10)
    clear hb10
    go_wp2_with fail
    refine (used_ B10.out).mono ?_
    rintro e w11 ⟨rfl, rfl⟩
    go_wp2_with fail
    refine (seq_ B10.out).mono ?_
    rintro e w11 ⟨rfl, rfl⟩
    go_wp2_with fail
    go_roundg (gk - 1)
    case measure => have := AK.out; omega
    case rel => exact ⟨i + 1, E1, G3, by first | rfl | (rw [HE1.out]; go_num), by first | exact congrArg (Value.int .i64) HI1.out | go_num, by have := AK.out; omega, by have := AK.out; have := HE1.out; omega, HA7.out, B10.out.tail⟩
end Go.Proofs.Ytjngnigelkgekaa.Opens
namespace Go.Proofs.Ytjngnigelkgekaa.Kit
open Go.ChangeShapes Go.WideShapes Go.ChangeAt Go.RowKit Go.Proofs.YtjngnigelkgekaaW.PrintWords
set_option linter.unusedVariables false
section
variable {H : Type} {enc : TypeId × Value → H} {P : Program} {W : World} {base : Nat} {sp : Nat → Bool} {held : Bool}
/-- A slice of whole numbers. -/
theorem ints_C {T E : TypeId} {k : IntKind} {a : Option Addr} {len cap : Nat} {d : DataW H} {p : List MemPlace} (hT : P.underlying T = some (.slice E)) (hE : P.underlying E = some (.int k)) (hc : P.cellsOf E = 1)
    (h : DataW.Trod enc P W base (fun _ => true) held T (.slice a len cap) d p) : ∃ xs : List Int, len ≤ cap ∧ (Kd.int k).C W a len xs ∧ ∀ n ∈ xs, (Lit.int k n).wf = true := by
  obtain ⟨fuel, hf⟩ := h
  rcases open_ints hT hE hc hf with ⟨hcs, _⟩ | ⟨x, l, c, zs, hcs, _, hl, hm, hz, _, hcell, hwz⟩
  · simp [Value.cells] at hcs
    obtain ⟨rfl, rfl, rfl⟩ := hcs
    exact ⟨[], Nat.le_refl _, Kd.C_nil _ _, by simp⟩
  · simp [Value.cells] at hcs
    obtain ⟨rfl, rfl, rfl⟩ := hcs
    simp at hz
    simp only [maxLen] at hm
    refine ⟨zs.take len, hl, Kd.C_of_reads (d := (0 : Int)) (h1 := fun _ => rfl) ⟨by rw [List.length_take]; omega, by omega, fun h0 => ⟨x, rfl, fun j hj => ?_⟩⟩, fun n hn => hwz n (List.mem_of_mem_take hn)⟩
    rw [hcell j (by omega), List.getD_eq_getElem?_getD, List.getD_eq_getElem?_getD, List.getElem?_take, if_pos hj]
end
end Go.Proofs.Ytjngnigelkgekaa.Kit
