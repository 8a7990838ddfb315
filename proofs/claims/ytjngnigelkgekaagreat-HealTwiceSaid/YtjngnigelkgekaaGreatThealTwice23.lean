/- HealR, Heal3, RefNone, Alike19, Heal4, Heal6, StDeed3, StRef4, StFmt2, StCm: what HealTwice needs. -/
import Derived.Test.YtjngnigelkgekaaGreatThealTwice22
set_option linter.unusedVariables false
set_option linter.unusedSimpArgs false
namespace Go.Proofs.YtjngnigelkgekaaGreat.Heal
open Go.RowKit Go.Proofs.YtjngnigelkgekaaGreatW.PrintWords Go.Proofs.YtjngnigelkgekaaGreatW.PrintLast Go.Proofs.YtjngnigelkgekaaGreatW.PrintMore Go.Proofs.YtjngnigelkgekaaGreat.Kit Go.Proofs.YtjngnigelkgekaaGreat.Plain Go.Proofs.YtjngnigelkgekaaGreat.Disk Go.Proofs.YtjngnigelkgekaaGreat.Root
open Go.Proofs.YtjngnigelkgekaaGreat.Delta (Chg)
open Go.Proofs.YtjngnigelkgekaaGreat.Store (Lay noW rowsF shownF nmAll nmAll_mem nmAll_new sortK sortK_perm crash_len crash_sec m32_nat homeW_at homeW homeW_len)
open Go.Proofs.YtjngnigelkgekaaGreat.Home (atF)
open Go.Proofs.YtjngnigelkgekaaGreat.RStore
open Go.Proofs.YtjngnigelkgekaaGreat.Deed
section
variable {n a b : Nat} {E : Int} {P : List (List Int)} {L L' : List Int} {K : Nat → Prop}
structure Q1 (n a : Nat) (K : Nat → Prop) (L : List Int) (S : DS) : Prop where
  ok : OkS n S
  out : ∀ i, i < n → (∀ k, K k → i ≠ 2 + a + k) → sec S.1 i = sec L i ∧ S.2 i = none
def HomeP (a : Nat) (K : Nat → Prop) (x : Dd) : Prop := x = none ∨ ∃ k p, K k ∧ x = some (2 + a + k, p) ∧ p.length = 64
theorem Q1.step {S : DS} {x : Dd} (h : Q1 n a K L S) (hx : HomeP a K x) : Q1 n a K L (doD S x) := by
  rcases hx with rfl | ⟨k, p, hk, rfl, hp⟩
  · refine ⟨⟨Ref.flushed_len h.ok.1 h.ok.2, Ref.none_len⟩, fun i hi ho => ?_⟩
    have h1 := h.out i hi ho
    refine ⟨?_, rfl⟩
    show sec (flushed S.1 S.2) i = sec L i
    rw [Ref.sec_flushed h.ok.1 h.ok.2 hi, h1.2]
    exact h1.1
  · refine ⟨⟨h.ok.1, Ref.upd_len h.ok.2 hp⟩, fun i hi ho => ?_⟩
    have h1 := h.out i hi ho
    refine ⟨h1.1, ?_⟩
    show (if i = 2 + a + k then some p else S.2 i) = none
    rw [if_neg (ho k hk)]
    exact h1.2
theorem Q1.run : ∀ (ds : List Dd) {S : DS}, Q1 n a K L S → (∀ x ∈ ds, HomeP a K x) → Q1 n a K L (runD S ds)
  | [], _, h, _ => h
  | x :: t, _, h, hd => Q1.run t (h.step (hd x (List.mem_cons_self ..))) (fun y hy => hd y (List.mem_cons_of_mem _ hy))
theorem any_lay (h : Lay n a b E L) (hn : n ≤ 160) : Any n L noW a b E := ⟨⟨h.len, Ref.none_len, h.byt, Store.no_bytes⟩, hn, h.best, h.right, h.rgt.2.2.2.2.2.2⟩
theorem named_key (ha : Any n L noW a b E) {k : Nat} : k ∈ keyL n a b E L noW ↔ Named n a b E L k := by
  have h1 := ks_eq ha
  have h2 : (k : Int) ∈ sortK (nmAll [] (rowsG n a b E L noW)) ↔ k ∈ keyL n a b E L noW := by
    rw [h1, List.mem_map]
    constructor
    · rintro ⟨x, hx, he⟩
      rw [show k = x by omega]; exact hx
    · exact fun h => ⟨k, h, rfl⟩
  rw [← h2, ← (sortK_perm _).mem_iff]
  constructor
  · intro h
    exact nmAll_mem (P := fun x => ∃ l ∈ rowsF n a b E L, ∃ c ∈ l, c.1 = x) (fun k hk => by cases hk) (fun x hx c hc => ⟨x, hx, c, hc, rfl⟩) _ h
  · rintro ⟨l, hl, c, hc, he⟩
    rw [← he]
    exact nmAll_new _ hl hc
theorem HL.homeQ (h : HL n a b E P L) (hk : ∀ k, k < b → (K k ↔ Named n a b E L k)) (hl : L'.length = 64 * n) (hb : Bytes L') (hs : ∀ i, i < n → (∀ k, K k → i ≠ 2 + a + k) → sec L' i = sec L i) : HL n a b E P L' := by
  have hrg := h.h0.lay.rgt
  have hlay : Lay n a b E L' := ⟨hl, hb, hrg, by rw [hs _ (by omega) (fun k _ => by omega)]; exact h.h0.lay.rt, by rw [hs _ (by omega) (fun k _ => by omega)]; exact h.h0.lay.ot⟩
  refine ⟨h.h0.homes hlay (fun i hi => hs _ (by omega) (fun k _ => by omega)) (fun k hkb => ?_), ?_⟩
  · by_cases hm : K k
    · exact .inr ((hk k hkb).1 hm)
    · exact .inl (hs _ (by omega) (fun k2 h2 he => hm (by rw [show k = k2 by omega]; exact h2)))
  · obtain ⟨e, he, ht⟩ := h.os
    exact ⟨e, he, by rw [hs _ (by omega) (fun k _ => by omega)]; exact ht⟩
set_option maxHeartbeats 1600000 in
theorem HL.round (h : HL n a b E P L) (hn : n ≤ 160) (hE : E ≤ 100) (cuts : List Int) (j : Nat) : HL n a b E P (crashed (runD (L, noW) ((dsOf n L noW).take j)).1 (runD (L, noW) ((dsOf n L noW).take j)).2 cuts) ∨ HL n a b (E + 1) P (crashed (runD (L, noW) ((dsOf n L noW).take j)).1 (runD (L, noW) ((dsOf n L noW).take j)).2 cuts) := by
  have hrg := h.h0.lay.rgt
  have hlen := h.h0.lay.len
  have ha := any_lay h.h0.lay hn
  have hds := ds_any ha (by omega)
  have hsh : shownG n a b E L noW = P := h.h0.sh
  rw [hsh] at hds
  have hPp : ∀ k : Nat, k < b → (P.getD k []).length = 64 := by rw [← hsh]; exact ha.st.pg
  have hkn : ∀ k, k < b → (k ∈ keyL n a b E L noW ↔ Named n a b E L k) := fun k _ => named_key ha
  have hkb : ∀ k ∈ keyL n a b E L noW, k < b := fun k hk => nmL_lt hk
  obtain ⟨ks, hks⟩ : ∃ ks, keyL n a b E L noW = ks := ⟨_, rfl⟩
  rw [hks] at hds hkn hkb
  obtain ⟨A, hA⟩ : ∃ A : List Dd, none :: (homeD a P ks ++ [none]) = A := ⟨_, rfl⟩
  have hD : dsOf n L noW = A ++ [rootD a b E, none] := by
    rw [hds, ← hA]
    unfold chkD
    simp
  have hAm : ∀ x ∈ A, HomeP a (fun k => k ∈ ks) x := fun x hx => by
    rw [← hA] at hx
    rcases List.mem_cons.1 hx with rfl | hx
    · exact .inl rfl
    rcases List.mem_append.1 hx with hx | hx
    · unfold homeD at hx
      obtain ⟨k, hk, rfl⟩ := List.mem_map.1 hx
      exact .inr ⟨k, _, hk, rfl, hPp k (hkb k hk)⟩
    · exact .inl (List.mem_singleton.1 hx)
  have q0 : Q1 n a (fun k => k ∈ ks) L (L, noW) := ⟨⟨hlen, Ref.none_len⟩, fun i hi _ => ⟨rfl, rfl⟩⟩
  have hdk := fun j => dk_part ha.dk hn j
  by_cases hj : j ≤ A.length
  · left
    have hT : (dsOf n L noW).take j = A.take j := by rw [hD, List.take_append_of_le_length hj]
    have q1 := q0.run (A.take j) (fun x hx => hAm x (List.mem_of_mem_take hx))
    have d1 := hdk j
    rw [hT] at d1 ⊢
    have dc := d1.crash cuts
    exact h.homeQ hkn dc.len dc.byt (fun i hi ho => by rw [crash_sec d1.len d1.wl hi (q1.out i hi ho).2]; exact (q1.out i hi ho).1)
  have hrt : rightR (a : Int) (b : Int) E n = true := ha.rgt
  obtain ⟨HW, hHW⟩ : ∃ w, homeW n (a : Int) (b : Int) E P (ks.map (fun k : Nat => (k : Int))) noW = w := ⟨_, rfl⟩
  have hWl : ∀ i c, HW i = some c → c.length = 64 := by
    rw [← hHW]
    exact homeW_len (n := n) (a := (a : Int)) (b := (b : Int)) (c := E) (pages := P) _ Ref.none_len
  have hT : runD (L, noW) A = (flushed L HW, noW) := by
    rw [← hA]
    show runD (flushed L noW, noW) (homeD a P ks ++ [none]) = _
    rw [runD_append, flushed_none hlen, homeD_run hrt hPp ks L noW hkb, hHW]
    rfl
  have q1 := q0.run A hAm
  have d1 := hdk A.length
  rw [show (dsOf n L noW).take A.length = A by rw [hD, List.take_append_of_le_length (Nat.le_refl _), List.take_length], hT] at d1
  rw [hT] at q1
  obtain ⟨L2, hL2⟩ : ∃ x, flushed L HW = x := ⟨_, rfl⟩
  have hpg : ∀ k, k < b → sec L2 (2 + a + k) = P.getD k [] := fun k hk => by
    rw [← hL2, Ref.sec_flushed hlen hWl (by omega), ← hHW, homeW_at hrt hPp _ noW (fun x hx => by
      obtain ⟨y, hy, rfl⟩ := List.mem_map.1 hx
      have := hkb y hy
      omega) (2 + a + k)]
    by_cases hm : k ∈ ks
    · rw [if_pos ⟨(k : Int), List.mem_map.2 ⟨k, hm, rfl⟩, by unfold atF; omega⟩, show 2 + a + k - (2 + a) = k by omega]
      rfl
    · rw [if_neg (by
        rintro ⟨x, hx, he⟩
        obtain ⟨y, hy, rfl⟩ := List.mem_map.1 hx
        unfold atF at he
        exact hm (by rw [show k = y by omega]; exact hy))]
      exact (h.h0.other hk (fun hnm => hm ((hkn k hk).2 hnm))).symm
  rw [hL2] at hT q1 d1
  have h2 : HL n a b E P L2 := h.homeQ hkn d1.len d1.byt (fun i hi ho => (q1.out i hi ho).1)
  obtain ⟨p, hp⟩ : ∃ p, ((E + 1) % 2).toNat = p := ⟨_, rfl⟩
  obtain ⟨R, hR⟩ : ∃ R, rootF (a : Int) (b : Int) (E + 1) = R := ⟨_, rfl⟩
  have hRl : R.length = 64 := by rw [← hR]; exact rootF_len _ _ _
  obtain ⟨w2, hw2⟩ : ∃ w : Wt, (fun i => if i = p then some R else noW i) = w := ⟨_, rfl⟩
  have hw2p : w2 p = some R := by rw [← hw2]; exact if_pos rfl
  have hw2o : ∀ i, i ≠ p → w2 i = none := fun i hi => by rw [← hw2]; exact if_neg hi
  have hT2 : runD (L, noW) (A ++ [rootD a b E]) = (L2, w2) := by
    rw [runD_snoc, hT, ← hw2, ← hR, ← hp]
    unfold rootD
    rw [m32_nat (by omega), m32_nat (by omega)]
    rfl
  by_cases hj2 : j = A.length + 1
  · have hTj : (dsOf n L noW).take j = A ++ [rootD a b E] := by
      rw [hD, hj2, List.take_append, List.take_of_length_le (by omega), show A.length + 1 - A.length = 1 by omega]
      rfl
    have d2' := hdk j
    rw [hTj, hT2] at d2' ⊢
    have d2 : Dk n L2 w2 := d2'
    have dc := d2.crash cuts
    refine h2.torn hpg (by omega) dc.len dc.byt (fun i hi ho => ?_) ?_
    · rw [hp] at ho
      exact crash_sec d2.len d2.wl hi (hw2o i ho)
    · obtain ⟨e1, he1, ht1⟩ := h2.os
      rw [hp] at ht1 ⊢
      have hcp : sec (crashed L2 w2 cuts) p = R.take (cutN cuts (rank w2 p)) ++ (sec L2 p).drop (cutN cuts (rank w2 p)) := by
        unfold crashed
        rw [show L2.length / 64 = n by rw [d2.len]; omega, sec_secs (cutS_len d2.len d2.wl) (by omega)]
        unfold cutS
        rw [hw2p]
      obtain ⟨e, he, ht⟩ := torn_head (a := a) (b := b) (e2 := E + 1) (s := sec L2 p) (t := R) (by omega) (by omega) ht1 (by rw [← hR]; exact rootF_take _ _ _) hRl (cutN cuts (rank w2 p))
      exact ⟨e, by omega, by rw [hcp]; exact ht⟩
  · right
    have hTj : (dsOf n L noW).take j = (A ++ [rootD a b E]) ++ [none] := by
      rw [hD, List.take_of_length_le (by rw [List.length_append]; show A.length + 2 ≤ j; omega), List.append_assoc]
      rfl
    have d2' := hdk j
    rw [hTj, runD_snoc, hT2] at d2' ⊢
    have d2 : Dk n (flushed L2 w2) noW := d2'
    have dc := d2.crash cuts
    have hw2l : ∀ i c, w2 i = some c → c.length = 64 := fun i c hc => by
      by_cases hi : i = p
      · rw [hi, hw2p] at hc; cases hc; exact hRl
      · rw [hw2o i hi] at hc; cases hc
    have hsq : ∀ i, i < n → sec (crashed (flushed L2 w2) noW cuts) i = (w2 i).getD (sec L2 i) := fun i hi => by
      rw [crash_sec d2.len d2.wl hi rfl]
      exact Ref.sec_flushed h2.h0.lay.len hw2l hi
    refine h2.h0.next hpg (by omega) dc.len dc.byt (fun i hi ho => ?_) ?_
    · rw [hp] at ho
      show sec (crashed (flushed L2 w2) noW cuts) i = _
      rw [hsq i hi, hw2o i ho]; rfl
    · rw [hp, hR]
      show sec (crashed (flushed L2 w2) noW cuts) p = _
      rw [hsq p (by omega), hw2p]; rfl
end
end Go.Proofs.YtjngnigelkgekaaGreat.Heal
namespace Go.Proofs.YtjngnigelkgekaaGreat.Heal
open Go.RowKit Go.Proofs.YtjngnigelkgekaaGreatW.PrintWords Go.Proofs.YtjngnigelkgekaaGreatW.PrintLast Go.Proofs.YtjngnigelkgekaaGreatW.PrintMore Go.Proofs.YtjngnigelkgekaaGreat.Kit Go.Proofs.YtjngnigelkgekaaGreat.Plain Go.Proofs.YtjngnigelkgekaaGreat.Disk Go.Proofs.YtjngnigelkgekaaGreat.Root
open Go.Proofs.YtjngnigelkgekaaGreat.RStore
open Go.Proofs.YtjngnigelkgekaaGreat.Deed
open Go.Proofs.YtjngnigelkgekaaGreat.Home (putP mayF atF)
theorem deedV_len (g gb gR gP gN : Nat) (js : List Nat) : (deedV g gb gR gP gN js).length = js.length + 4 := by
  unfold deedV; rw [List.length_cons, List.length_append, List.length_map]; rfl
theorem deed_at {g gb gR gP gN a b : Nat} {E : Int} {js : List Nat} {L : List Nat} {pages : List (List Int)} (hl : js.length = L.length) {j : Nat} (hj : j < js.length + 4) :
    ((deedV g gb gR gP gN js)[j]? = some (flushV g) ∧ (chkD a b E pages L)[j]? = some none) ∨
    (∃ (i q k : Nat), js[i]? = some q ∧ L[i]? = some k ∧ (deedV g gb gR gP gN js)[j]? = some (putV gb gR gP q) ∧ (chkD a b E pages L)[j]? = some (some (2 + a + k, pages.getD k []))) ∨
    ((deedV g gb gR gP gN js)[j]? = some (rootW gb gN) ∧ (chkD a b E pages L)[j]? = some (rootD a b E)) := by
  unfold deedV chkD
  match j, hj with
  | 0, _ => exact .inl ⟨rfl, rfl⟩
  | i + 1, hj =>
    rw [List.getElem?_cons_succ, List.getElem?_cons_succ]
    by_cases hi : i < js.length
    · refine .inr (.inl ⟨i, js[i], L[i]'(by omega), List.getElem?_eq_getElem hi, List.getElem?_eq_getElem (by omega), ?_, ?_⟩)
      · rw [List.getElem?_append_left (by rw [List.length_map]; exact hi), List.getElem?_map, List.getElem?_eq_getElem hi]; rfl
      · unfold homeD
        rw [List.getElem?_append_left (by rw [List.length_map]; omega), List.getElem?_map, List.getElem?_eq_getElem (by omega)]; rfl
    · rw [List.getElem?_append_right (by rw [List.length_map]; omega), List.length_map, List.getElem?_append_right (by rw [homeD_len]; omega), homeD_len, ← hl]
      match hd : i - js.length with
      | 0 => exact .inl ⟨rfl, rfl⟩
      | 1 => exact .inr (.inr ⟨rfl, rfl⟩)
      | 2 => exact .inl ⟨rfl, rfl⟩
      | m + 3 => omega
section
variable {w0 W : World} {F : List HP} {g n : Nat} {las : List Int} {wt : Wt}
set_option maxHeartbeats 800000 in
theorem hDeeds_ (h : Sep w0 W (Dsk g las wt :: F)) (hd : Dk n las wt) (hn : n ≤ 160) :
    Calls Tryz.prog 22 #[.pointer (some ⟨g, 0, none⟩)] W fun e w' => e = .returned (.int .i64 ((dsOf n las wt).length : Int)) ∧ Sep w0 w' (Dsk g las wt :: F) := by
  have H0 := Aside0.mk h
  rcases open_cases hd hn with ⟨er, hno⟩ | ⟨a, b, E, ha, he⟩
  · have HQ := Aside0.mk (And.intro hd (And.intro hn hno))
    rw [ds_no hno]
    clear h hd hn hno
    go_enter Tryz.func22, Tryz.ntmps22
    go_wp2_with fail
    refine (deeds_none H0.out HQ.out.1 HQ.out.2.1 HQ.out.2.2).mono ?_
    rintro e w1 ⟨rfl, hS1⟩
    have B1 := Aside0.mk hS1
    clear hS1
    go_wp2_with fail
    go_ret
    exact ⟨by first | rfl | (simp; done), B1.out⟩
  · have HQ := Aside0.mk (And.intro ha he)
    have hlen : (dsOf n las wt).length = (Store.sortK (Store.nmAll [] (rowsG n a b E las wt))).length + 4 := by
      rw [ds_any ha he, chkD_len, ks_eq ha, List.length_map]
    have HLN := Aside0.mk hlen
    obtain ⟨N, hN⟩ : ∃ x, (dsOf n las wt).length = x := ⟨_, rfl⟩
    rw [hN]
    have HN := Aside0.mk hN
    clear h hd hn ha he hlen hN
    go_enter Tryz.func22, Tryz.ntmps22
    go_wp2_with fail
    refine (deeds_ok H0.out HQ.out.1 HQ.out.2).mono ?_
    rintro e w1 ⟨v, gb, gR, gP, gN, js, Ap, cp, cs, rfl, hjs, hS1⟩
    obtain ⟨A1, c1, rfl⟩ := hS1.rowN (n := N) (by rw [deedV_len, hjs, ← HLN.out]; exact HN.out)
    have B1 := Aside0.mk hS1.tail.drop2
    clear hS1 hjs
    go_wp2_with fail
    go_ret
    exact ⟨by first | rfl | (simp; done), B1.out⟩
set_option maxHeartbeats 800000 in
theorem hDeeds_nil (W : World) : Calls Tryz.prog 22 #[.pointer none] W fun e w' => e = .returned (.int .i64 0) ∧ Below W.heap.size W w' := by
  go_enter Tryz.func22, Tryz.ntmps22
  go_wp2_with fail
  refine (deeds_nil _).mono ?_
  rintro e w1 ⟨rfl, hb⟩
  have HB := Aside0.mk hb
  clear hb
  go_wp2_with fail
  go_ret
  exact ⟨by first | rfl | (simp; done), HB.out⟩
theorem doD_put {a b : Nat} {E : Int} {pages : List (List Int)} (hr : rightR (a : Int) (b : Int) E n = true) {k : Nat} (hk : k < b) (hp : (pages.getD k []).length = 64) (S : DS) : (S.1, putP n S.2 (a : Int) (b : Int) E (k : Int) (pages.getD (k : Int).toNat [])) = doD S (some (2 + a + k, pages.getD k [])) := by
  have hm : mayF n (a : Int) (b : Int) E (k : Int) = true := by
    unfold mayF
    rw [hr, decide_eq_true (show (0 : Int) ≤ (k : Int) by omega), decide_eq_true (show (k : Int) < (b : Int) by omega)]; rfl
  have h4 := of_decide_eq_true hr
  have hat : atF (a : Int) (k : Int) = 2 + a + k := by unfold atF; omega
  unfold putP putW
  rw [if_pos hm, hat, Int.toNat_natCast, if_pos ⟨by omega, hp⟩]
  rfl
theorem doD_root {a b : Nat} {E : Int} (hr : rightR (a : Int) (b : Int) E n = true) (S : DS) : (S.1, putW n S.2 ((E + 1) % 2).toNat (rootF (m32 (a : Int)) (m32 (b : Int)) (E + 1))) = doD S (rootD a b E) := by
  have h4 := of_decide_eq_true hr
  unfold putW rootD
  rw [if_pos ⟨by omega, rootF_len _ _ _⟩]
  rfl
theorem run_take {S : DS} {ds : List Dd} {j : Nat} {x : Dd} (h : ds[j]? = some x) : runD S (ds.take (j + 1)) = doD (runD S (ds.take j)) x := by
  obtain ⟨hj, rfl⟩ := List.getElem?_eq_some_iff.1 h
  rw [Store.take_one hj, runD_snoc]
set_option maxHeartbeats 3200000 in
set_option maxRecDepth 100000 in
theorem hPart_ (h : Sep w0 W (Dsk g las wt :: F)) (hd : Dk n las wt) (hn : n ≤ 160) (m : Int) :
    Calls Tryz.prog 23 #[.pointer (some ⟨g, 0, none⟩), .int .i64 m] W fun e w' => e = .returned (.int .i64 (partK m (dsOf n las wt).length : Int)) ∧ Sep w0 w' (Dsk g (runD (las, wt) ((dsOf n las wt).take (partK m (dsOf n las wt).length))).1 (runD (las, wt) ((dsOf n las wt).take (partK m (dsOf n las wt).length))).2 :: F) := by
  have H0 := Aside0.mk h
  rcases open_cases hd hn with ⟨er, hno⟩ | ⟨a, b, E, ha, he⟩
  · have HQ := Aside0.mk (And.intro hd (And.intro hn hno))
    rw [ds_no hno]
    have hk0 : partK m ([] : List Dd).length = 0 := Nat.le_zero.1 (partK_le m 0)
    have hz : max 0 (min m 0) = 0 := by omega
    rw [hk0]
    clear h hd hn hno hk0
    go_enter Tryz.func23, Tryz.ntmps23
    go_wp2_with fail
    refine (deeds_none H0.out HQ.out.1 HQ.out.2.1 HQ.out.2.2).mono ?_
    rintro e w1 ⟨rfl, hS1⟩
    have B1 := Aside0.mk hS1
    clear hS1
    go_wp2_with fail
    go_loopg [19] 1 (fun _ p wr => p = .int .i64 0 ∧ w1 = wr)
    case atStart => exact ⟨rfl, rfl⟩
    case round =>
      obtain ⟨rfl, rfl⟩ := hrel
      go_wp2_with fail
      go_ret
      exact ⟨by first | rfl | (simp; done), B1.out⟩
  · have HQ := Aside0.mk (And.intro ha he)
    have HDK := Aside0.mk (And.intro hd hn)
    have hlen : (dsOf n las wt).length = (Store.sortK (Store.nmAll [] (rowsG n a b E las wt))).length + 4 := by
      rw [ds_any ha he, chkD_len, ks_eq ha, List.length_map]
    have HLN := Aside0.mk hlen
    have HDS := Aside0.mk (ds_any ha he)
    have HKS := Aside0.mk (ks_eq ha)
    have HPT : Aside0 (∀ k : Nat, Dk n (runD (las, wt) ((dsOf n las wt).take k)).1 (runD (las, wt) ((dsOf n las wt).take k)).2) := ⟨dk_part hd hn⟩
    have hnb := (ds_ok hd hn).2
    obtain ⟨D, hDe⟩ : ∃ x, dsOf n las wt = x := ⟨_, rfl⟩
    rw [hDe] at HLN HDS HPT hnb ⊢
    obtain ⟨N, hN⟩ : ∃ x, D.length = x := ⟨_, rfl⟩
    rw [hN] at HLN hnb ⊢
    have HN := Aside0.mk hN
    obtain ⟨kk, hkk⟩ : ∃ x, partK m N = x := ⟨_, rfl⟩
    have hz : max 0 (min m (N : Int)) = (kk : Int) := by rw [← hkk]; unfold partK; omega
    have hkN : kk ≤ N := by rw [← hkk]; exact partK_le m N
    rw [hkk]
    have hshl := ha.shown.1
    have hnu := ha.nums
    have HSH := Aside0.mk (And.intro hshl (And.intro hnu.2.2.1 hnu.2.2.2.1))
    have HPG := Aside0.mk (ha.st).pg
    clear h hd hn ha he hlen hN hDe hkk hshl hnu
    go_enter Tryz.func23, Tryz.ntmps23
    go_wp2_with fail
    refine (deeds_ok H0.out HQ.out.1 HQ.out.2).mono ?_
    rintro e w1 ⟨v, gb, gR, gP, gN, js, Ap, cp, cs, rfl, hjs, hS1⟩
    obtain ⟨ks, hks⟩ : ∃ x, Store.sortK (Store.nmAll [] (rowsG n a b E las wt)) = x := ⟨_, rfl⟩
    obtain ⟨ps, hps⟩ : ∃ x, shownG n a b E las wt = x := ⟨_, rfl⟩
    obtain ⟨L, hL⟩ : ∃ x, keyL n a b E las wt = x := ⟨_, rfl⟩
    have hLlt : ∀ k ∈ L, k < b := fun k hk => by rw [← hL] at hk; exact nmL_lt hk
    rw [hks, hps] at hS1
    rw [hks] at hjs HLN
    rw [hks, hL] at HKS
    rw [hps] at HSH HPG
    rw [hps, hL] at HDS
    obtain ⟨ga, ca, hv⟩ := hS1.rowFormN (n := N) (by rw [deedV_len, hjs]; exact HLN.out.symm) (by have := HLN.out; omega)
    subst hv
    have hcap := hS1.rowC.2.1
    have HJL : Aside0 (js.length = L.length ∧ js.length + 4 = N) := ⟨by rw [hjs]; exact ⟨by rw [HKS.out, List.length_map], HLN.out.symm⟩⟩
    have HLT := Aside0.mk hLlt
    have B1 := Aside0.mk (Sep.pull [_, _] (Sep.push [_, _] hS1)).at2
    have hq : ∀ W : World, (Instr.slice 102 (.slice (some ⟨ga, 0, none⟩) N ca) none (some (.int .i64 (kk : Int))) none).run Tryz.prog W = .ok (.slice (some ⟨ga, 0, none⟩) kk ca) W := fun W => cutHi Tryz.underlying102 infoFn (some ⟨ga, 0, none⟩) N ca kk rfl hkN hcap W
    clear hS1 hjs hks hps hL hLlt hcap
    have B2 : Aside0 (Sep w0 w1 (Dsk g (runD (las, wt) (D.take 0)).1 (runD (las, wt) (D.take 0)).2 :: Fx (HF g gb gR gP gN js ks a b E Ap cp ps cs) :: Row KV 1 (.slice (some ⟨ga, 0, none⟩) N ca) (deedV g gb gR gP gN js) :: F)) := ⟨by
      have h1 := B1.out
      rw [List.take_zero]
      first | exact h1 | exact h1.at2 | exact h1.at3 | exact h1.sw23 | exact h1.at2.sw23 | exact h1.at3.sw23⟩
    clear B1
    go_wp2_with fail
    go_loopg [19] kk (fun k_ p wr => ∃ (j : Nat), p = .int .i64 (j : Int) ∧ j + k_ = kk ∧ Sep w0 wr (Dsk g (runD (las, wt) (D.take j)).1 (runD (las, wt) (D.take j)).2 :: Fx (HF g gb gR gP gN js ks a b E Ap cp ps cs) :: Row KV 1 (.slice (some ⟨ga, 0, none⟩) N ca) (deedV g gb gR gP gN js) :: F))
    case atStart => exact ⟨0, rfl, by omega, B2.out⟩
    case round =>
      obtain ⟨j, rfl, hjk, hS⟩ := hrel
      obtain ⟨w5, rfl⟩ : ∃ x, x = wr := ⟨_, rfl⟩
      have AK := Aside0.mk hjk
      have AS := Aside0.mk hS
      clear hS B2 hq
      by_cases cj : j < kk
      case neg =>
        obtain rfl : j = kk := by omega
        have hjl : ¬ (j : Int) < (j : Int) := by omega
        clear hjk cj
        go_wp2_with fail
        go_ret
        exact ⟨by first | rfl | (simp; done), AS.out.drop2.drop2⟩
      case pos =>
      have hjl : (j : Int) < (kk : Int) := by omega
      have hjN : j < N := by omega
      have hk68 : kk ≤ 68 := by omega
      obtain ⟨T, hT⟩ : ∃ x, runD (las, wt) (D.take j) = x := ⟨_, rfl⟩
      have HTD := Aside0.mk (HPT.out j)
      rw [hT] at AS HTD
      have HTT := Aside0.mk hT
      have hrow := Sep.pull [_, _] AS.out
      rcases deed_at (g := g) (gb := gb) (gR := gR) (gP := gP) (gN := gN) (a := a) (b := b) (E := E) (pages := ps) HJL.out.1 (j := j) (by rw [HJL.out.2]; exact hjN) with ⟨h1, h2⟩ | ⟨i, q, k, hi, hk, h1, h2⟩ | ⟨h1, h2⟩
      · obtain ⟨hjd, hje⟩ := List.getElem?_eq_some_iff.1 h1
        have z : w5.cell? ⟨ga, j, none⟩ = some (.func (.func 67) #[.pointer (some ⟨g, 0, none⟩)] #[]) := kv_cell hrow hjN hjd (by rw [hje]; rfl)
        have HX : Aside0 (runD (las, wt) (D.take (j + 1)) = doD T none) := ⟨by rw [run_take (x := none) (by rw [HDS.out]; exact h2), HTT.out]⟩
        clear hjk cj hrow h1 h2 hjd hje hT hjN
        go_wp2_with fail
        refine (flush_ AS.out).mono ?_
        rintro e w6 ⟨rfl, hS6⟩
        have B6 := Aside0.mk hS6
        clear hS6 z
        go_wp2_with fail
        go_roundg (gk - 1)
        case measure => have := AK.out; omega
        case rel => exact ⟨j + 1, by go_num, by have := AK.out; omega, by rw [HX.out]; exact B6.out⟩
      · obtain ⟨hjd, hje⟩ := List.getElem?_eq_some_iff.1 h1
        have z : w5.cell? ⟨ga, j, none⟩ = some (.func (.func 97) #[] #[.pointer (some ⟨gb, 0, none⟩), .pointer (some ⟨gR, 0, none⟩), .pointer (some ⟨q, 0, none⟩), .pointer (some ⟨gP, 0, none⟩)]) := kv_cell hrow hjN hjd (by rw [hje]; rfl)
        have hkb : k < b := HLT.out k (List.mem_of_getElem? hk)
        have HX : Aside0 (runD (las, wt) (D.take (j + 1)) = (T.1, putP n T.2 (a : Int) (b : Int) E (k : Int) (ps.getD (k : Int).toNat []))) := ⟨by rw [run_take (x := some (2 + a + k, ps.getD k [])) (by rw [HDS.out]; exact h2), HTT.out, doD_put HQ.out.1.rgt hkb (HPG.out k hkb)]⟩
        have HI : Aside0 (js[i]? = some q ∧ ks[i]? = some (k : Int) ∧ (0 ≤ (k : Int) ∧ (k : Int) < (ps.length : Int))) := ⟨hi, by rw [HKS.out, List.getElem?_map, hk]; rfl, by omega, by rw [HSH.out.1]; omega⟩
        clear hjk cj hrow h1 h2 hjd hje hT hjN hi hk hkb
        go_wp2_with fail
        refine (put97_ AS.out HTD.out.len HDK.out.2 HI.out.1 HI.out.2.1 HI.out.2.2 (by rw [HSH.out.1]; exact HSH.out.2.2)).mono ?_
        rintro e w6 ⟨rfl, hS6⟩
        have B6 := Aside0.mk hS6
        clear hS6 z
        go_wp2_with fail
        go_roundg (gk - 1)
        case measure => have := AK.out; omega
        case rel => exact ⟨j + 1, by go_num, by have := AK.out; omega, by rw [HX.out]; exact B6.out⟩
      · obtain ⟨hjd, hje⟩ := List.getElem?_eq_some_iff.1 h1
        have z : w5.cell? ⟨ga, j, none⟩ = some (.func (.func 98) #[] #[.pointer (some ⟨gb, 0, none⟩), .pointer (some ⟨gN, 0, none⟩)]) := kv_cell hrow hjN hjd (by rw [hje]; rfl)
        have HX : Aside0 (runD (las, wt) (D.take (j + 1)) = (T.1, putW n T.2 ((E + 1) % 2).toNat (rootF (m32 (a : Int)) (m32 (b : Int)) (E + 1)))) := ⟨by rw [run_take (x := rootD a b E) (by rw [HDS.out]; exact h2), HTT.out, doD_root HQ.out.1.rgt]⟩
        clear hjk cj hrow h1 h2 hjd hje hT hjN
        go_wp2_with fail
        refine (root98_ AS.out HTD.out.len HDK.out.2 ⟨by have := HQ.out.1.nums; omega, HQ.out.2⟩).mono ?_
        rintro e w6 ⟨rfl, hS6⟩
        have B6 := Aside0.mk hS6
        clear hS6 z
        go_wp2_with fail
        go_roundg (gk - 1)
        case measure => have := AK.out; omega
        case rel => exact ⟨j + 1, by go_num, by have := AK.out; omega, by rw [HX.out]; exact B6.out⟩
end
end Go.Proofs.YtjngnigelkgekaaGreat.Heal
namespace Go.Proofs.YtjngnigelkgekaaGreat.Ref
open Go.RowKit Go.Proofs.YtjngnigelkgekaaGreatW.PrintWords Go.Proofs.YtjngnigelkgekaaGreatW.PrintLast Go.Proofs.YtjngnigelkgekaaGreatW.PrintMore Go.Proofs.YtjngnigelkgekaaGreat.Kit Go.Proofs.YtjngnigelkgekaaGreat.Disk
set_option maxHeartbeats 400000 in
set_option maxRecDepth 100000 in
theorem newok_ {n : Nat} {w : World} (h1 : 1 ≤ n) (h2 : n ≤ 160) :
    Calls Tryz.prog 52 #[.int .i64 (n : Int)] w fun e w' => ∃ g, e = .returned (.pointer (some ⟨g, 0, none⟩)) ∧ Sep w w' [RD g n (List.replicate (n * 64) 0) (List.replicate (n * 64) 0) (List.replicate n false) (-1) 0] := by
  have hmk : ∀ W : World, (Instr.makeSlice 24 (.int .i64 ((n : Int) * 64)) (.int .i64 ((n : Int) * 64))).run Tryz.prog W = .ok (.slice (some ⟨W.heap.size, 0, none⟩) (n * 64) (n * 64)) (W.alloc (.cells (madeCells #[.int .u8 0] (n * 64)) 5)) := by
    intro W
    have := make_ (m := n * 64) (by omega) W
    rwa [Int.natCast_mul] at this
  have HS := Aside0.mk (madeB (F := []) (n * 64) (Sep.start w) (by omega))
  have h1' : ¬ (n : Int) < 1 := by omega
  have h2' : ¬ 160 < (n : Int) := by omega
  go_enter Tryz.func52, Tryz.ntmps52
  go_wp2_with fail
  refine (of_ok (m := n) (l := List.replicate (n * 64) 0) HS.out.rowRd.rd (by omega) h1 h2).mono ?_
  rintro e w1 ⟨g, rfl, hS1⟩
  go_wp2
  go_ret
  exact ⟨g, by first | rfl | (simp; done), ((Sep.start w).alloc _).lift1 hS1⟩
end Go.Proofs.YtjngnigelkgekaaGreat.Ref
namespace Go.Proofs.YtjngnigelkgekaaGreat.Ref
end Go.Proofs.YtjngnigelkgekaaGreat.Ref
namespace Go.Proofs.YtjngnigelkgekaaGreat.Home
open Go.RowKit Go.Proofs.YtjngnigelkgekaaGreatW.PrintWords Go.Proofs.YtjngnigelkgekaaGreatW.PrintLast Go.Proofs.YtjngnigelkgekaaGreatW.PrintMore Go.Proofs.YtjngnigelkgekaaGreat.Kit Go.Proofs.YtjngnigelkgekaaGreat.Plain Go.Proofs.YtjngnigelkgekaaGreat.Disk Go.Proofs.YtjngnigelkgekaaGreat.Root
set_option maxHeartbeats 400000 in
theorem pair19_ {A : Option Addr} {m c n : Nat} {l : List Int} {w : World} (hr : U8.C w A m l) (hc : m ≤ c) (hm : m = 64 * n) (h1 : 1 ≤ n) (h2 : n ≤ 160) :
    Calls Tryz.prog 16 #[.slice A m c] w fun e w' => ∃ g gr, e = .returned (.tuple #[.pointer (some ⟨g, 0, none⟩), .pointer (some ⟨gr, 0, none⟩)]) ∧ Sep w w' [Dsk g l (fun _ => none), RT gr n l (fun _ => none) 0] := by
  have HR := Aside0.mk (And.intro hr (And.intro hc (And.intro hm (And.intro h1 h2))))
  clear hr hc hm h1 h2
  go_enter Tryz.func16, Tryz.ntmps16
  go_wp2_with fail
  refine (of_ok HR.out.1 HR.out.2.1 HR.out.2.2.1 HR.out.2.2.2.1 HR.out.2.2.2.2).mono ?_
  rintro e w1 ⟨g, rfl, hS1⟩
  have A1 := Aside0.mk hS1
  clear hS1
  go_wp2_with fail
  refine (Ref.of_ok (Kd.C_below HR.out.1 A1.out.toBelow) HR.out.2.2.1 HR.out.2.2.2.1 HR.out.2.2.2.2).mono ?_
  rintro e w2 ⟨gr, rfl, hS2⟩
  have A2 : Aside0 (Sep w w2 [Dsk g l (fun _ => none), RT gr n l (fun _ => none) 0]) := ⟨by
    show Sep w w2 [_, Ref.RD gr n l (flushed l (fun _ => none)) (Ref.waitL n (fun _ => none)) (-1) ((0 : Nat) : Int)]
    rw [flushed_none (n := n) (HR.out.1.1.trans HR.out.2.2.1), Ref.waitL_none]
    exact (A1.out.lift1 hS2).at2⟩
  clear hS2
  go_wp2_with fail
  go_ret2
  exact ⟨_, _, by first | rfl | (simp; done), A2.out⟩
end Go.Proofs.YtjngnigelkgekaaGreat.Home
namespace Go.Proofs.YtjngnigelkgekaaGreat.Heal
open Go.RowKit Go.Proofs.YtjngnigelkgekaaGreatW.PrintWords Go.Proofs.YtjngnigelkgekaaGreatW.PrintLast Go.Proofs.YtjngnigelkgekaaGreatW.PrintMore Go.Proofs.YtjngnigelkgekaaGreat.Kit Go.Proofs.YtjngnigelkgekaaGreat.Plain Go.Proofs.YtjngnigelkgekaaGreat.Disk Go.Proofs.YtjngnigelkgekaaGreat.Root
open Go.Proofs.YtjngnigelkgekaaGreat.RStore
open Go.Proofs.YtjngnigelkgekaaGreat.Deed
open Go.Proofs.YtjngnigelkgekaaGreat.Home (RT RTL)
section
variable {w0 W : World} {F : List HP} {gr g n : Nat} {las now : List Int} {wait : List Bool} {left done : Int} {wt : Wt}
theorem rd_lasts (h : Sep w0 W (Ref.RD gr n las now wait left done :: F)) : ∃ A c, W.cell? ⟨gr, 0, none⟩ = some (.slice A (64 * n) c) ∧ U8.C W A (64 * n) las ∧ 64 * n ≤ c ∧ 1 ≤ n ∧ n ≤ 160 := by
  obtain ⟨gl, cl, gn, cn, gw, cw, hn, hs⟩ := Ref.open_ h
  exact ⟨_, _, (hs.cell 0).trans rfl, hs.at2.rowC', hs.at2.rowC.2.1, hn.1, hn.2.1⟩
end
end Go.Proofs.YtjngnigelkgekaaGreat.Heal
namespace Go.Proofs.YtjngnigelkgekaaGreat.Heal
open Go.RowKit Go.Proofs.YtjngnigelkgekaaGreatW.PrintWords Go.Proofs.YtjngnigelkgekaaGreatW.PrintLast Go.Proofs.YtjngnigelkgekaaGreatW.PrintMore Go.Proofs.YtjngnigelkgekaaGreat.Kit Go.Proofs.YtjngnigelkgekaaGreat.Plain Go.Proofs.YtjngnigelkgekaaGreat.Disk Go.Proofs.YtjngnigelkgekaaGreat.Root
open Go.Proofs.YtjngnigelkgekaaGreat.Store (fmtL format_ok zz64 unroot_zeros Com noW no_bytes)
open Go.Proofs.YtjngnigelkgekaaGreat.RStore
open Go.Proofs.YtjngnigelkgekaaGreat.Deed
theorem sec_zeros {n j : Nat} (hj : j < n) : secF n (List.replicate (n * 64) 0) (fun _ => none) j = zz64 := by
  unfold secF
  rw [if_pos hj]
  show sec _ j = _
  unfold sec
  rw [List.drop_replicate, List.take_replicate]
  congr 1
  omega
theorem zeros_no {n : Nat} (hn : 2 ≤ n) : NoOpen n (List.replicate (n * 64) 0) (fun _ => none) 22 := .inl ⟨rfl, by
  show decide (0 < (pickF n (pickF n (0, 0, 0) (secF n (List.replicate (n * 64) 0) (fun _ => none) 0)) (secF n (List.replicate (n * 64) 0) (fun _ => none) 1)).2.2) = false
  rw [sec_zeros (by omega), sec_zeros (by omega)]
  unfold pickF
  rw [unroot_zeros]
  rfl⟩
theorem zeros_dk (n : Nat) : Dk n (List.replicate (n * 64) 0) (fun _ => none) := ⟨by rw [List.length_replicate, Nat.mul_comm], Ref.none_len, zeros_bytes _, no_bytes⟩
abbrev FL12 : List Int := fmtL 12 (List.replicate (12 * 64) 0) (fun _ => none) 3 2
theorem com12 : Com 12 3 2 1 (List.replicate 2 zz64) [] FL12 := Com.start List.length_replicate (zeros_bytes _) Ref.none_len no_bytes (by decide)
theorem any12 : Any 12 FL12 (fun _ => none) 3 2 1 := ⟨⟨com12.lay.len, Ref.none_len, com12.lay.byt, no_bytes⟩, by decide, com12.lay.best, com12.lay.right, by decide⟩
theorem ds12 : dsOf 12 FL12 (fun _ => none) = [none, none, rootD 3 2 1, none] := by
  rw [ds_any any12 (by decide)]
  have h1 : rowsG 12 3 2 1 FL12 (fun _ => none) = [] := com12.rows
  unfold keyL
  rw [h1]
  rfl
theorem run_ff {n : Nat} {L : List Int} (h : L.length = 64 * n) : runD (L, fun _ => none) [none, none] = (L, fun _ => none) := by
  show (flushed (flushed L (fun _ => none)) (fun _ => none), (fun _ => none : Wt)) = (L, fun _ => none)
  rw [flushed_none (n := n) h, flushed_none (n := n) h]
theorem run12 : runD (FL12, fun _ => none) ((dsOf 12 FL12 (fun _ => none)).take 2) = (FL12, fun _ => none) := by
  rw [ds12]
  exact run_ff (n := 12) com12.lay.len
section
variable {w0 W : World} {F : List HP} {g n : Nat} {las : List Int} {wt : Wt}
theorem hDeedsN {N : Nat} (h : Sep w0 W (Dsk g las wt :: F)) (hd : Dk n las wt) (hn : n ≤ 160) (hN : (dsOf n las wt).length = N) :
    Calls Tryz.prog 22 #[.pointer (some ⟨g, 0, none⟩)] W fun e w' => e = .returned (.int .i64 (N : Int)) ∧ Sep w0 w' (Dsk g las wt :: F) := by
  subst hN; exact hDeeds_ h hd hn
theorem hPartN {N k : Nat} {T : DS} (h : Sep w0 W (Dsk g las wt :: F)) (hd : Dk n las wt) (hn : n ≤ 160) (m : Int) (hN : (dsOf n las wt).length = N) (hk : partK m N = k) (hT : runD (las, wt) ((dsOf n las wt).take k) = T) :
    Calls Tryz.prog 23 #[.pointer (some ⟨g, 0, none⟩), .int .i64 m] W fun e w' => e = .returned (.int .i64 (k : Int)) ∧ Sep w0 w' (Dsk g T.1 T.2 :: F) := by
  subst hN; subst hk; subst hT; exact hPart_ h hd hn m
set_option maxHeartbeats 1600000 in
set_option maxRecDepth 100000 in
theorem known19_ (w : World) : Calls Tryz.prog 17 #[] w fun e w' => e = .returned (.bool true) ∧ Below w.heap.size w w' := by
  obtain ⟨Z, hZ⟩ : ∃ z, List.replicate (12 * 64) (0 : Int) = z := ⟨_, rfl⟩
  obtain ⟨FF, hFF⟩ : ∃ z, FL12 = z := ⟨_, rfl⟩
  have HZ : Aside0 (Dk 12 Z (fun _ => none) ∧ NoOpen 12 Z (fun _ => none) 22) := ⟨by rw [← hZ]; exact ⟨zeros_dk 12, zeros_no (by decide)⟩⟩
  have HF1 : Aside0 (fmtL 12 Z (fun _ => none) 3 2 = FF) := ⟨by rw [← hZ]; exact hFF⟩
  have HF2 : Aside0 (Dk 12 FF (fun _ => none) ∧ (dsOf 12 FF (fun _ => none)).length = 4 ∧ runD (FF, fun _ => none) ((dsOf 12 FF (fun _ => none)).take 2) = (FF, fun _ => none)) := ⟨by rw [← hFF]; exact ⟨any12.dk, by rw [ds12]; rfl, run12⟩⟩
  have HZE := Aside0.mk hZ
  clear hZ hFF
  go_enter Tryz.func17, Tryz.ntmps17
  go_wp2_with fail
  refine (Disk.new_ok (n := 12) (by decide) (by decide)).mono ?_
  rintro e w1 ⟨g, rfl, hS1⟩
  rw [HZE.out] at hS1
  have B1 := Aside0.mk hS1
  clear hS1
  go_wp2_with fail
  refine (hDeedsN (N := 0) B1.out HZ.out.1 (by decide) (by rw [ds_no HZ.out.2]; rfl)).mono ?_
  rintro e w2 ⟨rfl, hS2⟩
  have B2 := Aside0.mk hS2
  clear hS2
  go_wp2_with fail
  refine (hPartN (N := 0) (k := 0) (T := (Z, fun _ => none)) B2.out HZ.out.1 (by decide) 5 (by rw [ds_no HZ.out.2]; rfl) (by decide) (by rw [ds_no HZ.out.2]; rfl)).mono ?_
  rintro e w3 ⟨rfl, hS3⟩
  have B3 : Aside0 (Sep w w3 (Dsk g Z (fun _ => none) :: [])) := ⟨hS3⟩
  clear hS3
  go_wp2_with fail
  refine (hDeeds_nil _).mono ?_
  rintro e w4 ⟨rfl, hb4⟩
  have B4 := Aside0.mk (B3.out.below hb4)
  clear hb4
  go_wp2_with fail
  refine (format_ok (n := 12) B4.out HZ.out.1.len (by decide) Ref.none_len 3 2 (by decide)).mono ?_
  rintro e w5 ⟨rfl, hS5⟩
  rw [HF1.out] at hS5
  have B5 := Aside0.mk hS5
  clear hS5
  go_wp2_with fail
  refine (hDeedsN (N := 4) B5.out HF2.out.1 (by decide) HF2.out.2.1).mono ?_
  rintro e w6 ⟨rfl, hS6⟩
  have B6 := Aside0.mk hS6
  clear hS6
  go_wp2_with fail
  refine (hPartN (N := 4) (k := 0) (T := (FF, fun _ => none)) B6.out HF2.out.1 (by decide) 0 HF2.out.2.1 (by decide) rfl).mono ?_
  rintro e w7 ⟨rfl, hS7⟩
  have B7 : Aside0 (Sep w w7 (Dsk g FF (fun _ => none) :: [])) := ⟨hS7⟩
  clear hS7
  go_wp2_with fail
  refine (hPartN (N := 4) (k := 2) (T := (FF, fun _ => none)) B7.out HF2.out.1 (by decide) 2 HF2.out.2.1 (by decide) HF2.out.2.2).mono ?_
  rintro e w8 ⟨rfl, hS8⟩
  have B8 : Aside0 (Sep w w8 (Dsk g FF (fun _ => none) :: [])) := ⟨hS8⟩
  clear hS8
  go_wp2_with fail
  refine (hPartN (N := 4) (k := 4) B8.out HF2.out.1 (by decide) 99 HF2.out.2.1 (by decide) rfl).mono ?_
  rintro e w9 ⟨rfl, hS9⟩
  have B9 := Aside0.mk hS9
  clear hS9
  go_wp2_with fail
  go_ret
  exact ⟨by first | rfl | (simp; done), B9.out.toBelow⟩
end
end Go.Proofs.YtjngnigelkgekaaGreat.Heal
namespace Go.Proofs.YtjngnigelkgekaaGreat.Deed
open Go.RowKit Go.Proofs.YtjngnigelkgekaaGreat.Kit Go.Proofs.YtjngnigelkgekaaGreat.Disk Go.Proofs.YtjngnigelkgekaaGreat.Plain Go.Proofs.YtjngnigelkgekaaGreat.Root
open Go.Proofs.YtjngnigelkgekaaGreat.Store (putsW zz64 fmtL)
def putsD (s k : Nat) : List Dd := (List.range k).map (fun i => some (s + i, zz64))
theorem putsD_snoc (s k : Nat) : putsD s (k + 1) = putsD s k ++ [some (s + k, zz64)] := by unfold putsD; rw [List.range_succ, List.map_append]; rfl
theorem putsD_len (s k : Nat) : (putsD s k).length = k := by unfold putsD; rw [List.length_map, List.length_range]
theorem putsD_ok {n s : Nat} : ∀ k, s + k ≤ n → OkD n (putsD s k)
  | 0, _ => OkD.nil
  | k + 1, h => by rw [putsD_snoc]; exact (putsD_ok k (by omega)).write (by omega) rfl
theorem putsD_run {n s : Nat} (L : List Int) (w : Wt) : ∀ k, s + k ≤ n → runD (L, w) (putsD s k) = (L, putsW n s zz64 k w)
  | 0, _ => rfl
  | k + 1, h => by
    rw [putsD_snoc, runD_snoc, putsD_run (n := n) L w k (by omega)]
    show (L, _) = (L, putW n (putsW n s zz64 k w) (s + k) zz64)
    unfold putW
    rw [if_pos ⟨by omega, rfl⟩]
def fmtD (a b : Nat) : List Dd := (putsD 0 2 ++ [none]) ++ ((putsD 2 (a + b) ++ [none]) ++ [some (1, rootF (m32 (a : Int)) (m32 (b : Int)) 1), none])
theorem fmtD_len (a b : Nat) : (fmtD a b).length = a + b + 6 := by
  unfold fmtD
  rw [List.length_append, List.length_append, List.length_append, List.length_append, putsD_len, putsD_len]
  simp; omega
theorem fmtD_run {n a b : Nat} (hr : rightR (a : Int) (b : Int) 1 n = true) (las : List Int) (wt : Wt) : runD (las, wt) (fmtD a b) = (fmtL n las wt a b, fun _ => none) := by
  have h4 := of_decide_eq_true hr
  unfold fmtD
  rw [runD_append, runD_append, runD_append, runD_append, putsD_run (n := n) las wt 2 (by omega)]
  show runD (runD (runD (flushed las (putsW n 0 zz64 2 wt), fun _ => none) (putsD 2 (a + b))) [none]) _ = _
  rw [putsD_run (n := n) _ _ (a + b) (by omega)]
  have hput : putW n (fun _ => none) 1 (rootF (m32 (a : Int)) (m32 (b : Int)) 1) = fun j => if j = 1 then some (rootF (m32 (a : Int)) (m32 (b : Int)) 1) else none := by
    unfold putW; rw [if_pos ⟨by omega, rootF_len _ _ _⟩]
  unfold fmtL
  rw [hput]
  rfl
end Go.Proofs.YtjngnigelkgekaaGreat.Deed
namespace Go.Proofs.YtjngnigelkgekaaGreat.RStore
open Go.RowKit Go.Proofs.YtjngnigelkgekaaGreatW.PrintWords Go.Proofs.YtjngnigelkgekaaGreatW.PrintLast Go.Proofs.YtjngnigelkgekaaGreatW.PrintMore Go.Proofs.YtjngnigelkgekaaGreat.Kit Go.Proofs.YtjngnigelkgekaaGreat.Plain Go.Proofs.YtjngnigelkgekaaGreat.Disk Go.Proofs.YtjngnigelkgekaaGreat.Root
open Go.Proofs.YtjngnigelkgekaaGreat.Deed
open Go.Proofs.YtjngnigelkgekaaGreat.Home (RT RTL)
open Go.Proofs.YtjngnigelkgekaaGreat.Store (zz64 fmtL)
section
variable {w0 W : World} {F : List HP} {gr n d : Nat} {las : List Int} {wt : Wt}
set_option maxHeartbeats 1600000 in
set_option maxRecDepth 100000 in
theorem rformat_bad (h : Sep w0 W (RT gr n las wt d :: F)) (a b : Int) (hr : rightR a b 1 n = false) : Calls Tryz.prog 39 #[.pointer (some ⟨gr, 0, none⟩), .int .i64 a, .int .i64 b] W fun e w' => e = .returned (.int .i64 25) ∧ Sep w0 w' (RT gr n las wt d :: F) := by
  have A0 := Aside0.mk (h.newBlk 80 #[.int .i64 a, .int .i64 b, .int .u32 1]).drew
  have HR := Aside0.mk hr
  clear h hr
  go_enter Tryz.func39, Tryz.ntmps39
  go_wp2_with fail
  refine start_ (n := 5) (S := fun w' => w'.cell? ⟨W.heap.size, 0, none⟩ = some (.int .i64 a) ∧ w'.cell? ⟨W.heap.size, 1, none⟩ = some (.int .i64 b) ∧ w'.cell? ⟨W.heap.size, 2, none⟩ = some (.int .u32 1)) (ds := [3]) #[Z,Z,Z,Z,Z] (by kernel_rfl) rfl rfl ⟨(A0.out.cell 0).trans rfl, (A0.out.cell 1).trans rfl, (A0.out.cell 2).trans rfl⟩ (fun hHeld => ?_)
  refine pu_ 1 13 ?_ #[Z,J,Z,Z,Z] rfl rfl ?_ ?_ ?_ ?_
  rotate_left
  · intro w'
    go_simp
    with_reducible rfl
  rotate_left
  · simp only [aP]
    rfl
  refine ta_ 0 12 ?_ #[J,J,Z,Z,Z] rfl rfl ?_ hHeld ?_ ?_ ?_
  rotate_left
  · rintro w' ⟨s0, s1, s2⟩
    go_simp
    with_reducible rfl
  rotate_left
  · simp only [aP]
    rfl
  refine one_ (i := 2) (N := some 14) #[J,J,J,Z,Z] rfl rfl (by kernel_rfl) (by decide) (fun K hK => ?_)
  refine goes_ Tryz.func78 (by kernel_rfl) rfl #[.pointer (some ⟨gr, 0, none⟩)] (by rfl) rfl rfl (by simp only [List.map_toArray, List.map_cons, List.map_nil]; rfl) ?_
  with_reducible refine (Ref.len_ A0.out.at2).mono ?_
  rintro e w4 ⟨rfl, rfl⟩
  refine ⟨_, rfl, ?_⟩
  refine hK.out _ _ ⟨(A0.out.cell 0).trans rfl, (A0.out.cell 1).trans rfl, (A0.out.cell 2).trans rfl⟩ (fun hHeld => ?_)
  clear hK K
  refine norm_ (a' := ?_) ?_ ?_
  rotate_left
  · show Act.put _ (some 14) _ = _
    simp only [aP]
    rfl
  refine last_ (i := 3) (N := some 15) #[J,J,J,J,Z] rfl rfl (by kernel_rfl) (by decide) (fun K hK => ?_)
  refine goes_ Tryz.func77 (by kernel_rfl) rfl #[.agg #[.int .i64 a, .int .i64 b, .int .u32 1], .int .i64 (n : Int)] (by rfl) rfl rfl (by simp only [List.map_toArray, List.map_cons, List.map_nil]; rfl) ?_
  with_reducible refine (rright_ a b 1 (n : Int) _).mono ?_
  rintro e w5 ⟨rfl, hb5⟩
  refine ⟨_, rfl, ?_⟩
  rw [HR.out]
  have A5 := Aside0.mk (A0.out.below hb5)
  clear hb5
  refine hK.out _ _ ?_
  clear hK K
  refine norm_ (a' := ?_) ?_ ?_
  rotate_left
  · show Act.put _ (some 15) _ = _
    simp only [aP]
    rfl
  refine pu_ 4 16 ?_ #[J,J,J,J,J] rfl rfl ?_ ?_ ?_ ?_
  rotate_left
  · intro w'
    go_simp
    with_reducible rfl
  rotate_left
  · simp only [aP]
    rfl
  refine done_ (by kernel_rfl) ?_
  go_wp2_with fail
  go_ret
  exact ⟨by first | rfl | (simp; done), A5.out.tail⟩
set_option maxHeartbeats 3200000 in
set_option maxRecDepth 100000 in
theorem rformat_ok (h : Sep w0 W (RT gr n las wt d :: F)) (hl : las.length = 64 * n) (hn : n ≤ 160) (hw : ∀ i b, wt i = some b → b.length = 64) (hd : d ≤ 1000000) (a b : Nat) (hr : rightR (a : Int) (b : Int) 1 n = true) : Calls Tryz.prog 39 #[.pointer (some ⟨gr, 0, none⟩), .int .i64 (a : Int), .int .i64 (b : Int)] W fun e w' => e = .returned (.int .i64 0) ∧ Sep w0 w' (RT gr n (fmtL n las wt a b) (fun _ => none) (d + (a + b + 6)) :: F) := by
  have A0 := Aside0.mk (h.newBlk 80 #[.int .i64 (a : Int), .int .i64 (b : Int), .int .u32 1]).drew
  have HR := Aside0.mk hr
  have HS : Aside0 (OkS n (las, wt)) := ⟨hl, hw⟩
  have h1 := of_decide_eq_true hr
  have HAB : Aside0 (a + b + 2 ≤ n ∧ n ≤ 160) := ⟨by omega⟩
  have HD := Aside0.mk hd
  have hws : wrap64 (2 + (a : Int)) = 2 + (a : Int) := IntWalk.wrap64_in _ (by omega)
  obtain ⟨M, hM⟩ : ∃ M, a + b = M := ⟨_, rfl⟩
  obtain ⟨T, hT⟩ : ∃ T, 2 + M = T := ⟨_, rfl⟩
  have hws2 : wrap64 (2 + (a : Int) + (b : Int)) = (T : Int) := by rw [IntWalk.wrap64_in _ (by omega)]; omega
  have HM := Aside0.mk hM
  have HT := Aside0.mk hT
  have hmk : ∀ W : World, (Instr.makeSlice 24 (.int .i64 64) (.int .i64 64)).run Tryz.prog W = .ok (.slice (some ⟨W.heap.size, 0, none⟩) 64 64) (W.alloc (.cells (madeCells #[.int .u8 0] 64) 5)) := make_ (m := 64) (by omega)
  obtain ⟨G0, hG0⟩ : ∃ G, W.heap.size = G := ⟨_, rfl⟩
  rw [hG0] at A0
  clear h hl hr hn hw h1 hM hT hd
  go_enter Tryz.func39, Tryz.ntmps39
  go_wp2_with fail
  obtain ⟨w1, hw1⟩ : ∃ x, W.alloc (.cells #[.int .i64 (a : Int), .int .i64 (b : Int), .int .u32 1] 80) = x := ⟨_, rfl⟩
  rw [hw1] at A0 ⊢
  clear hw1 hG0
  refine start_ (n := 5) (S := fun w' => w'.cell? ⟨G0, 0, none⟩ = some (.int .i64 (a : Int)) ∧ w'.cell? ⟨G0, 1, none⟩ = some (.int .i64 (b : Int)) ∧ w'.cell? ⟨G0, 2, none⟩ = some (.int .u32 1)) (ds := [3]) #[Z,Z,Z,Z,Z] (by kernel_rfl) rfl rfl ⟨(A0.out.cell 0).trans rfl, (A0.out.cell 1).trans rfl, (A0.out.cell 2).trans rfl⟩ (fun hHeld => ?_)
  refine pu_ 1 13 ?_ #[Z,J,Z,Z,Z] rfl rfl ?_ ?_ ?_ ?_
  rotate_left
  · intro w'
    go_simp
    with_reducible rfl
  rotate_left
  · simp only [aP]
    rfl
  refine ta_ 0 12 ?_ #[J,J,Z,Z,Z] rfl rfl ?_ hHeld ?_ ?_ ?_
  rotate_left
  · rintro w' ⟨s0, s1, s2⟩
    go_simp
    with_reducible rfl
  rotate_left
  · simp only [aP]
    rfl
  refine one_ (i := 2) (N := some 14) #[J,J,J,Z,Z] rfl rfl (by kernel_rfl) (by decide) (fun K hK => ?_)
  refine goes_ Tryz.func78 (by kernel_rfl) rfl #[.pointer (some ⟨gr, 0, none⟩)] (by rfl) rfl rfl (by simp only [List.map_toArray, List.map_cons, List.map_nil]; rfl) ?_
  with_reducible refine (Ref.len_ A0.out.at2).mono ?_
  rintro e w4 ⟨rfl, rfl⟩
  refine ⟨_, rfl, ?_⟩
  refine hK.out _ _ ⟨(A0.out.cell 0).trans rfl, (A0.out.cell 1).trans rfl, (A0.out.cell 2).trans rfl⟩ (fun hHeld => ?_)
  clear hK K
  refine norm_ (a' := ?_) ?_ ?_
  rotate_left
  · show Act.put _ (some 14) _ = _
    simp only [aP]
    rfl
  refine last_ (i := 3) (N := some 15) #[J,J,J,J,Z] rfl rfl (by kernel_rfl) (by decide) (fun K hK => ?_)
  refine goes_ Tryz.func77 (by kernel_rfl) rfl #[.agg #[.int .i64 (a : Int), .int .i64 (b : Int), .int .u32 1], .int .i64 (n : Int)] (by rfl) rfl rfl (by simp only [List.map_toArray, List.map_cons, List.map_nil]; rfl) ?_
  with_reducible refine (rright_ (a : Int) (b : Int) 1 (n : Int) _).mono ?_
  rintro e w5 ⟨rfl, hb5⟩
  refine ⟨_, rfl, ?_⟩
  rw [HR.out]
  have A5 := Aside0.mk (A0.out.below hb5)
  clear hb5
  refine hK.out _ _ ?_
  clear hK K
  refine norm_ (a' := ?_) ?_ ?_
  rotate_left
  · show Act.put _ (some 15) _ = _
    simp only [aP]
    rfl
  refine pu_ 4 16 ?_ #[J,J,J,J,J] rfl rfl ?_ ?_ ?_ ?_
  rotate_left
  · intro w'
    go_simp
    with_reducible rfl
  rotate_left
  · simp only [aP]
    rfl
  refine done_ (by kernel_rfl) ?_
  have B5 : Aside0 (Sep w0 w5 (RQ gr n (las, wt) (-1) d [] :: Blk G0 80 #[.int .i64 (a : Int), .int .i64 (b : Int), .int .u32 1] :: F)) := ⟨rq_start A5.out.at2 (by decide)⟩
  have B6 := Aside0.mk (madeB 64 B5.out (by omega)).at2
  have h0n : 0 < n := by have := HAB.out; omega
  have H0N := Aside0.mk h0n
  have H1N : Aside0 (1 < n) := ⟨by have := HAB.out; omega⟩
  clear h0n
  go_wp2_with fail
  refine (qwrite_ (b := zz64) B6.out HS.out OkD.nil (by decide) (by have := HD.out; simp only [List.length_nil]; omega) 0 H0N.out (fun W' hW => by have h2 := hW.rowC.2.2; rw [List.length_replicate] at h2; exact h2)).mono ?_
  rintro e w6 ⟨rfl, hS6⟩
  have B7 := Aside0.mk (madeB 64 hS6.drop2 (by omega)).at2
  clear hS6
  go_wp2_with fail
  refine (qwrite_ (b := zz64) B7.out HS.out (OkD.nil.write H0N.out rfl) (by decide) (by have := HD.out; simp only [List.length_append, List.length_nil, List.length_singleton]; omega) 1 H1N.out (fun W' hW => by have h2 := hW.rowC.2.2; rw [List.length_replicate] at h2; exact h2)).mono ?_
  rintro e w7 ⟨rfl, hS7⟩
  have B8 : Aside0 (Sep w0 w7 (RQ gr n (las, wt) (-1) d (putsD 0 2) :: _)) := ⟨hS7.drop2⟩
  clear hS7
  go_wp2_with fail
  refine (qflush_ B8.out HS.out (putsD_ok 2 (by have := HAB.out; omega)) (by decide) (by have := HD.out; rw [putsD_len]; omega)).mono ?_
  rintro e w8 ⟨rfl, hS8⟩
  have B9 := Aside0.mk hS8
  clear hS8
  have HO9 : Aside0 (OkD n (putsD 0 2 ++ [none])) := ⟨(putsD_ok 2 (by have := HAB.out; omega)).flush⟩
  obtain ⟨D9, hD9⟩ : ∃ D, putsD 0 2 ++ [none] = D := ⟨_, rfl⟩
  have HL9 : Aside0 (D9.length = 3) := ⟨by rw [← hD9]; rfl⟩
  rw [hD9] at B9 HO9
  have HD9 := Aside0.mk hD9
  clear hD9
  have HOK : Aside0 (∀ j, j ≤ M → OkD n (D9 ++ putsD 2 j)) := ⟨fun j hj i x hm => by
    rcases List.mem_append.1 hm with hm | hm
    · exact HO9.out i x hm
    · exact putsD_ok j (by have := HAB.out; have := HM.out; omega) i x hm⟩
  go_wp2_with fail
  go_loopg [8] M (fun k_ p wr => ∃ j i : Nat, p = .int .i64 (i : Int) ∧ i = 2 + j ∧ j + k_ = M ∧ Sep w0 wr (RQ gr n (las, wt) (-1) d (D9 ++ putsD 2 j) :: Blk G0 80 #[.int .i64 (a : Int), .int .i64 (b : Int), .int .u32 1] :: F))
  case atStart => exact ⟨0, 2, rfl, rfl, by omega, by show Sep w0 _ (RQ gr n (las, wt) (-1) d (D9 ++ []) :: _); rw [List.append_nil]; exact B9.out⟩
  case round =>
    obtain ⟨j, i, rfl, hij, hjk, hS⟩ := hrel
    obtain ⟨w10, rfl⟩ : ∃ x, x = wr := ⟨_, rfl⟩
    have AK := Aside0.mk (And.intro hij hjk)
    have AS := Aside0.mk hS
    clear hS
    by_cases cj : j < M
    case pos =>
      have hil : (i : Int) < (T : Int) := by have := HT.out; omega
      have HIN : Aside0 (i < n) := ⟨by have := HAB.out; have := HM.out; omega⟩
      have hw1j : wrap64 ((i : Int) + 1) = (i : Int) + 1 := by have := HAB.out; have := HIN.out; exact IntWalk.wrap64_in _ (by omega)
      have B10 := Aside0.mk (madeB 64 AS.out (by omega)).at2
      have HLE : Aside0 (d + (D9 ++ putsD 2 j).length ≤ 2000000) := ⟨by rw [List.length_append, putsD_len, HL9.out]; have := HD.out; have := HAB.out; have := HM.out; omega⟩
      have HPS : Aside0 (D9 ++ putsD 2 (j + 1) = (D9 ++ putsD 2 j) ++ [some (i, zz64)]) := ⟨by rw [putsD_snoc, hij, List.append_assoc]⟩
      have HJM : Aside0 (j ≤ M) := ⟨by omega⟩
      clear hjk cj hij
      go_wp2_with fail
      refine (qwrite_ (b := zz64) B10.out HS.out (HOK.out j HJM.out) (by decide) HLE.out i HIN.out (fun W' hW => by have h2 := hW.rowC.2.2; rw [List.length_replicate] at h2; exact h2)).mono ?_
      rintro e w11 ⟨rfl, hS11⟩
      have B11 := Aside0.mk hS11.drop2
      clear hS11
      go_wp2_with fail
      go_roundg (gk - 1)
      case measure => have := AK.out; have := HT.out; omega
      case rel => exact ⟨j + 1, i + 1, by go_num, by have := AK.out; omega, by have := AK.out; have := HT.out; omega, by rw [HPS.out]; exact B11.out⟩
    case neg =>
    have hil : ¬ (i : Int) < (T : Int) := by have := HT.out; omega
    obtain rfl : j = M := by omega
    have HO10 : Aside0 (OkD n (D9 ++ putsD 2 j)) := ⟨HOK.out j (Nat.le_refl _)⟩
    have HL10 : Aside0 ((D9 ++ putsD 2 j).length ≤ 163) := ⟨by rw [List.length_append, putsD_len, HL9.out]; have := HAB.out; have := HM.out; omega⟩
    obtain ⟨D10, hD10⟩ : ∃ D, D9 ++ putsD 2 j = D := ⟨_, rfl⟩
    rw [hD10] at AS HO10 HL10
    have HD10 := Aside0.mk hD10
    clear hjk cj hij hD10 HOK
    go_wp2_with fail
    refine (qflush_ AS.out HS.out HO10.out (by decide) (by have := HD.out; have := HL10.out; omega)).mono ?_
    rintro e w12 ⟨rfl, hS12⟩
    have B12 := Aside0.mk hS12
    clear hS12
    have z0 := (B12.out.at2.cell 0).trans rfl
    have z1 := (B12.out.at2.cell 1).trans rfl
    have z2 := (B12.out.at2.cell 2).trans rfl
    go_wp2_with fail
    refine (rroot_ (a : Int) (b : Int) 1 (by decide) _).mono ?_
    rintro e w13 ⟨v13, rfl, hS13⟩
    obtain ⟨R, hR⟩ : ∃ R, rootF (m32 (a : Int)) (m32 (b : Int)) 1 = R := ⟨_, rfl⟩
    have HRL : Aside0 (R.length = 64) := ⟨by rw [← hR]; exact rootF_len _ _ _⟩
    rw [hR] at hS13
    have HRR := Aside0.mk hR
    obtain ⟨A13, c13, rfl⟩ := hS13.rowN HRL.out
    have B13 := Aside0.mk (B12.out.lift1 hS13).at2
    clear hS13 hR z0 z1 z2
    go_wp2_with fail
    refine (qwrite_ (b := R) B13.out HS.out HO10.out.flush (by decide) (by have := HD.out; have := HL10.out; rw [List.length_append, List.length_singleton]; omega) 1 H1N.out (fun W' hW => hW.rowC')).mono ?_
    rintro e w14 ⟨rfl, hS14⟩
    have B14 := Aside0.mk hS14.drop2
    clear hS14
    go_wp2_with fail
    refine (qflush_ B14.out HS.out (HO10.out.flush.write H1N.out HRL.out) (by decide) (by have := HD.out; have := HL10.out; rw [List.length_append, List.length_append, List.length_singleton, List.length_singleton]; omega)).mono ?_
    rintro e w15 ⟨rfl, hS15⟩
    have HFD : Aside0 (((D10 ++ [none]) ++ [some (1, R)]) ++ [none] = fmtD a b) := ⟨by
      unfold fmtD
      rw [← HD10.out, ← HD9.out, ← HRR.out, HM.out]
      simp⟩
    rw [HFD.out] at hS15
    have hfin := rq_all hS15.drop2
    rw [fmtD_run HR.out, fmtD_len] at hfin
    have B15 := Aside0.mk hfin
    clear hS15 hfin
    go_wp2_with fail
    go_ret
    exact ⟨by first | rfl | (simp; done), B15.out⟩
end
end Go.Proofs.YtjngnigelkgekaaGreat.RStore
namespace Go.Proofs.YtjngnigelkgekaaGreat.RStore
open Go.RowKit Go.Proofs.YtjngnigelkgekaaGreatW.PrintWords Go.Proofs.YtjngnigelkgekaaGreatW.PrintLast Go.Proofs.YtjngnigelkgekaaGreatW.PrintMore Go.Proofs.YtjngnigelkgekaaGreat.Kit Go.Proofs.YtjngnigelkgekaaGreat.Plain Go.Proofs.YtjngnigelkgekaaGreat.Disk Go.Proofs.YtjngnigelkgekaaGreat.Root
open Go.Proofs.YtjngnigelkgekaaGreat.Store (fmtL fmt_len format_bad format_ok putsW_bytes putsW_len zz64 no_bytes)
open Go.Proofs.YtjngnigelkgekaaGreat.Home (RT RTL)
open Go.Proofs.YtjngnigelkgekaaGreat.Deed
def fmtE (n : Nat) (log pages : Int) : Int := if rightR log pages 1 n = true then 0 else 25
def fmtS (n : Nat) (las : List Int) (wt : Wt) (log pages : Int) : DS := if rightR log pages 1 n = true then (fmtL n las wt log.toNat pages.toNat, fun _ => none) else (las, wt)
theorem zz_bytes : Bytes zz64 := fun x hx => by
  have := List.eq_of_mem_replicate hx
  omega
theorem Dk.fmt {n : Nat} {las : List Int} {wt : Wt} (h : Dk n las wt) (log pages : Int) : Dk n (fmtS n las wt log pages).1 (fmtS n las wt log pages).2 := by
  unfold fmtS
  split
  · refine ⟨fmt_len h.len h.wl, Ref.none_len, ?_, no_bytes⟩
    show Bytes (fmtL n las wt log.toNat pages.toNat)
    unfold fmtL
    exact Redo.flushed_bytes (Redo.flushed_bytes (Redo.flushed_bytes h.byt (putsW_bytes zz_bytes 2 h.wb)) (putsW_bytes zz_bytes _ no_bytes)) (putW_bytes no_bytes (rootF_bytes _ _ _))
  · exact h
section
variable {w0 W : World} {F : List HP} {g gr n d : Nat} {las : List Int} {wt : Wt}
theorem rformat_ (h : Sep w0 W (RT gr n las wt d :: F)) (hk : Dk n las wt) (hn : n ≤ 160) (hd : d ≤ 1000000) (log pages : Int) :
    Calls Tryz.prog 39 #[.pointer (some ⟨gr, 0, none⟩), .int .i64 log, .int .i64 pages] W fun e w' => e = .returned (.int .i64 (fmtE n log pages)) ∧ ∃ d' : Nat, d' ≤ d + 200 ∧ Sep w0 w' (RT gr n (fmtS n las wt log pages).1 (fmtS n las wt log pages).2 d' :: F) := by
  unfold fmtE fmtS
  cases hr : rightR log pages 1 n with
  | false =>
    rw [if_neg (by decide), if_neg (by decide)]
    exact (rformat_bad h log pages hr).mono (by rintro e w' ⟨rfl, hS⟩; exact ⟨rfl, d, by omega, hS⟩)
  | true =>
    have h1 := of_decide_eq_true hr
    obtain ⟨a, rfl⟩ := Int.eq_ofNat_of_zero_le (show 0 ≤ log by omega)
    obtain ⟨b, rfl⟩ := Int.eq_ofNat_of_zero_le (show 0 ≤ pages by omega)
    rw [if_pos rfl, if_pos rfl, Int.toNat_natCast, Int.toNat_natCast]
    exact (rformat_ok h hk.len hn hk.wl hd a b hr).mono (by rintro e w' ⟨rfl, hS⟩; exact ⟨rfl, _, by omega, hS⟩)
end
end Go.Proofs.YtjngnigelkgekaaGreat.RStore
namespace Go.Proofs.YtjngnigelkgekaaGreat.RStore
open Go.RowKit Go.Proofs.YtjngnigelkgekaaGreatW.PrintWords Go.Proofs.YtjngnigelkgekaaGreatW.PrintLast Go.Proofs.YtjngnigelkgekaaGreatW.PrintMore Go.Proofs.YtjngnigelkgekaaGreat.Kit Go.Proofs.YtjngnigelkgekaaGreat.Plain Go.Proofs.YtjngnigelkgekaaGreat.Disk Go.Proofs.YtjngnigelkgekaaGreat.Root
open Go.Proofs.YtjngnigelkgekaaGreat.Delta (Chg KC deltaF rightF)
open Go.Proofs.YtjngnigelkgekaaGreat.Store (KP StB applyF insAll commit_bad commit_full commit_ok fitsF)
open Go.Proofs.YtjngnigelkgekaaGreat.Home (RT RTL)
open Go.Proofs.YtjngnigelkgekaaGreat.Redo (appR sizeF)
open Go.Proofs.YtjngnigelkgekaaGreat.Frame (frameF)
structure Cm where
  pages : List (List Int)
  named : List Int
  nm : List Bool
  used : Nat
  seq : Nat
  wt : Wt
def cmE (a b : Int) (used : Nat) (l : List Chg) : Int := if rightF l b = true then (if fitsF a used l.length = true then 0 else 24) else 1
def cmR (n : Nat) (a b ep : Int) (las : List Int) (c : Cm) (l : List Chg) : Cm :=
  if rightF l b = true then (if fitsF a c.used l.length = true then ⟨applyF c.pages l, insAll c.named l, nmF c.nm l, c.used + (18 + 66 * l.length), c.seq + 1, appR n las c.wt a b ep (c.used : Int) (frameF ep (c.seq : Int) (deltaF l))⟩ else c) else c
section
variable {n a b : Nat} {ep : Int} {las : List Int} {c : Cm}
theorem St.cm {l : List Chg} (h : St n a b ep c.pages c.named c.nm c.used c.seq las c.wt) (hB : ∀ x ∈ l, Bytes x.2) : St n a b ep (cmR n a b ep las c l).pages (cmR n a b ep las c l).named (cmR n a b ep las c l).nm (cmR n a b ep las c l).used (cmR n a b ep las c l).seq las (cmR n a b ep las c l).wt ∧ (cmR n a b ep las c l).seq ≤ c.seq + 1 := by
  unfold cmR
  split
  · rename_i hr
    split
    · rename_i hf
      exact ⟨h.commit hr hf hB, Nat.le_refl _⟩
    · exact ⟨h, Nat.le_succ _⟩
  · exact ⟨h, Nat.le_succ _⟩
end
section
variable {w0 W : World} {F : List HP} {g gr gs gx m n a b : Nat} {ep : Int} {las : List Int} {c : Cm}
theorem rcommit_ {d : Nat} {A2 : Option Addr} {n2 c2 : Nat} {l : List Chg} (h : Sep w0 W (RStB gx gr (a : Int) (b : Int) ep c.pages c.nm c.used c.seq :: RT gr n las c.wt d :: F)) (hs : St n a b ep c.pages c.named c.nm c.used c.seq las c.wt) (hq : c.seq ≤ 1000) (hd : d ≤ 900000) (hC : ∀ W', Sep w0 W' F → KC.C W' A2 n2 l) :
    Calls Tryz.prog 43 #[.pointer (some ⟨gx, 0, none⟩), .slice A2 n2 c2] W fun e w' => e = .returned (.int .i64 (cmE a b c.used l)) ∧ ∃ d' : Nat, d' ≤ d + 64 ∧ Sep w0 w' (RStB gx gr (a : Int) (b : Int) ep (cmR n a b ep las c l).pages (cmR n a b ep las c l).nm (cmR n a b ep las c l).used (cmR n a b ep las c l).seq :: RT gr n las (cmR n a b ep las c l).wt d' :: F) := by
  have hC0 := hC W h.tail.tail
  obtain rfl : l.length = n2 := hC0.1
  have hnu := hs.nums
  unfold cmE cmR
  cases hr : rightF l (b : Int) with
  | false =>
    rw [if_neg (by decide), if_neg (by decide)]
    exact (rcommit_bad h hC0 hr).mono (by rintro e w' ⟨rfl, hS⟩; exact ⟨rfl, d, by omega, hS⟩)
  | true =>
    rw [if_pos rfl, if_pos rfl]
    cases hf : fitsF (a : Int) c.used l.length with
    | false =>
      rw [if_neg (by decide), if_neg (by decide)]
      exact (rcommit_full h hC0 hr hs.us hf).mono (by rintro e w' ⟨rfl, hS⟩; exact ⟨rfl, d, by omega, hS⟩)
    | true =>
      rw [if_pos rfl, if_pos rfl]
      exact rcommit_ok h hs.dk.len hs.n160 hd hs.dk.wl hC hr hs.us hf ⟨by omega, hs.e32⟩ (by omega) (by rw [hs.pl])
end
end Go.Proofs.YtjngnigelkgekaaGreat.RStore
