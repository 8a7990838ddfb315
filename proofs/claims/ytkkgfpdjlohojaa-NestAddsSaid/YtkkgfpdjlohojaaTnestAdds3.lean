/- NestP, Raw, RawPut, Fx, RowF, CutsAny, Book, Nest1: what NestAdds needs. -/
import Derived.Test.YtkkgfpdjlohojaaTnestAdds2
import Derived.Test.YtkkgfpdjlohojaaProg
import Derived.WalkKit
import Derived.KernelRfl
import Derived.WalkSpells
import Derived.Deep.Cut
set_option linter.unusedVariables false
set_option linter.unusedSimpArgs false
namespace Go.Proofs.Ytkkgfpdjlohojaa.NestP
structure Pt where
  loop : Bool
  beg : Nat
  oth : Nat
  lvs : List Nat
structure MS where
  tt : List Int
  opn : List Pt
  deep : Nat
def leaveP (i : Nat) : List Pt → Option (List Pt)
  | [] => none
  | p :: r => if p.loop = true then some ({ p with lvs := p.lvs ++ [i] } :: r) else (leaveP i r).map (p :: ·)
def setAll (t : List Int) (v : Int) (l : List Nat) : List Int := l.foldl (fun t k => t.set k v) t
def tokN (i : Nat) (s : Int) (m : MS) : Option MS :=
  if s = 63 ∨ s = 91 then (if m.opn.length < 16 then some ⟨m.tt, ⟨decide (s = 91), i, 0, []⟩ :: m.opn, max m.deep (m.opn.length + 1)⟩ else none)
  else if s = 58 then (match m.opn with
    | p :: r => if p.loop = true ∨ 0 < p.oth then none else some ⟨m.tt.set p.beg ((i : Int) + 1), { p with oth := i } :: r, m.deep⟩
    | [] => none)
  else if s = 59 then (match m.opn with
    | p :: r => if p.loop = true then none else some ⟨m.tt.set (if 0 < p.oth then p.oth else p.beg) (i : Int), r, m.deep⟩
    | [] => none)
  else if s = 93 then (match m.opn with
    | p :: r => if p.loop = true then some ⟨setAll (m.tt.set i (p.beg : Int)) ((i : Int) + 1) p.lvs, r, m.deep⟩ else none
    | [] => none)
  else if s = 126 then (match leaveP i m.opn with
    | some o => some ⟨m.tt, o, m.deep⟩
    | none => none)
  else some m
def runN (i : Nat) : List Int → MS → Option MS
  | [], m => some m
  | s :: t, m => match tokN i s m with
    | none => none
    | some m2 => runN (i + 1) t m2
def matchN (sg : List Int) : Option MS := match runN 0 sg ⟨List.replicate sg.length (-1), [], 0⟩ with
  | some m => if m.opn = [] then some m else none
  | none => none
structure RS where
  tt : List Int
  opn : List Nat
  deep : Nat
def tokR (sg : List Int) (i : Nat) (s : Int) (m : RS) : Option RS :=
  if s = 63 ∨ s = 91 then (if m.opn.length < 16 then some ⟨m.tt.set i (-1), i :: m.opn, max m.deep (m.opn.length + 1)⟩ else none)
  else if s = 58 then (match m.opn with
    | o :: r => if sg.getD o 0 = 63 then some ⟨(m.tt.set i (-1)).set o ((i : Int) + 1), i :: r, m.deep⟩ else none
    | [] => none)
  else if s = 59 then (match m.opn with
    | o :: r => if sg.getD o 0 = 91 then none else some ⟨(m.tt.set i (-1)).set o (i : Int), r, m.deep⟩
    | [] => none)
  else if s = 93 then (match m.opn with
    | o :: r => if sg.getD o 0 = 91 then some ⟨(m.tt.set i (-1)).set i (o : Int), r, m.deep⟩ else none
    | [] => none)
  else some ⟨m.tt.set i (-1), m.opn, m.deep⟩
def runR (sg : List Int) (i : Nat) : List Int → RS → Option RS
  | [], m => some m
  | s :: t, m => match tokR sg i s m with
    | none => none
    | some m2 => runR sg (i + 1) t m2
def leavesF (sg tt : List Int) (at_ : Nat) : Nat → Nat → Int
  | 0, _ => -1
  | m + 1, i => if sg.getD i 0 = 93 ∧ tt.getD i 0 < (at_ : Int) then (i : Int) + 1 else leavesF sg tt at_ m (i + 1)
def secR (sg : List Int) : Nat → Nat → List Int → Option (List Int)
  | 0, _, tt => some tt
  | m + 1, i, tt => if sg.getD i 0 = 126 then (if leavesF sg tt i (sg.length - i) i < 0 then none else secR sg m (i + 1) (tt.set i (leavesF sg tt i (sg.length - i) i))) else secR sg m (i + 1) tt
def nestR (sg : List Int) : Option (List Int × Nat) := match runR sg 0 sg ⟨List.replicate sg.length 0, [], 0⟩ with
  | some m => if m.opn = [] then (secR sg sg.length 0 m.tt).map (fun t => (t, m.deep)) else none
  | none => none
def Cl (sg R : List Int) (k e : Nat) : Prop := sg.getD e 0 = 93 ∧ R.getD e 0 < (k : Int)
def Rel (sg : List Int) (i : Nat) (p : Pt) (o : Nat) : Prop := p.beg < i ∧ o < i ∧ (p.loop = true → o = p.beg ∧ sg.getD o 0 = 91 ∧ p.oth = 0) ∧ (p.loop = false → 0 < p.oth → o = p.oth ∧ sg.getD o 0 = 58) ∧ (p.loop = false → p.oth = 0 → o = p.beg ∧ sg.getD o 0 = 63) ∧ (p.loop = false → p.lvs = [])
def Stk (sg R : List Int) (i : Nat) : List Pt → List Nat → Prop
  | [], [] => True
  | p :: ps, o :: os => Rel sg i p o ∧ (∀ k ∈ p.lvs, sg.getD k 0 = 126 ∧ p.beg < k ∧ k < i ∧ ∀ e, k ≤ e → e < i → ¬ Cl sg R k e) ∧ (p.loop = true → ∀ q ∈ ps, ∀ k ∈ q.lvs, k < p.beg) ∧ Stk sg R i ps os
  | _, _ => False
structure Inv (sg : List Int) (i : Nat) (N : MS) (R : RS) : Prop where
  lN : N.tt.length = sg.length
  lR : R.tt.length = sg.length
  dp : N.deep = R.deep
  st : Stk sg R.tt i N.opn R.opn
  ag : ∀ j, j < i → sg.getD j 0 ≠ 126 → N.tt.getD j 0 = R.tt.getD j 0
  tl : ∀ j, i ≤ j → j < sg.length → N.tt.getD j 0 = -1
  pd : ∀ k, k < i → sg.getD k 0 = 126 → (∃ e, k ≤ e ∧ e < i ∧ Cl sg R.tt k e ∧ (∀ e2, k ≤ e2 → e2 < e → ¬ Cl sg R.tt k e2) ∧ N.tt.getD k 0 = (e : Int) + 1) ∨ ∃ p ∈ N.opn, k ∈ p.lvs
theorem getD_set (l : List Int) (i j : Nat) (v : Int) : (l.set i v).getD j 0 = if i = j ∧ i < l.length then v else l.getD j 0 := by
  rw [List.getD_eq_getElem?_getD, List.getD_eq_getElem?_getD, List.getElem?_set]
  by_cases h : i = j
  · subst h
    by_cases h2 : i < l.length
    · simp [h2]
    · simp [h2]
  · simp [h]
theorem stk_len {sg R : List Int} {i : Nat} : ∀ {ps : List Pt} {os : List Nat}, Stk sg R i ps os → ps.length = os.length
  | [], [], _ => rfl
  | p :: ps, o :: os, h => by rw [List.length_cons, List.length_cons, stk_len h.2.2.2]
theorem stk_next {sg R R2 : List Int} {i : Nat} (he : ∀ e, e < i → sg.getD e 0 = 93 → R2.getD e 0 = R.getD e 0) : ∀ {ps : List Pt} {os : List Nat}, (∀ p ∈ ps, ∀ k ∈ p.lvs, ¬ Cl sg R2 k i) → Stk sg R i ps os → Stk sg R2 (i + 1) ps os
  | [], [], _, _ => trivial
  | p :: ps, o :: os, hc, h => by
    obtain ⟨⟨a1, a2, a3, a4, a5, a6⟩, h2, h3, h4⟩ := h
    refine ⟨⟨by omega, by omega, a3, a4, a5, a6⟩, fun k hk => ?_, h3, stk_next he (fun q hq => hc q (List.mem_cons_of_mem _ hq)) h4⟩
    obtain ⟨b1, b2, b3, b4⟩ := h2 k hk
    refine ⟨b1, b2, by omega, fun e h5 h6 h7 => ?_⟩
    by_cases hei : e = i
    · subst hei; exact hc p (List.mem_cons_self ..) k hk h7
    · exact b4 e h5 (by omega) ⟨h7.1, by have := he e (by omega) h7.1; have := h7.2; omega⟩
theorem cl_same {sg R R2 : List Int} {i k e : Nat} (he : ∀ e, e < i → sg.getD e 0 = 93 → R2.getD e 0 = R.getD e 0) (h : e < i) : Cl sg R2 k e ↔ Cl sg R k e := by
  unfold Cl
  constructor
  · rintro ⟨h1, h2⟩
    exact ⟨h1, by rw [← he e h h1]; exact h2⟩
  · rintro ⟨h1, h2⟩
    exact ⟨h1, by rw [he e h h1]; exact h2⟩
theorem pd_keep {sg : List Int} {i : Nat} {N N2 : MS} {R R2 : RS} (h : Inv sg i N R) (he : ∀ e, e < i → sg.getD e 0 = 93 → R2.tt.getD e 0 = R.tt.getD e 0) (hN : ∀ k, k < i → sg.getD k 0 = 126 → N2.tt.getD k 0 = N.tt.getD k 0)
    (hl : ∀ k, (∃ p ∈ N.opn, k ∈ p.lvs) → ∃ p ∈ N2.opn, k ∈ p.lvs) (hi : sg.getD i 0 = 126 → ∃ p ∈ N2.opn, i ∈ p.lvs) :
    ∀ k, k < i + 1 → sg.getD k 0 = 126 → (∃ e, k ≤ e ∧ e < i + 1 ∧ Cl sg R2.tt k e ∧ (∀ e2, k ≤ e2 → e2 < e → ¬ Cl sg R2.tt k e2) ∧ N2.tt.getD k 0 = (e : Int) + 1) ∨ ∃ p ∈ N2.opn, k ∈ p.lvs := fun k hk hs => by
  by_cases hki : k = i
  · subst hki; exact .inr (hi hs)
  · rcases h.pd k (by omega) hs with ⟨e, e1, e2, e3, e4, e5⟩ | h2
    · exact .inl ⟨e, e1, by omega, (cl_same he e2).2 e3, fun x hx hx2 hx3 => e4 x hx hx2 ((cl_same he (by omega)).1 hx3), by rw [hN k (by omega) hs]; exact e5⟩
    · exact .inr (hl k h2)
theorem stk_rel {sg R : List Int} {i : Nat} : ∀ {ps : List Pt} {os : List Nat}, Stk sg R i ps os → ∀ o ∈ os, o < i
  | [], [], _, o, ho => by cases ho
  | p :: ps, q :: os, h, o, ho => by
    rcases List.mem_cons.1 ho with rfl | ho
    · exact h.1.2.1
    · exact stk_rel h.2.2.2 o ho
theorem stk_lv {sg R : List Int} {i : Nat} : ∀ {ps : List Pt} {os : List Nat}, Stk sg R i ps os → ∀ p ∈ ps, ∀ k ∈ p.lvs, k < i ∧ sg.getD k 0 = 126 ∧ p.beg < k ∧ ∀ e, k ≤ e → e < i → ¬ Cl sg R k e
  | [], [], _, p, hp => by cases hp
  | p :: ps, q :: os, h, r, hr => by
    rcases List.mem_cons.1 hr with rfl | hr
    · exact fun k hk => by have := h.2.1 k hk; exact ⟨this.2.2.1, this.1, this.2.1, this.2.2.2⟩
    · exact stk_lv h.2.2.2 r hr
theorem not_cl {sg R : List Int} {k e : Nat} (h : sg.getD e 0 ≠ 93) : ¬ Cl sg R k e := fun hc => h hc.1
theorem stk_leave {sg R : List Int} {i : Nat} (hi : sg.getD i 0 = 126) : ∀ {ps : List Pt} {os : List Nat}, Stk sg R i ps os → match leaveP i ps with
    | some ps2 => Stk sg R (i + 1) ps2 os ∧ (∀ k, (∃ p ∈ ps, k ∈ p.lvs) → ∃ p ∈ ps2, k ∈ p.lvs) ∧ (∃ p ∈ ps2, i ∈ p.lvs)
    | none => ∀ o ∈ os, sg.getD o 0 ≠ 91
  | [], [], _ => fun o ho => by cases ho
  | p :: ps, o :: os, h => by
    have hc : ∀ q ∈ p :: ps, ∀ k ∈ q.lvs, ¬ Cl sg R k i := fun _ _ _ _ => not_cl (by rw [hi]; decide)
    have hn := stk_next (R2 := R) (fun _ _ _ => rfl) hc h
    unfold leaveP
    by_cases hp : p.loop = true
    · rw [if_pos hp]
      obtain ⟨n1, n2, n3, n4⟩ := hn
      obtain ⟨a1, a2, a3, a4, a5, a6⟩ := n1
      have hb := h.1.1
      refine ⟨⟨⟨a1, a2, a3, a4, a5, fun h2 => ?_⟩, fun k hk => ?_, n3, n4⟩, fun k hk => ?_, ?_⟩
      · have h2 : p.loop = false := h2
        rw [hp] at h2; cases h2
      · rcases List.mem_append.1 hk with hk | hk
        · exact n2 k hk
        · rw [List.mem_singleton.1 hk]
          exact ⟨hi, hb, by omega, fun e h1 h2 => not_cl (by rw [show e = i by omega, hi]; decide)⟩
      · obtain ⟨q, hq, hkq⟩ := hk
        rcases List.mem_cons.1 hq with rfl | hq
        · exact ⟨_, List.mem_cons_self .., List.mem_append_left _ hkq⟩
        · exact ⟨q, List.mem_cons_of_mem _ hq, hkq⟩
      · exact ⟨_, List.mem_cons_self .., List.mem_append_right _ (List.mem_singleton.2 rfl)⟩
    · rw [if_neg hp]
      have hpf : p.loop = false := by simpa using hp
      have ih := stk_leave hi h.2.2.2
      cases hl : leaveP i ps with
      | none =>
        rw [hl] at ih
        intro q hq
        rcases List.mem_cons.1 hq with rfl | hq
        · have h4 := h.1.2.2.2.1 hpf
          have h5 := h.1.2.2.2.2.1 hpf
          by_cases ho : 0 < p.oth
          · rw [(h4 ho).2]; decide
          · rw [(h5 (by omega)).2]; decide
        · exact ih q hq
      | some ps2 =>
        rw [hl] at ih
        obtain ⟨i1, i2, i3⟩ := ih
        refine ⟨⟨hn.1, hn.2.1, fun h2 => absurd h2 hp, i1⟩, fun k hk => ?_, ?_⟩
        · obtain ⟨q, hq, hkq⟩ := hk
          rcases List.mem_cons.1 hq with rfl | hq
          · exact ⟨q, List.mem_cons_self .., hkq⟩
          · obtain ⟨r, hr, hkr⟩ := i2 k ⟨q, hq, hkq⟩
            exact ⟨r, List.mem_cons_of_mem _ hr, hkr⟩
        · obtain ⟨r, hr, hkr⟩ := i3
          exact ⟨r, List.mem_cons_of_mem _ hr, hkr⟩
theorem setAll_len (v : Int) : ∀ (l : List Nat) (t : List Int), (setAll t v l).length = t.length
  | [], _ => rfl
  | k :: r, t => by
    show (setAll (t.set k v) v r).length = _
    rw [setAll_len v r, List.length_set]
theorem setAll_at (v : Int) (j : Nat) : ∀ (l : List Nat) (t : List Int), (setAll t v l).getD j 0 = if j ∈ l ∧ j < t.length then v else t.getD j 0
  | [], t => by simp [setAll]
  | k :: r, t => by
    show (setAll (t.set k v) v r).getD j 0 = _
    rw [setAll_at v j r, List.length_set, getD_set]
    by_cases h1 : j ∈ r ∧ j < t.length
    · rw [if_pos h1, if_pos ⟨List.mem_cons_of_mem _ h1.1, h1.2⟩]
    · rw [if_neg h1]
      by_cases h2 : k = j ∧ k < t.length
      · rw [if_pos h2, if_pos ⟨by rw [h2.1]; exact List.mem_cons_self .., by omega⟩]
      · rw [if_neg h2, if_neg]
        rintro ⟨h3, h4⟩
        rcases List.mem_cons.1 h3 with h3 | h3
        · exact h2 ⟨h3.symm, by omega⟩
        · exact h1 ⟨h3, h4⟩
theorem stk_congr {sg R R2 : List Int} {i : Nat} (he : ∀ e, sg.getD e 0 = 93 → R2.getD e 0 = R.getD e 0) : ∀ {ps : List Pt} {os : List Nat}, Stk sg R i ps os → Stk sg R2 i ps os
  | [], [], _ => trivial
  | p :: ps, o :: os, h => ⟨h.1, fun k hk => by
      obtain ⟨a, b, c, d⟩ := h.2.1 k hk
      exact ⟨a, b, c, fun e h1 h2 h3 => d e h1 h2 ⟨h3.1, by rw [← he e h3.1]; exact h3.2⟩⟩, h.2.2.1, stk_congr he h.2.2.2⟩
structure Doom (sg : List Int) (i k : Nat) (R : RS) : Prop where
  lR : R.tt.length = sg.length
  ki : k < i
  hs : sg.getD k 0 = 126
  st : ∀ o ∈ R.opn, o < i ∧ sg.getD o 0 ≠ 93 ∧ (sg.getD o 0 = 91 → k < o)
  nc : ∀ e, k ≤ e → e < i → ¬ Cl sg R.tt k e
theorem nc_next {sg : List Int} {i k : Nat} {A B : List Int} (h : ∀ e, k ≤ e → e < i → ¬ Cl sg A k e) (he : ∀ e, e < i → sg.getD e 0 = 93 → B.getD e 0 = A.getD e 0) (hi : ¬ Cl sg B k i) : ∀ e, k ≤ e → e < i + 1 → ¬ Cl sg B k e := fun e h1 h2 h3 => by
  by_cases hei : e = i
  · subst hei; exact hi h3
  · exact h e h1 (by omega) ((cl_same he (by omega)).1 h3)
theorem doom_tok {sg : List Int} {i k : Nat} {s : Int} {R R2 : RS} (h : Doom sg i k R) (hi : i < sg.length) (hs : sg.getD i 0 = s) (ht : tokR sg i s R = some R2) : Doom sg (i + 1) k R2 := by
  obtain ⟨lR, ki, hk, st, nc⟩ := h
  have h0 : ∀ e, e < i → (R.tt.set i (-1)).getD e 0 = R.tt.getD e 0 := fun e he => by rw [getD_set, if_neg (by omega)]
  unfold tokR at ht
  split at ht
  · rename_i ha
    split at ht
    · cases ht
      refine ⟨by simp [lR], by omega, hk, fun o ho => ?_, nc_next nc (fun e he _ => h0 e he) (not_cl (by rw [hs]; omega))⟩
      rcases List.mem_cons.1 ho with rfl | ho
      · exact ⟨by omega, by rw [hs]; omega, fun _ => ki⟩
      · obtain ⟨a, b, c⟩ := st o ho
        exact ⟨by omega, b, c⟩
    · cases ht
  · split at ht
    · rename_i hb
      cases ho : R.opn with
      | nil => rw [ho] at ht; cases ht
      | cons o r =>
        rw [ho] at ht st
        simp only at ht
        split at ht
        · rename_i h63
          cases ht
          refine ⟨by simp [lR], by omega, hk, fun q hq => ?_, nc_next nc (fun e he h93 => ?_) (not_cl (by rw [hs, hb]; decide))⟩
          · rcases List.mem_cons.1 hq with rfl | hq
            · exact ⟨by omega, by rw [hs, hb]; decide, fun _ => ki⟩
            · obtain ⟨a, b, c⟩ := st q (List.mem_cons_of_mem _ hq)
              exact ⟨by omega, b, c⟩
          · show ((R.tt.set i (-1)).set o _).getD e 0 = _
            rw [getD_set, if_neg (by rintro ⟨rfl, _⟩; rw [h63] at h93; omega), h0 e he]
        · cases ht
    · split at ht
      · rename_i hb
        cases ho : R.opn with
        | nil => rw [ho] at ht; cases ht
        | cons o r =>
          rw [ho] at ht st
          simp only at ht
          have so := st o (List.mem_cons_self ..)
          split at ht
          · cases ht
          · cases ht
            refine ⟨by simp [lR], by omega, hk, fun q hq => ?_, nc_next nc (fun e he h93 => ?_) (not_cl (by rw [hs, hb]; decide))⟩
            · obtain ⟨a, b, c⟩ := st q (List.mem_cons_of_mem _ hq)
              exact ⟨by omega, b, c⟩
            · show ((R.tt.set i (-1)).set o _).getD e 0 = _
              rw [getD_set, if_neg (by rintro ⟨rfl, _⟩; exact so.2.1 h93), h0 e he]
      · split at ht
        · rename_i hb
          cases ho : R.opn with
          | nil => rw [ho] at ht; cases ht
          | cons o r =>
            rw [ho] at ht st
            simp only at ht
            have so := st o (List.mem_cons_self ..)
            split at ht
            · rename_i h91
              cases ht
              refine ⟨by simp [lR], by omega, hk, fun q hq => ?_, nc_next nc (fun e he h93 => ?_) ?_⟩
              · obtain ⟨a, b, c⟩ := st q (List.mem_cons_of_mem _ hq)
                exact ⟨by omega, b, c⟩
              · show ((R.tt.set i (-1)).set i _).getD e 0 = _
                rw [getD_set, if_neg (by omega), h0 e he]
              · rintro ⟨_, h2⟩
                have h3 : ((R.tt.set i (-1)).set i (o : Int)).getD i 0 = (o : Int) := by rw [getD_set, if_pos ⟨rfl, by rw [List.length_set, lR]; exact hi⟩]
                rw [h3] at h2
                have := so.2.2 h91
                omega
            · cases ht
        · rename_i hb
          cases ht
          exact ⟨by simp [lR], by omega, hk, fun q hq => by obtain ⟨a, b, c⟩ := st q hq; exact ⟨by omega, b, c⟩, nc_next nc (fun e he _ => h0 e he) (not_cl (by rw [hs]; exact hb))⟩
def NextP (sg : List Int) (i : Nat) (s : Int) (N : MS) (R : RS) : Prop := (∃ N2 R2, tokN i s N = some N2 ∧ tokR sg i s R = some R2 ∧ Inv sg (i + 1) N2 R2) ∨ (tokN i s N = none ∧ (tokR sg i s R = none ∨ ∃ R2, tokR sg i s R = some R2 ∧ Doom sg (i + 1) i R2))
theorem next_push {sg : List Int} {i : Nat} {s : Int} {N : MS} {R : RS} (h : Inv sg i N R) (hi : i < sg.length) (hs : sg.getD i 0 = s) (ha : s = 63 ∨ s = 91) : NextP sg i s N R := by
  have hlen := stk_len h.st
  have h0 : ∀ e, e < i → (R.tt.set i (-1)).getD e 0 = R.tt.getD e 0 := fun e he => by rw [getD_set, if_neg (by omega)]
  have hii : (R.tt.set i (-1)).getD i 0 = -1 := by rw [getD_set, if_pos ⟨rfl, by rw [h.lR]; exact hi⟩]
  unfold NextP tokN tokR
  rw [if_pos ha, if_pos ha]
  by_cases hl : N.opn.length < 16
  · rw [if_pos hl, if_pos (by omega)]
    refine .inl ⟨_, _, rfl, rfl, h.lN, by simp [h.lR], by show max _ _ = max _ _; rw [h.dp, hlen], ⟨⟨by show i < i + 1; omega, by omega, ?_, ?_, ?_, fun _ => rfl⟩, (fun k hk => by cases hk), ?_, stk_next (fun e he _ => h0 e he) (fun p hp k hk => not_cl (by rw [hs]; omega)) h.st⟩, ?_, ?_, pd_keep h (fun e he _ => h0 e he) (fun _ _ _ => rfl) ?_ ?_⟩
    · intro hp
      have hp : s = 91 := of_decide_eq_true hp
      exact ⟨rfl, by rw [hs]; exact hp, rfl⟩
    · intro _ ho
      exact absurd ho (Nat.lt_irrefl 0)
    · intro hp _
      have hp : ¬ s = 91 := of_decide_eq_false hp
      exact ⟨rfl, by rw [hs]; omega⟩
    · intro _ q hq k hk
      exact (stk_lv h.st q hq k hk).1
    · intro j hj hjs
      by_cases hji : j = i
      · subst hji
        rw [hii]; exact h.tl j (Nat.le_refl _) hi
      · rw [h0 j (by omega)]; exact h.ag j (by omega) hjs
    · intro j hj hjl
      exact h.tl j (by omega) hjl
    · rintro k ⟨p, hp, hk⟩
      exact ⟨p, List.mem_cons_of_mem _ hp, hk⟩
    · intro h126
      rw [hs] at h126; omega
  · rw [if_neg hl, if_neg (by omega)]
    exact .inr ⟨rfl, .inl rfl⟩
theorem next_other {sg : List Int} {i : Nat} {s : Int} {N : MS} {R : RS} (h : Inv sg i N R) (hi : i < sg.length) (hs : sg.getD i 0 = s) (hb : s = 58) : NextP sg i s N R := by
  have h0 : ∀ e, e < i → (R.tt.set i (-1)).getD e 0 = R.tt.getD e 0 := fun e he => by rw [getD_set, if_neg (by omega)]
  have hii : (R.tt.set i (-1)).getD i 0 = -1 := by rw [getD_set, if_pos ⟨rfl, by rw [h.lR]; exact hi⟩]
  unfold NextP tokN tokR
  rw [if_neg (by omega), if_pos hb, if_neg (by omega), if_pos hb]
  have hst := h.st
  cases hN : N.opn with
  | nil =>
    cases hR : R.opn with
    | nil => exact .inr ⟨rfl, .inl rfl⟩
    | cons o os => rw [hN, hR] at hst; exact hst.elim
  | cons p ps =>
    cases hR : R.opn with
    | nil => rw [hN, hR] at hst; exact hst.elim
    | cons o os =>
      rw [hN, hR] at hst
      have hst1 := hst
      obtain ⟨⟨a1, a2, a3, a4, a5, a6⟩, b, c, d⟩ := hst1
      simp only
      by_cases hp : p.loop = true ∨ 0 < p.oth
      · rw [if_pos hp]
        refine .inr ⟨rfl, .inl (if_neg ?_)⟩
        by_cases hpl : p.loop = true
        · rw [(a3 hpl).2.1]; decide
        · have hpf : p.loop = false := by simpa using hpl
          rw [(a4 hpf (hp.resolve_left hpl)).2]; decide
      · rw [if_neg hp]
        have hpf : p.loop = false := by
          cases hq : p.loop with
          | false => rfl
          | true => exact absurd (.inl hq) hp
        have ho0 : p.oth = 0 := by omega
        obtain ⟨e1, e2⟩ := a5 hpf ho0
        rw [if_pos e2]
        have he2 : ∀ e, e < i → sg.getD e 0 = 93 → ((R.tt.set i (-1)).set o ((i : Int) + 1)).getD e 0 = R.tt.getD e 0 := fun e he h93 => by
          rw [getD_set, if_neg (by rintro ⟨rfl, _⟩; rw [e2] at h93; omega), h0 e he]
        have hn := stk_next he2 (fun q hq k hk => not_cl (by rw [hs, hb]; decide)) hst
        refine .inl ⟨_, _, rfl, rfl, by simp [h.lN], by simp [h.lR], h.dp, ⟨⟨by show p.beg < i + 1; omega, by omega, ?_, ?_, ?_, fun _ => a6 hpf⟩, hn.2.1, ?_, hn.2.2.2⟩, ?_, ?_, pd_keep h he2 ?_ ?_ ?_⟩
        · intro hq
          have hq : p.loop = true := hq
          rw [hpf] at hq; cases hq
        · intro _ _
          exact ⟨rfl, by rw [hs]; exact hb⟩
        · intro _ hq
          have hq : i = 0 := hq
          omega
        · intro hq
          have hq : p.loop = true := hq
          rw [hpf] at hq; cases hq
        · intro j hj hjs
          show (N.tt.set p.beg _).getD j 0 = ((R.tt.set i (-1)).set o _).getD j 0
          rw [getD_set, getD_set, e1, h.lN, List.length_set, h.lR]
          by_cases hoj : p.beg = j ∧ p.beg < sg.length
          · rw [if_pos hoj, if_pos hoj]
          · rw [if_neg hoj, if_neg hoj]
            by_cases hji : j = i
            · subst hji
              rw [hii]; exact h.tl j (Nat.le_refl _) hi
            · rw [h0 j (by omega)]; exact h.ag j (by omega) hjs
        · intro j hj hjl
          show (N.tt.set p.beg _).getD j 0 = -1
          rw [getD_set, if_neg (by omega)]
          exact h.tl j (by omega) hjl
        · intro k hk h126
          show (N.tt.set p.beg _).getD k 0 = _
          rw [getD_set, if_neg (by rintro ⟨h5, _⟩; rw [← h5, ← e1, e2] at h126; omega)]
        · rintro k ⟨q, hq, hk⟩
          rw [hN] at hq
          rcases List.mem_cons.1 hq with rfl | hq
          · exact ⟨_, List.mem_cons_self .., hk⟩
          · exact ⟨q, List.mem_cons_of_mem _ hq, hk⟩
        · intro h126
          rw [hs] at h126; omega
theorem next_endif {sg : List Int} {i : Nat} {s : Int} {N : MS} {R : RS} (h : Inv sg i N R) (hi : i < sg.length) (hs : sg.getD i 0 = s) (hb : s = 59) : NextP sg i s N R := by
  have h0 : ∀ e, e < i → (R.tt.set i (-1)).getD e 0 = R.tt.getD e 0 := fun e he => by rw [getD_set, if_neg (by omega)]
  have hii : (R.tt.set i (-1)).getD i 0 = -1 := by rw [getD_set, if_pos ⟨rfl, by rw [h.lR]; exact hi⟩]
  unfold NextP tokN tokR
  rw [if_neg (by omega), if_neg (by omega), if_pos hb, if_neg (by omega), if_neg (by omega), if_pos hb]
  have hst := h.st
  cases hN : N.opn with
  | nil =>
    cases hR : R.opn with
    | nil => exact .inr ⟨rfl, .inl rfl⟩
    | cons o os => rw [hN, hR] at hst; exact hst.elim
  | cons p ps =>
    cases hR : R.opn with
    | nil => rw [hN, hR] at hst; exact hst.elim
    | cons o os =>
      rw [hN, hR] at hst
      have hst1 := hst
      obtain ⟨⟨a1, a2, a3, a4, a5, a6⟩, b, c, d⟩ := hst1
      simp only
      by_cases hpl : p.loop = true
      · rw [if_pos hpl]
        exact .inr ⟨rfl, .inl (if_pos (a3 hpl).2.1)⟩
      · rw [if_neg hpl]
        have hpf : p.loop = false := by simpa using hpl
        have ho : (if 0 < p.oth then p.oth else p.beg) = o ∧ (sg.getD o 0 = 58 ∨ sg.getD o 0 = 63) := by
          by_cases hq : 0 < p.oth
          · rw [if_pos hq]; exact ⟨(a4 hpf hq).1.symm, .inl (a4 hpf hq).2⟩
          · rw [if_neg hq]; exact ⟨(a5 hpf (by omega)).1.symm, .inr (a5 hpf (by omega)).2⟩
        obtain ⟨e1, e2⟩ := ho
        rw [e1, if_neg (by omega)]
        have he2 : ∀ e, e < i → sg.getD e 0 = 93 → ((R.tt.set i (-1)).set o (i : Int)).getD e 0 = R.tt.getD e 0 := fun e he h93 => by
          rw [getD_set, if_neg (by rintro ⟨rfl, _⟩; omega), h0 e he]
        have hn := stk_next he2 (fun q hq k hk => not_cl (by rw [hs, hb]; decide)) hst
        refine .inl ⟨_, _, rfl, rfl, by simp [h.lN], by simp [h.lR], h.dp, hn.2.2.2, ?_, ?_, pd_keep h he2 ?_ ?_ ?_⟩
        · intro j hj hjs
          show (N.tt.set o _).getD j 0 = ((R.tt.set i (-1)).set o _).getD j 0
          rw [getD_set, getD_set, h.lN, List.length_set, h.lR]
          by_cases hoj : o = j ∧ o < sg.length
          · rw [if_pos hoj, if_pos hoj]
          · rw [if_neg hoj, if_neg hoj]
            by_cases hji : j = i
            · subst hji
              rw [hii]; exact h.tl j (Nat.le_refl _) hi
            · rw [h0 j (by omega)]; exact h.ag j (by omega) hjs
        · intro j hj hjl
          show (N.tt.set o _).getD j 0 = -1
          rw [getD_set, if_neg (by omega)]
          exact h.tl j (by omega) hjl
        · intro k hk h126
          show (N.tt.set o _).getD k 0 = _
          rw [getD_set, if_neg (by rintro ⟨rfl, _⟩; omega)]
        · rintro k ⟨q, hq, hk⟩
          rw [hN] at hq
          rcases List.mem_cons.1 hq with rfl | hq
          · rw [a6 hpf] at hk; cases hk
          · exact ⟨q, hq, hk⟩
        · intro h126
          rw [hs] at h126; omega
theorem next_endloop {sg : List Int} {i : Nat} {s : Int} {N : MS} {R : RS} (h : Inv sg i N R) (hi : i < sg.length) (hs : sg.getD i 0 = s) (hb : s = 93) : NextP sg i s N R := by
  have h0 : ∀ e, e < i → (R.tt.set i (-1)).getD e 0 = R.tt.getD e 0 := fun e he => by rw [getD_set, if_neg (by omega)]
  unfold NextP tokN tokR
  rw [if_neg (by omega), if_neg (by omega), if_neg (by omega), if_pos hb, if_neg (by omega), if_neg (by omega), if_neg (by omega), if_pos hb]
  have hst := h.st
  cases hN : N.opn with
  | nil =>
    cases hR : R.opn with
    | nil => exact .inr ⟨rfl, .inl rfl⟩
    | cons o os => rw [hN, hR] at hst; exact hst.elim
  | cons p ps =>
    cases hR : R.opn with
    | nil => rw [hN, hR] at hst; exact hst.elim
    | cons o os =>
      rw [hN, hR] at hst
      have hst1 := hst
      obtain ⟨⟨a1, a2, a3, a4, a5, a6⟩, b, c, d⟩ := hst1
      simp only
      by_cases hpl : p.loop = true
      · rw [if_pos hpl]
        obtain ⟨e1, e2, e3⟩ := a3 hpl
        rw [if_pos e2]
        have hRi : ((R.tt.set i (-1)).set i (o : Int)).getD i 0 = (o : Int) := by rw [getD_set, if_pos ⟨rfl, by rw [List.length_set, h.lR]; exact hi⟩]
        have hRe : ∀ e, e < i → ((R.tt.set i (-1)).set i (o : Int)).getD e 0 = R.tt.getD e 0 := fun e he => by rw [getD_set, if_neg (by omega), h0 e he]
        have hlN : (setAll (N.tt.set i (p.beg : Int)) ((i : Int) + 1) p.lvs).length = sg.length := by rw [setAll_len, List.length_set, h.lN]
        have hNs : ∀ j, j ∉ p.lvs → (setAll (N.tt.set i (p.beg : Int)) ((i : Int) + 1) p.lvs).getD j 0 = if i = j ∧ i < sg.length then (p.beg : Int) else N.tt.getD j 0 := fun j hj => by
          rw [setAll_at, if_neg (fun hq => hj hq.1), getD_set, h.lN]
        refine .inl ⟨_, _, rfl, rfl, hlN, by simp [h.lR], h.dp, stk_next (fun e he _ => hRe e he) (fun q hq k hk => ?_) d, ?_, ?_, ?_⟩
        · rintro ⟨_, h2⟩
          have h2 : ((R.tt.set i (-1)).set i (o : Int)).getD i 0 < (k : Int) := h2
          rw [hRi] at h2
          have := c hpl q hq k hk
          omega
        · intro j hj hjs
          show (setAll (N.tt.set i (p.beg : Int)) ((i : Int) + 1) p.lvs).getD j 0 = ((R.tt.set i (-1)).set i (o : Int)).getD j 0
          rw [hNs j (fun hm => hjs (b j hm).1)]
          by_cases hji : j = i
          · subst hji
            rw [if_pos ⟨rfl, hi⟩, hRi, e1]
          · rw [if_neg (by omega), hRe j (by omega)]
            exact h.ag j (by omega) hjs
        · intro j hj hjl
          show (setAll (N.tt.set i (p.beg : Int)) ((i : Int) + 1) p.lvs).getD j 0 = -1
          rw [hNs j (fun hm => by have := (b j hm).2.2.1; omega), if_neg (by omega)]
          exact h.tl j (by omega) hjl
        · intro k hk h126
          have hki : k < i := by
            rcases (show k < i ∨ k = i by omega) with h1 | rfl
            · exact h1
            · rw [hs] at h126; omega
          show (∃ e, k ≤ e ∧ e < i + 1 ∧ Cl sg ((R.tt.set i (-1)).set i (o : Int)) k e ∧ (∀ e2, k ≤ e2 → e2 < e → ¬ Cl sg ((R.tt.set i (-1)).set i (o : Int)) k e2) ∧ (setAll (N.tt.set i (p.beg : Int)) ((i : Int) + 1) p.lvs).getD k 0 = (e : Int) + 1) ∨ ∃ q ∈ ps, k ∈ q.lvs
          rcases h.pd k hki h126 with ⟨e, f1, f2, f3, f4, f5⟩ | ⟨q, hq, hkq⟩
          · left
            have hm : k ∉ p.lvs := fun hm => (b k hm).2.2.2 e f1 f2 f3
            refine ⟨e, f1, by omega, (cl_same (fun e he _ => hRe e he) f2).2 f3, fun x hx hx2 hx3 => f4 x hx hx2 ((cl_same (fun e he _ => hRe e he) (by omega)).1 hx3), ?_⟩
            rw [hNs k hm, if_neg (by omega)]
            exact f5
          · rw [hN] at hq
            rcases List.mem_cons.1 hq with rfl | hq
            · left
              obtain ⟨g1, g2, g3, g4⟩ := b k hkq
              refine ⟨i, by omega, by omega, ⟨by rw [hs]; exact hb, by rw [hRi]; omega⟩, fun x hx hx2 hx3 => g4 x hx hx2 ((cl_same (fun e he _ => hRe e he) hx2).1 hx3), ?_⟩
              rw [setAll_at, if_pos ⟨hkq, by rw [List.length_set, h.lN]; omega⟩]
            · exact .inr ⟨q, hq, hkq⟩
      · rw [if_neg hpl]
        have hpf : p.loop = false := by simpa using hpl
        refine .inr ⟨rfl, .inl (if_neg ?_)⟩
        by_cases hq : 0 < p.oth
        · rw [(a4 hpf hq).2]; decide
        · rw [(a5 hpf (by omega)).2]; decide
theorem next_leave {sg : List Int} {i : Nat} {s : Int} {N : MS} {R : RS} (h : Inv sg i N R) (_hi : i < sg.length) (hs : sg.getD i 0 = s) (hb : s = 126) : NextP sg i s N R := by
  have h0 : ∀ e, e < i → (R.tt.set i (-1)).getD e 0 = R.tt.getD e 0 := fun e he => by rw [getD_set, if_neg (by omega)]
  have h9 : ∀ e, sg.getD e 0 = 93 → (R.tt.set i (-1)).getD e 0 = R.tt.getD e 0 := fun e he => by rw [getD_set, if_neg (by rintro ⟨rfl, _⟩; rw [hs] at he; omega)]
  unfold NextP tokN tokR
  rw [if_neg (by omega), if_neg (by omega), if_neg (by omega), if_neg (by omega), if_pos hb, if_neg (by omega), if_neg (by omega), if_neg (by omega), if_neg (by omega)]
  have hl := stk_leave (by rw [hs]; exact hb) h.st
  cases hv : leaveP i N.opn with
  | none =>
    rw [hv] at hl
    have hrel := stk_rel h.st
    refine .inr ⟨rfl, .inr ⟨_, rfl, by simp [h.lR], by omega, by rw [hs]; exact hb, fun o ho => ⟨by have := hrel o ho; omega, ?_, fun h91 => absurd h91 (hl o ho)⟩, fun e he1 he2 => not_cl (by rw [show e = i by omega, hs, hb]; decide)⟩⟩
    have key : ∀ (ps : List Pt) (os : List Nat), Stk sg R.tt i ps os → ∀ o ∈ os, sg.getD o 0 ≠ 93 := by
      intro ps
      induction ps with
      | nil =>
        intro os hS o ho
        cases os with
        | nil => cases ho
        | cons q os => exact hS.elim
      | cons p ps ih =>
        intro os hS o ho
        cases os with
        | nil => cases ho
        | cons q os =>
          obtain ⟨⟨a1, a2, a3, a4, a5, a6⟩, _, _, d⟩ := hS
          rcases List.mem_cons.1 ho with rfl | ho
          · cases hp : p.loop with
            | true => rw [(a3 hp).2.1]; decide
            | false =>
              by_cases hq : 0 < p.oth
              · rw [(a4 hp hq).2]; decide
              · rw [(a5 hp (by omega)).2]; decide
          · exact ih os d o ho
    exact key _ _ h.st o ho
  | some o =>
    rw [hv] at hl
    obtain ⟨l1, l2, l3⟩ := hl
    refine .inl ⟨_, _, rfl, rfl, h.lN, by simp [h.lR], h.dp, stk_congr h9 l1, ?_, fun j hj hjl => h.tl j (by omega) hjl, pd_keep h (fun e he _ => h0 e he) (fun _ _ _ => rfl) l2 (fun _ => l3)⟩
    intro j hj hjs
    have hji : j ≠ i := fun hq => hjs (by rw [hq, hs]; exact hb)
    rw [h0 j (by omega)]
    exact h.ag j (by omega) hjs
theorem next_skip {sg : List Int} {i : Nat} {s : Int} {N : MS} {R : RS} (h : Inv sg i N R) (hi : i < sg.length) (hs : sg.getD i 0 = s) (h1 : ¬ (s = 63 ∨ s = 91)) (h2 : s ≠ 58) (h3 : s ≠ 59) (h4 : s ≠ 93) (h5 : s ≠ 126) : NextP sg i s N R := by
  have h0 : ∀ e, e < i → (R.tt.set i (-1)).getD e 0 = R.tt.getD e 0 := fun e he => by rw [getD_set, if_neg (by omega)]
  have hii : (R.tt.set i (-1)).getD i 0 = -1 := by rw [getD_set, if_pos ⟨rfl, by rw [h.lR]; exact hi⟩]
  unfold NextP tokN tokR
  rw [if_neg h1, if_neg h2, if_neg h3, if_neg h4, if_neg h5, if_neg h1, if_neg h2, if_neg h3, if_neg h4]
  refine .inl ⟨_, _, rfl, rfl, h.lN, by simp [h.lR], h.dp, stk_next (fun e he _ => h0 e he) (fun p hp k hk => not_cl (by rw [hs]; exact h4)) h.st, ?_, fun j hj hjl => h.tl j (by omega) hjl, pd_keep h (fun e he _ => h0 e he) (fun _ _ _ => rfl) (fun _ hk => hk) (fun hq => absurd (hs ▸ hq) h5)⟩
  intro j hj hjs
  by_cases hji : j = i
  · subst hji
    rw [hii]; exact h.tl j (Nat.le_refl _) hi
  · rw [h0 j (by omega)]; exact h.ag j (by omega) hjs
theorem next_tok {sg : List Int} {i : Nat} {s : Int} {N : MS} {R : RS} (h : Inv sg i N R) (hi : i < sg.length) (hs : sg.getD i 0 = s) : NextP sg i s N R := by
  by_cases h1 : s = 63 ∨ s = 91
  · exact next_push h hi hs h1
  by_cases h2 : s = 58
  · exact next_other h hi hs h2
  by_cases h3 : s = 59
  · exact next_endif h hi hs h3
  by_cases h4 : s = 93
  · exact next_endloop h hi hs h4
  by_cases h5 : s = 126
  · exact next_leave h hi hs h5
  exact next_skip h hi hs h1 h2 h3 h4 h5
def DoomEnd (sg : List Int) (k : Nat) (R : RS) : Prop := sg.getD k 0 = 126 ∧ k < sg.length ∧ ∀ e, k ≤ e → e < sg.length → ¬ Cl sg R.tt k e
theorem drop_cons {sg t : List Int} {i : Nat} {s : Int} (hd : sg.drop i = s :: t) : i < sg.length ∧ sg.getD i 0 = s ∧ sg.drop (i + 1) = t := by
  refine ⟨?_, ?_, by rw [← List.drop_drop, hd]; rfl⟩
  · have := congrArg List.length hd
    rw [List.length_drop, List.length_cons] at this
    omega
  · have := congrArg (fun l => l[0]?) hd
    simp only [List.getElem?_drop, Nat.add_zero, List.getElem?_cons_zero] at this
    rw [List.getD_eq_getElem?_getD, this]; rfl
theorem drop_nil {sg : List Int} {i : Nat} (hd : sg.drop i = []) : sg.length ≤ i := by
  have := congrArg List.length hd
  rw [List.length_drop, List.length_nil] at this
  omega
theorem doom_run {sg : List Int} {k : Nat} : ∀ (t : List Int) (i : Nat) {R R2 : RS}, sg.drop i = t → Doom sg i k R → runR sg i t R = some R2 → DoomEnd sg k R2
  | [], i, R, R2, hd, h, hr => by
    cases hr
    have hl := drop_nil hd
    have c := h.hs
    have hk : k < sg.length := by
      rcases (show k < sg.length ∨ sg.length ≤ k by omega) with h1 | h1
      · exact h1
      · rw [List.getD_eq_getElem?_getD, List.getElem?_eq_none h1] at c
        exact absurd c (by decide)
    exact ⟨c, hk, fun e2 h1 h2 => h.nc e2 h1 (by omega)⟩
  | s :: t, i, R, R2, hd, h, hr => by
    obtain ⟨hi, hs, hd2⟩ := drop_cons hd
    unfold runR at hr
    cases ht : tokR sg i s R with
    | none => rw [ht] at hr; cases hr
    | some R3 =>
      rw [ht] at hr
      exact doom_run t (i + 1) hd2 (doom_tok h hi hs ht) hr
theorem run_both {sg : List Int} : ∀ (t : List Int) (i : Nat) {N : MS} {R : RS}, i ≤ sg.length → sg.drop i = t → Inv sg i N R → (∃ N2 R2, runN i t N = some N2 ∧ runR sg i t R = some R2 ∧ Inv sg sg.length N2 R2) ∨ (runN i t N = none ∧ (runR sg i t R = none ∨ ∃ R2 k, runR sg i t R = some R2 ∧ DoomEnd sg k R2))
  | [], i, N, R, hle, hd, h => by
    have hl := drop_nil hd
    obtain rfl : i = sg.length := by omega
    exact .inl ⟨N, R, rfl, rfl, h⟩
  | s :: t, i, N, R, hle, hd, h => by
    obtain ⟨hi, hs, hd2⟩ := drop_cons hd
    unfold runN runR
    rcases next_tok h hi hs with ⟨N2, R2, e1, e2, h2⟩ | ⟨e1, e2 | ⟨R2, e2, hdm⟩⟩
    · rw [e1, e2]
      exact run_both t (i + 1) hi hd2 h2
    · rw [e1, e2]
      exact .inr ⟨rfl, .inl rfl⟩
    · rw [e1, e2]
      refine .inr ⟨rfl, ?_⟩
      show runR sg (i + 1) t R2 = none ∨ ∃ R3 k, runR sg (i + 1) t R2 = some R3 ∧ DoomEnd sg k R3
      cases hr : runR sg (i + 1) t R2 with
      | none => exact .inl rfl
      | some R3 => exact .inr ⟨R3, i, rfl, doom_run t (i + 1) hd2 hdm hr⟩
theorem leaves_no {sg tt : List Int} {k : Nat} : ∀ (m i : Nat), (∀ e, i ≤ e → e < i + m → ¬ Cl sg tt k e) → leavesF sg tt k m i = -1
  | 0, _, _ => rfl
  | m + 1, i, h => by
    unfold leavesF
    rw [if_neg (show ¬ (sg.getD i 0 = 93 ∧ tt.getD i 0 < (k : Int)) from h i (Nat.le_refl _) (by omega)), leaves_no m (i + 1) (fun e h1 h2 => h e (by omega) (by omega))]
theorem leaves_at {sg tt : List Int} {k e : Nat} : ∀ (m i : Nat), i ≤ e → e < i + m → Cl sg tt k e → (∀ e2, i ≤ e2 → e2 < e → ¬ Cl sg tt k e2) → leavesF sg tt k m i = (e : Int) + 1
  | 0, i, h1, h2, _, _ => by omega
  | m + 1, i, h1, h2, hc, hn => by
    unfold leavesF
    by_cases hi : i = e
    · subst hi
      exact if_pos hc
    · rw [if_neg (show ¬ (sg.getD i 0 = 93 ∧ tt.getD i 0 < (k : Int)) from hn i (Nat.le_refl _) (by omega)), leaves_at m (i + 1) (by omega) (by omega) hc (fun e2 g1 g2 => hn e2 (by omega) g2)]
theorem secR_no {sg R : List Int} {k : Nat} (hk : sg.getD k 0 = 126) (hn : ∀ e, k ≤ e → e < sg.length → ¬ Cl sg R k e) : ∀ (m i : Nat) (tt : List Int), i + m = sg.length → i ≤ k → k < sg.length → (∀ e, sg.getD e 0 = 93 → tt.getD e 0 = R.getD e 0) → secR sg m i tt = none
  | 0, i, tt, h1, h2, h3, _ => by omega
  | m + 1, i, tt, h1, h2, h3, he => by
    unfold secR
    by_cases hi : sg.getD i 0 = 126
    · rw [if_pos hi]
      by_cases hik : i = k
      · subst hik
        rw [leaves_no _ _ (fun e g1 g2 hc => hn e g1 (by omega) ⟨hc.1, by rw [← he e hc.1]; exact hc.2⟩)]
        rfl
      · split
        · rfl
        · refine secR_no hk hn m (i + 1) _ (by omega) (by omega) h3 (fun e h93 => ?_)
          rw [getD_set, if_neg (by rintro ⟨rfl, _⟩; rw [hi] at h93; omega)]
          exact he e h93
    · rw [if_neg hi]
      have hik : i ≠ k := fun hq => hi (by rw [hq]; exact hk)
      exact secR_no hk hn m (i + 1) tt (by omega) (by omega) h3 he
theorem secR_yes {sg R T : List Int} (hR : R.length = sg.length) (hT : T.length = sg.length) (ha : ∀ j, j < sg.length → sg.getD j 0 ≠ 126 → T.getD j 0 = R.getD j 0) (hp : ∀ k, k < sg.length → sg.getD k 0 = 126 → ∃ e, k ≤ e ∧ e < sg.length ∧ Cl sg R k e ∧ (∀ e2, k ≤ e2 → e2 < e → ¬ Cl sg R k e2) ∧ T.getD k 0 = (e : Int) + 1) :
    ∀ (m i : Nat) (tt : List Int), i + m = sg.length → tt.length = sg.length → (∀ j, j < i → tt.getD j 0 = T.getD j 0) → (∀ j, i ≤ j → tt.getD j 0 = R.getD j 0) → (∀ e, sg.getD e 0 = 93 → tt.getD e 0 = R.getD e 0) → secR sg m i tt = some T
  | 0, i, tt, h1, h2, h3, _, _ => by
    unfold secR
    congr 1
    apply List.ext_getElem (by rw [h2, hT])
    intro j j1 j2
    have := h3 j (by omega)
    rw [List.getD_eq_getElem?_getD, List.getD_eq_getElem?_getD, List.getElem?_eq_getElem j1, List.getElem?_eq_getElem j2] at this
    exact this
  | m + 1, i, tt, h1, h2, h3, h4, h5 => by
    unfold secR
    have hcl : ∀ k e, Cl sg tt k e ↔ Cl sg R k e := fun k e => ⟨fun hc => ⟨hc.1, by rw [← h5 e hc.1]; exact hc.2⟩, fun hc => ⟨hc.1, by rw [h5 e hc.1]; exact hc.2⟩⟩
    by_cases hi : sg.getD i 0 = 126
    · obtain ⟨e, g1, g2, g3, g4, g5⟩ := hp i (by omega) hi
      have hv := leaves_at (tt := tt) (k := i) (sg.length - i) i g1 (by omega) ((hcl i e).2 g3) (fun e2 q1 q2 q3 => g4 e2 q1 q2 ((hcl i e2).1 q3))
      rw [if_pos hi, hv, if_neg (by omega)]
      refine secR_yes hR hT ha hp m (i + 1) _ (by omega) (by rw [List.length_set]; exact h2) (fun j hj => ?_) (fun j hj => ?_) (fun e2 h93 => ?_)
      · rw [getD_set]
        by_cases hij : i = j
        · subst hij
          rw [if_pos ⟨rfl, by omega⟩, g5]
        · rw [if_neg (by omega)]
          exact h3 j (by omega)
      · rw [getD_set, if_neg (by omega)]
        exact h4 j (by omega)
      · rw [getD_set, if_neg (by rintro ⟨rfl, _⟩; rw [hi] at h93; omega)]
        exact h5 e2 h93
    · rw [if_neg hi]
      refine secR_yes hR hT ha hp m (i + 1) tt (by omega) h2 (fun j hj => ?_) (fun j hj => h4 j (by omega)) h5
      by_cases hij : j = i
      · subst hij
        rw [h4 j (Nat.le_refl _), ha j (by omega) hi]
      · exact h3 j (by omega)
theorem start (sg : List Int) : Inv sg 0 ⟨List.replicate sg.length (-1), [], 0⟩ ⟨List.replicate sg.length 0, [], 0⟩ := by
  refine ⟨by simp, by simp, rfl, trivial, fun j hj => by omega, fun j _ hj => ?_, fun k hk => by omega⟩
  show (List.replicate sg.length (-1 : Int)).getD j 0 = -1
  rw [List.getD_eq_getElem?_getD, List.getElem?_replicate, if_pos hj]; rfl
theorem nest_eq (sg : List Int) : nestR sg = (matchN sg).map (fun m => (m.tt, m.deep)) := by
  unfold nestR matchN
  rcases run_both sg 0 (Nat.zero_le _) (by rw [List.drop_zero]) (start sg) with ⟨N2, R2, e1, e2, h⟩ | ⟨e1, e2 | ⟨R2, k, e2, hd⟩⟩
  · rw [e1, e2]
    have hl := stk_len h.st
    simp only
    by_cases hN : N2.opn = []
    · have hR : R2.opn = [] := List.eq_nil_of_length_eq_zero (by rw [← hl, hN]; rfl)
      rw [if_pos hN, if_pos hR]
      have hs := secR_yes (sg := sg) (R := R2.tt) (T := N2.tt) h.lR h.lN (fun j hj hq => h.ag j hj hq) (fun k hk hq => by
        rcases h.pd k hk hq with h1 | ⟨p, hp, _⟩
        · exact h1
        · rw [hN] at hp; cases hp) sg.length 0 R2.tt (by omega) h.lR (fun j hj => by omega) (fun j _ => rfl) (fun e _ => rfl)
      rw [hs, ← h.dp]
      rfl
    · have hR : R2.opn ≠ [] := fun hq => hN (List.eq_nil_of_length_eq_zero (by rw [hl, hq]; rfl))
      rw [if_neg hN, if_neg hR]
      rfl
  · rw [e1, e2]; rfl
  · rw [e1, e2]
    simp only
    split
    · rw [secR_no (R := R2.tt) hd.1 hd.2.2 sg.length 0 R2.tt (by omega) (Nat.zero_le _) hd.2.1 (fun e _ => rfl)]
      rfl
    · rfl
end Go.Proofs.Ytkkgfpdjlohojaa.NestP
namespace Go.Proofs.Ytkkgfpdjlohojaa.Kit
open Go.RowKit Go.Proofs.YtkkgfpdjlohojaaW.PrintWords Go.Proofs.YtkkgfpdjlohojaaW.PrintLast Go.Proofs.YtkkgfpdjlohojaaW.PrintMore
namespace Sep
variable {w0 W W' : World} {F : List HP}
section
variable {P : Program} {ops : Array Oper} {rest : List Oper} {o : Oper} {a : Act} {Q : Exit → Act → World → Prop} {sz : Nat}
theorem appendRaw {e : Nat} {v : Value} {xs ys : List (List Value)} (h : Sep w0 W (Row (Kd.raw sz) e v xs :: F)) (hgd : o.guard = none) (s x : Operand) (t : TypeId) (z : Value) (bytes : Nat)
    (ho : o.op = .call { callee := .builtin .append, args := #[s, x], argTypes := #[t, t] })
    (ht : P.underlying t = some (.slice e)) (hinfo : (P.info? e).map (fun i => (i.zero, i.size, i.bytes)) = some (some z, sz, bytes)) (hz : z.cells.size = sz) (hs0 : 0 < sz) (hb0 : 0 < bytes)
    (A : Option Addr) (m c : Nat) (hs : a.eval s = v) (hx : a.eval x = .slice A m c) (hC : (Kd.raw sz).C W A m ys) (hl : (xs.length + ys.length) * bytes ≤ 140737488355328)
    (k : ∀ v1 w1, Sep w0 w1 (Row (Kd.raw sz) e v1 (xs ++ ys) :: F) → wpList P ops Q rest (a.put o.dst v1) w1) : wpList P ops Q (o :: rest) a W := by
  obtain ⟨ok, hp, hd, hF⟩ := h.sep
  refine Kd.R_append_rows (Kd.raw sz) (Rr := (Kd.raw sz).K W) (w0 := W) 0 hgd s x t e z bytes ho ht hinfo hz hs0 hb0 v xs ys A m c (fun k => ok k ∨ W.heap.size ≤ k) (fun _ => False) hs hx
    (Kd.R_mono hp.1 (fun k hk => .inl hk)) hC (fun x cs h => h) (fun _ h => h.elim) (fun k hk => .inr hk) (Below.refl 0 W) (Nat.zero_le _) (by rw [← hC.1]; exact hl) (fun v1 w1 hr hb hg hat => k v1 w1 ?_)
  exact h.stepOk hd hF ⟨hg.os, hg.tape, hg.output, hg.size⟩ (fun k hlt hn => hg.block k hlt (fun he => hn (hp.1.1 k he.symm))) (ok' := fun k => (ok k ∨ W.heap.size ≤ k) ∧ k < w1.heap.size)
    ⟨Kd.R_mono (Kd.R_bound hr) (fun k hk => ⟨hk.1, hk.2.2.1⟩), fun k hk => hk.2⟩ (fun k hk => hk.1)
end
end Sep
end Go.Proofs.Ytkkgfpdjlohojaa.Kit
namespace Go.Proofs.Ytkkgfpdjlohojaa.Kit
open Go.RowKit Go.Proofs.YtkkgfpdjlohojaaW.PrintWords Go.Proofs.YtkkgfpdjlohojaaW.PrintLast Go.Proofs.YtkkgfpdjlohojaaW.PrintMore
theorem reps_put {sz j q : Nat} {xs : List (List Value)} {inner : List Value} {M : List Value → List Value → Prop} (hM : ∀ p c, M p c ↔ (c = p ∧ p.length = sz ∧ ∀ u ∈ p, u.oneCell' = true)) (h : Reps M sz xs inner) (hj : j < xs.length) (hq : q < sz) {u : Value} (hu : u.oneCell' = true) :
    Reps M sz (xs.set j ((xs.getD j []).set q u)) (inner.set (j * sz + q) u) := by
  refine ⟨by rw [List.length_set, List.length_set]; exact h.1, fun i p hi => ?_⟩
  rw [hM]
  have hx := h.2 j _ (List.getElem?_eq_getElem hj)
  rw [hM] at hx
  have hg : xs.getD j [] = xs[j] := by rw [List.getD_eq_getElem?_getD, List.getElem?_eq_getElem hj]; rfl
  rw [hg] at hi
  by_cases hij : i = j
  · subst hij
    rw [List.getElem?_set_self hj] at hi
    cases hi
    refine ⟨?_, by rw [List.length_set]; exact hx.2.1, fun v hv => ?_⟩
    · rw [← hx.1]
      apply List.ext_getElem?
      intro t
      rw [List.getElem?_take, List.getElem?_set, List.getElem?_take, List.getElem?_drop, List.getElem?_drop, List.getElem?_set, List.length_take, List.length_drop]
      by_cases ht : t < sz
      · rw [if_pos ht, if_pos ht]
        by_cases htq : q = t
        · subst htq
          have hl : (xs[i]).length = sz := hx.2.1
          have h3 := congrArg List.length hx.1
          rw [List.length_take, List.length_drop, hl] at h3
          rw [if_pos rfl, if_pos rfl, if_pos (by omega), if_pos (by omega)]
        · rw [if_neg (by omega), if_neg htq]
      · rw [if_neg ht, if_neg ht, if_neg (by omega)]
    · rcases List.mem_or_eq_of_mem_set hv with hv | rfl
      · exact hx.2.2 v hv
      · exact hu
  · rw [List.getElem?_set_ne (fun hq => hij hq.symm)] at hi
    have hy := h.2 i p hi
    rw [hM] at hy
    refine ⟨?_, hy.2⟩
    rw [← hy.1]
    apply List.ext_getElem?
    intro t
    rw [List.getElem?_take, List.getElem?_take, List.getElem?_drop, List.getElem?_drop, List.getElem?_set]
    by_cases ht : t < sz
    · rw [if_pos ht, if_pos ht, if_neg]
      intro he
      rcases Nat.lt_or_gt_of_ne hij with h1 | h1
      · have : (i + 1) * sz ≤ j * sz := Nat.mul_le_mul_right _ h1
        rw [Nat.add_mul] at this
        omega
      · have : (j + 1) * sz ≤ i * sz := Nat.mul_le_mul_right _ h1
        rw [Nat.add_mul] at this
        omega
    · rw [if_neg ht, if_neg ht]
namespace Sep
theorem pull (A : List HP) {w0 W : World} {p : HP} {B : List HP} (h : Sep w0 W (A ++ p :: B)) : Sep w0 W (p :: (A ++ B)) := h.perm List.perm_middle
theorem push (A : List HP) {w0 W : World} {p : HP} {B : List HP} (h : Sep w0 W (p :: (A ++ B))) : Sep w0 W (A ++ p :: B) := h.perm List.perm_middle.symm
variable {w0 W : World} {F : List HP} {g n cap sz j q e : Nat} {xs : List (List Value)} {u : Value}
theorem putRaw (h : Sep w0 W (Row (Kd.raw sz) e (.slice (some ⟨g, 0, none⟩) n cap) xs :: F)) (hj : j < xs.length) (hq : q < sz) (hu : u.oneCell' = true) :
    Sep w0 (W.setCell ⟨g, j * sz + q, none⟩ u) (Row (Kd.raw sz) e (.slice (some ⟨g, 0, none⟩) n cap) (xs.set j ((xs.getD j []).set q u)) :: F) := by
  have hn : n = xs.length := h.rowC.1
  subst hn
  exact h.step ⟨rfl, rfl, rfl, by simp [World.setCell]⟩ (fun ok hp => ⟨fun k _ hn => Below.heap_setCell W _ _ k (fun he => hn (by
      have := hp.1.1 g rfl
      rw [he]; exact this)), ok, ⟨by
    obtain ⟨h1, inner, ho, hr⟩ := hp.1
    refine ⟨h1, inner.set (j * sz + q) u, ?_, reps_put (fun p c => ?_) hr hj hq hu⟩
    · have := (ho.stored (j * sz + q) u).1
      rwa [List.length_set]
    · exact ⟨fun ⟨h1, h2, h3⟩ => ⟨h1, by rw [← h1]; exact h2, by rw [← h1]; exact h3⟩, fun ⟨h1, h2, h3⟩ => ⟨h1, by rw [h1]; exact h2, by rw [h1]; exact h3⟩⟩, fun k hk => by simpa [World.setCell] using hp.2 k hk⟩, fun k hk => .inl hk⟩)
theorem rowTake {α : Type} {d : Kd α} {A : Option Addr} {m c : Nat} {ys : List α} (h : Sep w0 W (Row d e (.slice A n c) ys :: F)) (hm : m ≤ ys.length) : Sep w0 W (Row d e (.slice A m c) (ys.take m) :: F) :=
  h.imp (fun ok hp => ⟨Kd.R_take hp.1 hm, hp.2⟩)
end Sep
end Go.Proofs.Ytkkgfpdjlohojaa.Kit
namespace Go.Proofs.Ytkkgfpdjlohojaa.Kit
open Go.RowKit Go.Proofs.YtkkgfpdjlohojaaW.PrintWords Go.Proofs.YtkkgfpdjlohojaaW.PrintLast Go.Proofs.YtkkgfpdjlohojaaW.PrintMore
def Fx (φ : World → Prop) : HP where
  P W ok := (∀ W' : World, (∀ k, ok k → W'.heap[k]? = W.heap[k]?) → φ W') ∧ ∀ k, ok k → k < W.heap.size
  loc := fun {W W' ok} h hm => ⟨fun W2 h2 => h.1 W2 (fun k hk => (h2 k hk).trans (hm k hk)), fun k hk => by
      have := hm k hk
      rw [Array.getElem?_eq_getElem (h.2 k hk)] at this
      exact (Array.getElem?_eq_some_iff.1 this).1⟩
  bnd := fun h => h.2
namespace Sep
variable {w0 W W' : World} {F : List HP} {φ ψ : World → Prop}
theorem fx (h : Sep w0 W (Fx φ :: F)) : φ W := by
  obtain ⟨ok, hp, _⟩ := h.sep; exact hp.1 W (fun _ _ => rfl)
end Sep
end Go.Proofs.Ytkkgfpdjlohojaa.Kit
namespace Go.Proofs.Ytkkgfpdjlohojaa.Kit
open Go.RowKit Go.Proofs.YtkkgfpdjlohojaaW.PrintWords Go.Proofs.YtkkgfpdjlohojaaW.PrintLast Go.Proofs.YtkkgfpdjlohojaaW.PrintMore
def Each {α : Type} (d : Kd α) (xs : List α) (cs : List (List Value)) (W : World) : Prop := xs.length = cs.length ∧ ∀ (j : Nat) x c, xs[j]? = some x → cs[j]? = some c → d.K W x c
theorem Each.take {α : Type} {d : Kd α} {xs : List α} {cs : List (List Value)} {W : World} (h : Each d xs cs W) (k : Nat) : Each d (xs.take k) (cs.take k) W := by
  refine ⟨by simp [h.1], fun j y b hy hb => ?_⟩
  rw [List.getElem?_take] at hy hb
  split at hy
  · rename_i hj
    rw [if_pos hj] at hb
    exact h.2 j y b hy hb
  · cases hy
theorem Each.drop {α : Type} {d : Kd α} {xs : List α} {cs : List (List Value)} {W : World} (h : Each d xs cs W) (k : Nat) : Each d (xs.drop k) (cs.drop k) W := by
  refine ⟨by simp [h.1], fun j y b hy hb => ?_⟩
  rw [List.getElem?_drop] at hy hb
  exact h.2 _ y b hy hb
end Go.Proofs.Ytkkgfpdjlohojaa.Kit
namespace Go.Proofs.Ytkkgfpdjlohojaa.Kit
open Go.RowKit Go.Proofs.YtkkgfpdjlohojaaW.PrintWords Go.Proofs.YtkkgfpdjlohojaaW.PrintLast Go.Proofs.YtkkgfpdjlohojaaW.PrintMore
section
variable {P : Program} {T E : TypeId} {sz bytes : Nat} {z : Value}
theorem elem_of (ht : P.underlying T = some (.slice E)) : P.elem T = E := by simp [Program.elem, ht]
theorem cutHi (ht : P.underlying T = some (.slice E)) (hinfo : (P.info? E).map (fun i => (i.zero, i.size, i.bytes)) = some (some z, sz, bytes)) (A : Option Addr) (n c b : Nat) {K : Int} (hK : K = (b : Int)) (h1 : b ≤ n) (h2 : n ≤ c) (W : World) :
    (Instr.slice T (.slice A n c) none (some (.int .i64 K)) none).run P W = .ok (.slice A b c) W := by
  subst hK
  obtain ⟨t, hi, hz⟩ := Option.map_eq_some_iff.1 hinfo
  simp only [Prod.mk.injEq] at hz
  rw [run_slice_h W T A n c (by rw [elem_of ht]; exact ht) .i64 (b : Int) (by omega) (by omega), elem_of ht]
  have e : (A.map fun x => x.add 0) = A := by
    cases A with
    | none => rfl
    | some a => simp [Addr.add]
  simp [sizeOf, typeInfo, hi, hz.2.1, sliced, Result.andThen, e]
end
namespace Sep
section
variable {w0 W W' : World} {F : List HP} {P : Program} {ops : Array Oper} {rest : List Oper} {o : Oper} {a : Act} {Q : Exit → Act → World → Prop} {sz : Nat}
theorem appendRawStep {Kc : Act → World → Prop} {e : Nat} {v : Value} {xs ys : List (List Value)} (h : Sep w0 W (Row (Kd.raw sz) e v xs :: F)) (hw : Region.wanted o (yielded ops a.tmps) = true) (s x : Operand) (t : TypeId) (z : Value) (bytes : Nat)
    (ho : o.op = .call { callee := .builtin .append, args := #[s, x], argTypes := #[t, t] })
    (ht : P.underlying t = some (.slice e)) (hinfo : (P.info? e).map (fun i => (i.zero, i.size, i.bytes)) = some (some z, sz, bytes)) (hz : z.cells.size = sz) (hs0 : 0 < sz) (hb0 : 0 < bytes)
    (A : Option Addr) (m c : Nat) (hs : a.eval s = v) (hx : a.eval x = .slice A m c) (hC : (Kd.raw sz).C W A m ys) (hl : (xs.length + ys.length) * bytes ≤ 140737488355328)
    (k : ∀ v1 w1, Sep w0 w1 (Row (Kd.raw sz) e v1 (xs ++ ys) :: F) → Kc (a.put o.dst v1) w1) : if Region.wanted o (yielded ops a.tmps) = true then Oper.wp P o a W Kc Q else Kc (a.put o.dst undef) W := by
  obtain ⟨ok, hp, hd, hF⟩ := h.sep
  refine Kd.R_append_rows_step (Kd.raw sz) (Rr := (Kd.raw sz).K W) (w0 := W) 0 hw s x t e z bytes ho ht hinfo hz hs0 hb0 v xs ys A m c (fun k => ok k ∨ W.heap.size ≤ k) (fun _ => False) hs hx
    (Kd.R_mono hp.1 (fun k hk => .inl hk)) hC (fun x cs h => h) (fun _ h => h.elim) (fun k hk => .inr hk) (Below.refl 0 W) (Nat.zero_le _) (by rw [← hC.1]; exact hl) (fun v1 w1 hr hb hg hat => k v1 w1 ?_)
  exact h.stepOk hd hF ⟨hg.os, hg.tape, hg.output, hg.size⟩ (fun k hlt hn => hg.block k hlt (fun he => hn (hp.1.1 k he.symm))) (ok' := fun k => (ok k ∨ W.heap.size ≤ k) ∧ k < w1.heap.size)
    ⟨Kd.R_mono (Kd.R_bound hr) (fun k hk => ⟨hk.1, hk.2.2.1⟩), fun k hk => hk.2⟩ (fun k hk => hk.1)
theorem rowC' {α : Type} {d : Kd α} {e n c : Nat} {A : Option Addr} {xs : List α} (h : Sep w0 W (Row d e (.slice A n c) xs :: F)) : d.C W A n xs := by
  have h1 := h.rowC
  have := h1.2.2
  rwa [← h1.1] at this
theorem newLit {α : Type} {d : Kd α} {xs : List α} {inner : List Value} {e : Nat} (h : Sep w0 W F) (hrep : Reps (d.M W W.heap.size (fun _ => False)) d.sz xs inner) (hm : xs.length ≤ 9223372036854775807) :
    Sep w0 (W.alloc (.cells inner.toArray e)) (Row d e (.slice (some ⟨W.heap.size, 0, none⟩) xs.length xs.length) xs :: F) := by
  refine h.newRow (ok := fun _ => True) ⟨fun _ _ => trivial, inner, ?_, ?_⟩ (below_alloc (Below.refl _ _) _)
  · have h2 := World.ownsRow_lit (base := W.heap.size) (e := e) (size := d.sz) W inner.toArray xs.length (Nat.le_refl _) (by simpa [maxLen] using hm) (by simpa using hrep.1)
    simpa using h2
  · exact hrep.imp_ (fun p c hp => d.M_mono (fun k hk => hk.1.elim) (Kd.M_below (d.M_bound hp) (below_alloc (Below.refl _ _) _)))
end
end Sep
end Go.Proofs.Ytkkgfpdjlohojaa.Kit
namespace Go.Proofs.Ytkkgfpdjlohojaa.Book
open Go.RowKit Go.Proofs.YtkkgfpdjlohojaaW.PrintWords Go.Proofs.Ytkkgfpdjlohojaa.Kit
def withinF (n lo hi : Int) : Int :=
  if lo ≤ n ∧ n ≤ hi then n else lo + (if n.tmod (hi - lo + 1) < 0 then n.tmod (hi - lo + 1) + hi - lo + 1 else n.tmod (hi - lo + 1))
theorem withinF_in {n lo hi : Int} (h : lo ≤ hi) : lo ≤ withinF n lo hi ∧ withinF n lo hi ≤ hi := by
  unfold withinF
  split
  · omega
  · have h1 : n.tmod (hi - lo + 1) < hi - lo + 1 := Int.tmod_lt_of_pos n (by omega)
    have h2 : -(hi - lo + 1) < n.tmod (hi - lo + 1) := Int.lt_tmod_of_pos n (by omega)
    split <;> omega
theorem withinF_id {n lo hi : Int} (h1 : lo ≤ n) (h2 : n ≤ hi) : withinF n lo hi = n := if_pos ⟨h1, h2⟩
set_option maxHeartbeats 400000 in
theorem within_ (n lo hi : Int) (w : World) (h1 : -1073741824 ≤ lo) (h2 : lo ≤ hi) (h3 : hi ≤ 1073741824) :
    Calls Try.prog 17 #[.int .i64 n, .int .i64 lo, .int .i64 hi] w fun e w' => e = .returned (.int .i64 (withinF n lo hi)) ∧ w = w' := by
  have A0 := Aside0.mk (withinF_in (n := n) h2)
  have r1 : n.tmod (hi - lo + 1) < hi - lo + 1 := Int.tmod_lt_of_pos n (by omega)
  have r2 : -(hi - lo + 1) < n.tmod (hi - lo + 1) := Int.lt_tmod_of_pos n (by omega)
  have nz : ¬ (hi - lo + 1 = 0) := by omega
  have fin : ∀ (a : Int), withinF n lo hi = a → Ending.returned (.int .i64 a) = Ending.returned (.int .i64 (withinF n lo hi)) := fun a h => by rw [h]
  have AF := Aside0.mk fin
  clear fin
  by_cases c1 : lo ≤ n
  · by_cases c2 : n ≤ hi
    · have A1 := Aside0.mk (withinF_id c1 c2)
      clear r1 r2 nz
      go_enter Try.func17, Try.ntmps17
      go_wp2
      go_ret
      exact ⟨AF.out _ A1.out, rfl⟩
    · have A1 : Aside0 (withinF n lo hi = lo + (if n.tmod (hi - lo + 1) < 0 then n.tmod (hi - lo + 1) + hi - lo + 1 else n.tmod (hi - lo + 1))) := ⟨if_neg (fun h => c2 h.2)⟩
      by_cases c3 : n.tmod (hi - lo + 1) < 0
      · go_enter Try.func17, Try.ntmps17
        go_wp2
        go_ret
        exact ⟨AF.out _ (by rw [A1.out, if_pos c3]), rfl⟩
      · go_enter Try.func17, Try.ntmps17
        go_wp2
        go_ret
        exact ⟨AF.out _ (by rw [A1.out, if_neg (by omega)]), rfl⟩
  · have A1 : Aside0 (withinF n lo hi = lo + (if n.tmod (hi - lo + 1) < 0 then n.tmod (hi - lo + 1) + hi - lo + 1 else n.tmod (hi - lo + 1))) := ⟨if_neg (fun h => c1 h.1)⟩
    by_cases c3 : n.tmod (hi - lo + 1) < 0
    · go_enter Try.func17, Try.ntmps17
      go_wp2
      go_ret
      exact ⟨AF.out _ (by rw [A1.out, if_pos c3]), rfl⟩
    · go_enter Try.func17, Try.ntmps17
      go_wp2
      go_ret
      exact ⟨AF.out _ (by rw [A1.out, if_neg (by omega)]), rfl⟩
end Go.Proofs.Ytkkgfpdjlohojaa.Book
namespace Go.Proofs.Ytkkgfpdjlohojaa.Nest
open Go.RowKit Go.Proofs.YtkkgfpdjlohojaaW.PrintWords Go.Proofs.YtkkgfpdjlohojaaW.PrintLast Go.Proofs.YtkkgfpdjlohojaaW.PrintMore Go.Proofs.Ytkkgfpdjlohojaa.Kit
open Go.Proofs.Ytkkgfpdjlohojaa.NestP
abbrev I64 : Kd Int := Kd.int .i64
def cellsP (p : Pt) (v : Value) : List Value := [.bool p.loop, .int .i64 (p.beg : Int), .int .i64 (p.oth : Int), v]
def lvR : List Pt → List Value → List HP
  | p :: ps, v :: vs => Row I64 3 v (p.lvs.map (fun k : Nat => (k : Int))) :: lvR ps vs
  | _, _ => []
def rawC : List Pt → List Value → List (List Value)
  | p :: ps, v :: vs => cellsP p v :: rawC ps vs
  | _, _ => []
theorem rawC_len : ∀ (ps : List Pt) (vs : List Value), vs.length = ps.length → (rawC ps vs).length = ps.length
  | [], [], _ => rfl
  | p :: ps, v :: vs, h => by
    show (rawC ps vs).length + 1 = ps.length + 1
    rw [rawC_len ps vs (by simpa using h)]
theorem rawC_app : ∀ (ps qs : List Pt) (vs us : List Value), vs.length = ps.length → rawC (ps ++ qs) (vs ++ us) = rawC ps vs ++ rawC qs us
  | [], qs, [], us, _ => rfl
  | p :: ps, qs, v :: vs, us, h => by
    show cellsP p v :: rawC (ps ++ qs) (vs ++ us) = _
    rw [rawC_app ps qs vs us (by simpa using h)]
    rfl
theorem lvR_app : ∀ (ps qs : List Pt) (vs us : List Value), vs.length = ps.length → lvR (ps ++ qs) (vs ++ us) = lvR ps vs ++ lvR qs us
  | [], qs, [], us, _ => rfl
  | p :: ps, qs, v :: vs, us, h => by
    show _ :: lvR (ps ++ qs) (vs ++ us) = _
    rw [lvR_app ps qs vs us (by simpa using h)]
    rfl
def MtL (gm : Nat) (vt vo : Value) (tt : List Int) (ps : List Pt) (deep : Nat) (vs : List Value) : List HP :=
  Blk gm 69 #[vt, vo, .int .i64 (deep : Int)] :: Row I64 3 vt tt :: Row (Kd.raw 4) 92 vo (rawC ps vs) :: lvR ps vs
section
variable {w0 W : World} {F : List HP} {gm : Nat} {vt vo : Value} {tt : List Int} {ps : List Pt} {deep : Nat} {vs : List Value}
set_option maxHeartbeats 800000 in
theorem top_nil (h : Sep w0 W (MtL gm vt vo tt [] deep [] ++ F)) : Calls Try.prog 46 #[.pointer (some ⟨gm, 0, none⟩)] W fun e w' => e = .returned (.pointer none) ∧ W = w' := by
  have z1 := (Sep.cell (show Sep w0 W (Blk gm 69 #[vt, vo, .int .i64 (deep : Int)] :: _) from h) 1).trans rfl
  obtain ⟨A, c, rfl⟩ := Sep.rowN (n := 0) (show Sep w0 W (Row (Kd.raw 4) 92 vo [] :: _) from h.tail.tail) rfl
  clear h
  go_enter Try.func46, Try.ntmps46
  go_wp2_with fail
  go_ret
  exact ⟨by first | rfl | (simp; done), rfl⟩
set_option maxHeartbeats 800000 in
theorem top_some {ga N n c : Nat} (h : Sep w0 W (MtL gm vt (.slice (some ⟨ga, 0, none⟩) N c) tt ps deep vs ++ F)) (hN : N = n + 1) : Calls Try.prog 46 #[.pointer (some ⟨gm, 0, none⟩)] W fun e w' => e = .returned (.pointer (some ⟨ga, n * 4, none⟩)) ∧ Sep w0 w' (MtL gm vt (.slice (some ⟨ga, 0, none⟩) N c) tt ps deep vs ++ F) := by
  have H0 := Aside0.mk h
  have hNm : (N : Int) ≤ 9223372036854775807 := by
    have := (Sep.rowC' (show Sep w0 W (Row (Kd.raw 4) 92 (.slice (some ⟨ga, 0, none⟩) N c) (rawC ps vs) :: _) from h.tail.tail)).2.1
    have h2 : N ≤ 9223372036854775807 := this
    omega
  have z1 := (Sep.cell (show Sep w0 W (Blk gm 69 #[vt, .slice (some ⟨ga, 0, none⟩) N c, .int .i64 (deep : Int)] :: _) from h) 1).trans rfl
  have z1q := fun q => (Sep.cell (show Sep w0 (W.drewN q) (Blk gm 69 #[vt, .slice (some ⟨ga, 0, none⟩) N c, .int .i64 (deep : Int)] :: _) from h.drewN q) 1).trans rfl
  have hd : decide ((N : Int) = 0) = false := decide_eq_false (by omega)
  have hd2 : decide (N = 0) = false := decide_eq_false (by omega)
  have hw : wrap64 ((N : Int) - 1) = (n : Int) := by rw [IntWalk.wrap64_in _ (by omega)]; omega
  have hnl : (n : Int) < (N : Int) := by omega
  have hn0 : ¬ (N : Int) = 0 := by omega
  have hn0' : ¬ N = 0 := by omega
  have HN := Aside0.mk hN
  clear h hN
  go_enter Try.func46, Try.ntmps46
  go_wp2_with fail
  go_quiet (fail)
  go_wp2_with fail
  go_ret
  exact ⟨by first | rfl | (simp; done) | (simp; have := HN.out; omega), H0.out.drewN _⟩
end
end Go.Proofs.Ytkkgfpdjlohojaa.Nest
