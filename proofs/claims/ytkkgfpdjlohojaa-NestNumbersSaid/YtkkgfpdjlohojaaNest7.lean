/- Package nest: one token. -/
import Derived.Test.YtkkgfpdjlohojaaNest6
namespace Go.Proofs.Ytkkgfpdjlohojaa.Nest
set_option linter.unusedVariables false
set_option linter.unusedSimpArgs false
open Go.RowKit Go.Proofs.YtkkgfpdjlohojaaW.PrintWords Go.Proofs.YtkkgfpdjlohojaaW.PrintLast Go.Proofs.YtkkgfpdjlohojaaW.PrintMore Go.Proofs.Ytkkgfpdjlohojaa.Kit
open Go.Proofs.Ytkkgfpdjlohojaa.NestP
/-- A matcher. -/
def Mt (gm : Nat) (m : MS) : HP := Ex fun x : Value × Value × List Value => Star (Pu (x.2.2.length = m.opn.reverse.length) :: MtL gm x.1 x.2.1 m.tt m.opn.reverse m.deep x.2.2)
structure PB (i : Nat) (p : Pt) : Prop where
  b : p.beg < i
  o : p.oth < i
  k : ∀ k ∈ p.lvs, k < i
  l : p.lvs.length ≤ i
structure Bd (i n : Nat) (m : MS) : Prop where
  len : m.tt.length = n
  op : m.opn.length ≤ 16
  pts : ∀ p ∈ m.opn, PB i p
theorem PB.mono {i : Nat} {p : Pt} (h : PB i p) : PB (i + 1) p := ⟨by have := h.b; omega, by have := h.o; omega, fun k hk => by have := h.k k hk; omega, by have := h.l; omega⟩
theorem leave_pb {i : Nat} : ∀ {ps o : List Pt}, (∀ p ∈ ps, PB i p) → leaveP i ps = some o → (∀ p ∈ o, PB (i + 1) p) ∧ o.length = ps.length
  | [], o, _, h => by cases h
  | p :: r, o, hp, h => by
    unfold leaveP at h
    have h1 := hp p (List.mem_cons_self ..)
    split at h
    · cases h
      refine ⟨fun q hq => ?_, rfl⟩
      rcases List.mem_cons.1 hq with rfl | hq
      · refine ⟨h1.mono.b, h1.mono.o, fun k hk => ?_, ?_⟩
        · rcases List.mem_append.1 hk with hk | hk
          · exact h1.mono.k k hk
          · rw [List.mem_singleton.1 hk]; omega
        · show (p.lvs ++ [i]).length ≤ i + 1
          rw [List.length_append]
          have := h1.l
          simp; omega
      · exact (hp q (List.mem_cons_of_mem _ hq)).mono
    · cases hr : leaveP i r with
      | none => rw [hr] at h; cases h
      | some o2 =>
        rw [hr] at h
        cases h
        obtain ⟨a, b⟩ := leave_pb (fun q hq => hp q (List.mem_cons_of_mem _ hq)) hr
        refine ⟨fun q hq => ?_, by rw [List.length_cons, List.length_cons, b]⟩
        rcases List.mem_cons.1 hq with rfl | hq
        · exact h1.mono
        · exact a q hq
theorem Bd.tok {i n : Nat} {s : Int} {m m2 : MS} (h : Bd i n m) (hi : i < n) (e : tokN i s m = some m2) : Bd (i + 1) n m2 := by
  obtain ⟨len, op, pts⟩ := h
  have hm : ∀ p ∈ m.opn, PB (i + 1) p := fun p hp => (pts p hp).mono
  unfold tokN at e
  split at e
  · split at e
    · cases e
      refine ⟨len, by simp; omega, fun p hp => ?_⟩
      rcases List.mem_cons.1 hp with rfl | hp
      · exact ⟨by simp, by simp, by simp, by simp⟩
      · exact hm p hp
    · cases e
  · split at e
    · cases ho : m.opn with
      | nil => rw [ho] at e; cases e
      | cons p r =>
        rw [ho] at e op hm
        dsimp only at e
        split at e
        · cases e
        · cases e
          refine ⟨by rw [List.length_set]; exact len, op, fun q hq => ?_⟩
          rcases List.mem_cons.1 hq with rfl | hq
          · have h1 := hm p (List.mem_cons_self ..)
            exact ⟨h1.b, by simp, h1.k, h1.l⟩
          · exact hm q (List.mem_cons_of_mem _ hq)
    · split at e
      · cases ho : m.opn with
        | nil => rw [ho] at e; cases e
        | cons p r =>
          rw [ho] at e op hm
          dsimp only at e
          split at e
          · cases e
          · cases e
            exact ⟨by rw [List.length_set]; exact len, by simp only [List.length_cons] at op; show r.length ≤ 16; omega, fun q hq => hm q (List.mem_cons_of_mem _ hq)⟩
      · split at e
        · cases ho : m.opn with
          | nil => rw [ho] at e; cases e
          | cons p r =>
            rw [ho] at e op hm
            dsimp only at e
            split at e
            · cases e
              exact ⟨by rw [setAll_len, List.length_set]; exact len, by simp only [List.length_cons] at op; show r.length ≤ 16; omega, fun q hq => hm q (List.mem_cons_of_mem _ hq)⟩
            · cases e
        · split at e
          · cases hl : leaveP i m.opn with
            | none => rw [hl] at e; cases e
            | some o =>
              rw [hl] at e
              cases e
              obtain ⟨a, b⟩ := leave_pb pts hl
              exact ⟨len, by rw [b]; exact op, a⟩
          · cases e
            exact ⟨len, op, hm⟩
/-- What a try leaves. -/
def Ans (w0 w' : World) (F : List HP) (gm : Nat) (e : Ending) : Option MS → Prop
  | some m2 => e = .returned (.bool true) ∧ Sep w0 w' (Mt gm m2 :: F)
  | none => e = .returned (.bool false) ∧ Sep w0 w' F
section
variable {w0 W : World} {F : List HP} {gm : Nat} {vt vo v : Value} {m : MS} {vs : List Value}
theorem mt_open (h : Sep w0 W (Mt gm m :: F)) : ∃ vt vo vs, vs.length = m.opn.reverse.length ∧ Sep w0 W (MtL gm vt vo m.tt m.opn.reverse m.deep vs ++ F) := by
  obtain ⟨⟨vt, vo, vs⟩, h⟩ := h.ex
  have h2 := h.star
  obtain ⟨h3, h4⟩ := Sep.pu (show Sep w0 W (Pu (vs.length = m.opn.reverse.length) :: _) from h2)
  exact ⟨vt, vo, vs, h3, h4⟩
theorem mt_shut {vt vo : Value} {vs : List Value} (hv : vs.length = m.opn.reverse.length) (h : Sep w0 W (MtL gm vt vo m.tt m.opn.reverse m.deep vs ++ F)) : Sep w0 W (Mt gm m :: F) :=
  Sep.unex (vt, vo, vs) (Sep.unstar (Sep.unpu hv h))
/-- The stack with its top. -/
theorem mt_top {p : Pt} {r : List Pt} (ho : m.opn = p :: r) (h : Sep w0 W (Mt gm m :: F)) : ∃ vt vo vs v, vs.length = r.reverse.length ∧ Sep w0 W (MtL gm vt vo m.tt (r.reverse ++ [p]) m.deep (vs ++ [v]) ++ F) := by
  obtain ⟨vt, vo, vs, hv, h⟩ := mt_open h
  rw [ho, List.reverse_cons] at h hv
  rw [List.length_append, List.length_singleton] at hv
  have h0 : vs ≠ [] := fun h0 => by rw [h0] at hv; simp at hv
  refine ⟨vt, vo, vs.dropLast, vs.getLast h0, by rw [List.length_dropLast]; omega, ?_⟩
  rw [List.dropLast_concat_getLast]
  exact h
set_option maxHeartbeats 1600000 in
theorem begins_ (h : Sep w0 W (Mt gm m :: F)) (hb : m.opn.length ≤ 16) (lp : Bool) (i : Nat) :
    Calls Try.prog 40 #[.pointer (some ⟨gm, 0, none⟩), .int .i64 (i : Int), .bool lp] W fun e w' => Ans w0 w' F gm e (if m.opn.length < 16 then some ⟨m.tt, ⟨lp, i, 0, []⟩ :: m.opn, max m.deep (m.opn.length + 1)⟩ else none) := by
  obtain ⟨vt, vo, vs, hv, h⟩ := mt_open h
  refine (begin_ h hv (by rw [List.length_reverse]; omega) lp i).mono ?_
  rintro e w1 ⟨rfl, vo2, hS⟩
  rw [List.length_reverse] at hS ⊢
  by_cases h16 : m.opn.length < 16
  · rw [if_pos h16, decide_eq_true h16]
    refine ⟨rfl, mt_shut (m := ⟨m.tt, ⟨lp, i, 0, []⟩ :: m.opn, max m.deep (m.opn.length + 1)⟩) (vt := vt) (vo := vo2) (vs := vs ++ [.slice none 0 0]) ?_ ?_⟩
    · show _ = (_ :: m.opn).reverse.length
      rw [List.reverse_cons, List.length_append, List.length_append, hv]; rfl
    · show Sep w0 w1 (MtL gm vt vo2 m.tt (_ :: m.opn).reverse _ _ ++ F)
      rw [List.reverse_cons]
      exact hS
  · rw [if_neg h16, decide_eq_false h16]
    exact ⟨rfl, hS.weak⟩
set_option maxHeartbeats 1600000 in
theorem others_ {i n : Nat} (h : Sep w0 W (Mt gm m :: F)) (hb : Bd i n m) (hi : i < n) (hn : n ≤ 1000000) :
    Calls Try.prog 41 #[.pointer (some ⟨gm, 0, none⟩), .int .i64 (i : Int)] W fun e w' => Ans w0 w' F gm e (match m.opn with
      | p :: r => if p.loop = true ∨ 0 < p.oth then none else some ⟨m.tt.set p.beg ((i : Int) + 1), { p with oth := i } :: r, m.deep⟩
      | [] => none) := by
  cases ho : m.opn with
  | nil =>
    obtain ⟨vt, vo, vs, hv, h⟩ := mt_open h
    rw [ho] at h hv
    obtain rfl : vs = [] := List.eq_nil_of_length_eq_zero (by rw [hv]; rfl)
    refine (other_nil h i).mono ?_
    rintro e w1 ⟨rfl, rfl⟩
    exact ⟨rfl, h.weak⟩
  | cons p r =>
    have hp := hb.pts p (by rw [ho]; exact List.mem_cons_self ..)
    obtain ⟨vt, vo, vs, v, hv, h⟩ := mt_top ho h
    dsimp only
    by_cases hn : p.loop = true ∨ 0 < p.oth
    · rw [if_pos hn]
      refine (other_no hv h i hn).mono ?_
      rintro e w1 ⟨rfl, hS⟩
      exact ⟨rfl, hS.weak⟩
    · rw [if_neg hn]
      have hl : p.loop = false := by
        cases hq : p.loop
        · rfl
        · exact absurd (.inl hq) hn
      have h0 : p.oth = 0 := by
        have : ¬ 0 < p.oth := fun hq => hn (.inr hq)
        omega
      refine (other_yes hv h i hl h0 (by rw [hb.len]; have := hp.b; omega) (by omega)).mono ?_
      rintro e w1 ⟨rfl, hS⟩
      refine ⟨rfl, mt_shut (m := ⟨m.tt.set p.beg ((i : Int) + 1), { p with oth := i } :: r, m.deep⟩) (vt := vt) (vo := vo) (vs := vs ++ [v]) ?_ ?_⟩
      · show _ = (_ :: r).reverse.length
        rw [List.reverse_cons, List.length_append, List.length_append, hv]; rfl
      · show Sep w0 w1 (MtL gm vt vo _ (_ :: r).reverse _ _ ++ F)
        rw [List.reverse_cons]
        exact hS
set_option maxHeartbeats 1600000 in
theorem endIfs_ {i n : Nat} (h : Sep w0 W (Mt gm m :: F)) (hb : Bd i n m) (hi : i < n) (hn : n ≤ 1000000) :
    Calls Try.prog 42 #[.pointer (some ⟨gm, 0, none⟩), .int .i64 (i : Int)] W fun e w' => Ans w0 w' F gm e (match m.opn with
      | p :: r => if p.loop = true then none else some ⟨m.tt.set (if 0 < p.oth then p.oth else p.beg) (i : Int), r, m.deep⟩
      | [] => none) := by
  cases ho : m.opn with
  | nil =>
    obtain ⟨vt, vo, vs, hv, h⟩ := mt_open h
    rw [ho] at h hv
    obtain rfl : vs = [] := List.eq_nil_of_length_eq_zero (by rw [hv]; rfl)
    refine (endIf_nil h i).mono ?_
    rintro e w1 ⟨rfl, rfl⟩
    exact ⟨rfl, h.weak⟩
  | cons p r =>
    have hp := hb.pts p (by rw [ho]; exact List.mem_cons_self ..)
    obtain ⟨vt, vo, vs, v, hv, h⟩ := mt_top ho h
    dsimp only
    by_cases hn : p.loop = true
    · rw [if_pos hn]
      refine (endIf_no hv h i hn).mono ?_
      rintro e w1 ⟨rfl, hS⟩
      exact ⟨rfl, hS.weak⟩
    · rw [if_neg hn]
      have hl : p.loop = false := by simpa using hn
      by_cases h0 : 0 < p.oth
      · rw [if_pos h0]
        refine (endIf_o hv h i hl h0 (by rw [hb.len]; have := hp.o; omega)).mono ?_
        rintro e w1 ⟨rfl, vo2, hS⟩
        exact ⟨rfl, mt_shut (m := ⟨m.tt.set p.oth (i : Int), r, m.deep⟩) (vt := vt) (vo := vo2) (vs := vs) hv hS⟩
      · rw [if_neg h0]
        refine (endIf_b hv h i hl (by omega) (by rw [hb.len]; have := hp.b; omega)).mono ?_
        rintro e w1 ⟨rfl, vo2, hS⟩
        exact ⟨rfl, mt_shut (m := ⟨m.tt.set p.beg (i : Int), r, m.deep⟩) (vt := vt) (vo := vo2) (vs := vs) hv hS⟩
set_option maxHeartbeats 1600000 in
theorem endLoops_ {i n : Nat} (h : Sep w0 W (Mt gm m :: F)) (hb : Bd i n m) (hi : i < n) (hn : n ≤ 1000000) :
    Calls Try.prog 43 #[.pointer (some ⟨gm, 0, none⟩), .int .i64 (i : Int)] W fun e w' => Ans w0 w' F gm e (match m.opn with
      | p :: r => if p.loop = true then some ⟨setAll (m.tt.set i (p.beg : Int)) ((i : Int) + 1) p.lvs, r, m.deep⟩ else none
      | [] => none) := by
  cases ho : m.opn with
  | nil =>
    obtain ⟨vt, vo, vs, hv, h⟩ := mt_open h
    rw [ho] at h hv
    obtain rfl : vs = [] := List.eq_nil_of_length_eq_zero (by rw [hv]; rfl)
    refine (endLoop_nil h i).mono ?_
    rintro e w1 ⟨rfl, rfl⟩
    exact ⟨rfl, h.weak⟩
  | cons p r =>
    have hp := hb.pts p (by rw [ho]; exact List.mem_cons_self ..)
    obtain ⟨vt, vo, vs, v, hv, h⟩ := mt_top ho h
    dsimp only
    by_cases hn : p.loop = true
    · rw [if_pos hn]
      refine (endLoop_yes hv h i hn (by rw [hb.len]; exact hi) (fun k hk => by rw [hb.len]; have := hp.k k hk; omega)).mono ?_
      rintro e w1 ⟨rfl, vo2, hS⟩
      exact ⟨rfl, mt_shut (m := ⟨setAll (m.tt.set i (p.beg : Int)) ((i : Int) + 1) p.lvs, r, m.deep⟩) (vt := vt) (vo := vo2) (vs := vs) hv hS⟩
    · rw [if_neg hn]
      refine (endLoop_no hv h i (by simpa using hn)).mono ?_
      rintro e w1 ⟨rfl, hS⟩
      exact ⟨rfl, hS.weak⟩
/-- The innermost loop. -/
theorem split_loop : ∀ (ps : List Pt), (∀ p ∈ ps, p.loop = false) ∨ ∃ A p B, ps = A ++ p :: B ∧ p.loop = true ∧ ∀ q ∈ A, q.loop = false
  | [] => .inl fun p hp => by cases hp
  | p :: r => by
    cases hl : p.loop with
    | true => exact .inr ⟨[], p, r, rfl, hl, fun q hq => by cases hq⟩
    | false =>
      rcases split_loop r with h | ⟨A, q, B, e, h1, h2⟩
      · exact .inl fun q hq => by
          rcases List.mem_cons.1 hq with rfl | hq
          · exact hl
          · exact h q hq
      · exact .inr ⟨p :: A, q, B, by rw [e]; rfl, h1, fun x hx => by
          rcases List.mem_cons.1 hx with rfl | hx
          · exact hl
          · exact h2 x hx⟩
set_option maxHeartbeats 1600000 in
theorem leaves_ {i n : Nat} (h : Sep w0 W (Mt gm m :: F)) (hb : Bd i n m) (hi : i < n) (hn : n ≤ 1000000) :
    Calls Try.prog 44 #[.pointer (some ⟨gm, 0, none⟩), .int .i64 (i : Int)] W fun e w' => Ans w0 w' F gm e (match leaveP i m.opn with
      | some o => some ⟨m.tt, o, m.deep⟩
      | none => none) := by
  obtain ⟨vt, vo, vs, hv, h⟩ := mt_open h
  rcases split_loop m.opn with hA | ⟨A, p, B, ho, hp, hA⟩
  · rw [leaveP_no i _ hA]
    refine (leave_no hv h i (fun p hp => hA p (List.mem_reverse.1 hp))).mono ?_
    rintro e w1 ⟨rfl, hS⟩
    exact ⟨rfl, hS.weak⟩
  · rw [ho, leaveP_at i p B hp A hA]
    have hr : m.opn.reverse = B.reverse ++ p :: A.reverse := by rw [ho]; simp
    have hr2 : (A ++ { p with lvs := p.lvs ++ [i] } :: B).reverse = B.reverse ++ { p with lvs := p.lvs ++ [i] } :: A.reverse := by simp
    rw [hr] at h hv
    rw [List.length_append, List.length_cons] at hv
    have hlt : B.reverse.length < vs.length := by omega
    have hvs : vs = vs.take B.reverse.length ++ vs[B.reverse.length] :: vs.drop (B.reverse.length + 1) := by rw [← List.drop_eq_getElem_cons hlt, List.take_append_drop]
    rw [hvs] at h
    have hAl : (vs.take B.reverse.length).length = B.reverse.length := by rw [List.length_take]; omega
    have hBl : (vs.drop (B.reverse.length + 1)).length = A.reverse.length := by rw [List.length_drop]; omega
    have hpb := hb.pts p (by rw [ho]; simp)
    refine (leave_yes hAl hBl h i hp (fun q hq => hA q (List.mem_reverse.1 hq)) (by have := hpb.l; omega)).mono ?_
    rintro e w1 ⟨rfl, u, hS⟩
    refine ⟨rfl, mt_shut (m := ⟨m.tt, A ++ { p with lvs := p.lvs ++ [i] } :: B, m.deep⟩) (vt := vt) (vo := vo) (vs := vs.take B.reverse.length ++ u :: vs.drop (B.reverse.length + 1)) ?_ ?_⟩
    · show _ = (A ++ { p with lvs := p.lvs ++ [i] } :: B).reverse.length
      rw [hr2, List.length_append, List.length_append, List.length_cons, List.length_cons, hAl, hBl]
    · show Sep w0 w1 (MtL gm vt vo m.tt (A ++ { p with lvs := p.lvs ++ [i] } :: B).reverse m.deep _ ++ F)
      rw [hr2]
      exact hS
theorem ans_ret {w' : World} {e : Ending} {o : Option MS} (h : Ans w0 w' F gm e o) : ∃ b, e = .returned (.bool b) := by
  cases o with
  | none => exact ⟨_, h.1⟩
  | some m => exact ⟨_, h.1⟩
set_option maxHeartbeats 3200000 in
set_option maxRecDepth 100000 in
theorem token_ {i n : Nat} (h : Sep w0 W (Mt gm m :: F)) (hb : Bd i n m) (hi : i < n) (hn : n ≤ 1000000) (s : Int) :
    Calls Try.prog 35 #[.pointer (some ⟨gm, 0, none⟩), .int .i64 (i : Int), .int .i32 s] W fun e w' => Ans w0 w' F gm e (tokN i s m) := by
  obtain ⟨o, ho⟩ : ∃ o, tokN i s m = o := ⟨_, rfl⟩
  have HO := Aside0.mk ho
  have H := Aside0.mk h
  have HB := Aside0.mk (And.intro hb (And.intro hi hn))
  rw [ho]
  clear ho h hb hi hn
  by_cases h1 : s = 63
  · subst h1
    have ho := HO.out
    unfold tokN at ho
    rw [if_pos (.inl rfl)] at ho
    have HO1 := Aside0.mk ho
    clear ho
    go_enter Try.func35, Try.ntmps35
    go_wp2_with (go_at_call 40; refine (begins_ H.out HB.out.1.op false i).mono ?_; intro e w1 hA; rw [show (⟨false, i, 0, []⟩ : Pt) = ⟨decide ((63 : Int) = 91), i, 0, []⟩ from rfl, HO1.out] at hA; obtain ⟨b, rfl⟩ := ans_ret hA; replace hA := Aside0.mk hA)
    go_ret
    exact hA.out
  by_cases h2 : s = 91
  · subst h2
    have ho := HO.out
    unfold tokN at ho
    rw [if_pos (.inr rfl)] at ho
    have HO1 := Aside0.mk ho
    clear ho h1
    go_enter Try.func35, Try.ntmps35
    go_wp2_with (go_at_call 40; refine (begins_ H.out HB.out.1.op true i).mono ?_; intro e w1 hA; rw [show (⟨true, i, 0, []⟩ : Pt) = ⟨decide ((91 : Int) = 91), i, 0, []⟩ from rfl, HO1.out] at hA; obtain ⟨b, rfl⟩ := ans_ret hA; replace hA := Aside0.mk hA)
    go_ret
    exact hA.out
  by_cases h3 : s = 58
  · subst h3
    have ho := HO.out
    unfold tokN at ho
    rw [if_neg (by decide), if_pos rfl] at ho
    have HO1 := Aside0.mk ho
    clear ho h1 h2
    go_enter Try.func35, Try.ntmps35
    go_wp2_with (go_at_call 41; refine (others_ H.out HB.out.1 HB.out.2.1 HB.out.2.2).mono ?_; intro e w1 hA; replace hA : Ans w0 w1 F gm e o := (by rw [← HO1.out]; exact hA); obtain ⟨b, rfl⟩ := ans_ret hA; replace hA := Aside0.mk hA)
    go_ret
    exact hA.out
  by_cases h4 : s = 59
  · subst h4
    have ho := HO.out
    unfold tokN at ho
    rw [if_neg (by decide), if_neg (by decide), if_pos rfl] at ho
    have HO1 := Aside0.mk ho
    clear ho h1 h2 h3
    go_enter Try.func35, Try.ntmps35
    go_wp2_with (go_at_call 42; refine (endIfs_ H.out HB.out.1 HB.out.2.1 HB.out.2.2).mono ?_; intro e w1 hA; replace hA : Ans w0 w1 F gm e o := (by rw [← HO1.out]; exact hA); obtain ⟨b, rfl⟩ := ans_ret hA; replace hA := Aside0.mk hA)
    go_ret
    exact hA.out
  by_cases h5 : s = 93
  · subst h5
    have ho := HO.out
    unfold tokN at ho
    rw [if_neg (by decide), if_neg (by decide), if_neg (by decide), if_pos rfl] at ho
    have HO1 := Aside0.mk ho
    clear ho h1 h2 h3 h4
    go_enter Try.func35, Try.ntmps35
    go_wp2_with (go_at_call 43; refine (endLoops_ H.out HB.out.1 HB.out.2.1 HB.out.2.2).mono ?_; intro e w1 hA; replace hA : Ans w0 w1 F gm e o := (by rw [← HO1.out]; exact hA); obtain ⟨b, rfl⟩ := ans_ret hA; replace hA := Aside0.mk hA)
    go_ret
    exact hA.out
  by_cases h6 : s = 126
  · subst h6
    have ho := HO.out
    unfold tokN at ho
    rw [if_neg (by decide), if_neg (by decide), if_neg (by decide), if_neg (by decide), if_pos rfl] at ho
    have HO1 := Aside0.mk ho
    clear ho h1 h2 h3 h4 h5
    go_enter Try.func35, Try.ntmps35
    go_wp2_with (go_at_call 44; refine (leaves_ H.out HB.out.1 HB.out.2.1 HB.out.2.2).mono ?_; intro e w1 hA; replace hA : Ans w0 w1 F gm e o := (by rw [← HO1.out]; exact hA); obtain ⟨b, rfl⟩ := ans_ret hA; replace hA := Aside0.mk hA)
    go_ret
    exact hA.out
  · have ho := HO.out
    unfold tokN at ho
    rw [if_neg (by omega), if_neg h3, if_neg h4, if_neg h5, if_neg h6] at ho
    have HO1 := Aside0.mk ho
    clear ho
    go_enter Try.func35, Try.ntmps35
    go_wp2_with fail
    go_ret
    rw [← HO1.out]
    exact ⟨by first | rfl | (simp; done), H.out⟩
end
end Go.Proofs.Ytkkgfpdjlohojaa.Nest
