/- WLast, WApart, WArr, WFoot, WKept, WShare, WQPut, WZeros, WN, WNEv, WMore, Sep: what NestAdds needs. -/
import Derived.Test.YtkkgfpdjlohojaaTnestAdds1
import Derived.OrdersHeld
import Derived.Deep.RegionHeld3
import Derived.Laws.BitsLemmas
import Derived.RowKit
set_option linter.unusedVariables false
set_option linter.unusedSimpArgs false
namespace Go.Proofs.YtkkgfpdjlohojaaW.PrintLast

section
variable {P : Program} {ops : Array Oper} {Q : Exit → Act → World → Prop} {md : Region.Mode} {S : World → Prop} {ds : List Nat}

def Region.reachB (md : Region.Mode) (ops : Array Oper) (i : Nat) : Nat → Nat → Bool
  | 0, _ => false
  | fuel + 1, d => match ops[d]? with
    | some o => o.after.any fun e => Region.binds md e && (e.on == i || Region.reachB md ops i fuel e.on)
    | none => false
def Region.closedB (md : Region.Mode) (ops : Array Oper) (listed : Array Bool) : Bool :=
  (List.range ops.size).all fun j => !listed.getD j false || match ops[j]? with
    | some o => o.after.all fun e => !Region.binds md e || listed.getD e.on false
    | none => true
def Region.lastB (md : Region.Mode) (ops : Array Oper) (listed : Array Bool) (ds : List Nat) (i : Nat) : Bool :=
  ds.all fun d => listed.getD d true || Region.reachB md ops i ops.size d
def ListedClosed (md : Region.Mode) (ops : Array Oper) (listed : Array Bool) : Prop :=
  ∀ j oj, ops[j]? = some oj → listed.getD j false = true → ∀ e ∈ oj.after, Region.binds md e = true → listed.getD e.on false = true
theorem Region.closedB_spec {listed : Array Bool} (h : Region.closedB md ops listed = true) : ListedClosed md ops listed := by
  intro j oj hj hl e he hb
  have hlt : j < ops.size := (Array.getElem?_eq_some_iff.1 hj).1
  have h1 := List.all_eq_true.1 h j (List.mem_range.2 hlt)
  simp only [hl, hj, Bool.not_true, Bool.false_or] at h1
  have h2 := Array.all_eq_true_iff_forall_mem.1 h1 e he
  simpa [hb] using h2
theorem ListedClosed.set {listed : Array Bool} {i : Nat} (h : ListedClosed md ops listed) (hi : i ∈ Region.ready md ops listed) : ListedClosed md ops (listed.setIfInBounds i true) := by
  obtain ⟨_, oi, hoi, hall⟩ := mem_ready.1 hi
  intro j oj hj hl e he hb
  by_cases hij : i = j
  · subst hij
    have : oj = oi := Option.some.inj (hj.symm.trans hoi)
    subst this
    exact getD_set_true (hall e he hb)
  · rw [getD_set_ne false hij] at hl
    exact getD_set_true (h j oj hj hl e he hb)
theorem Region.reach_listed {listed : Array Bool} {i : Nat} (hc : ListedClosed md ops listed) : ∀ (fuel d : Nat), Region.reachB md ops i fuel d = true → listed.getD d false = true → listed.getD i false = true
  | 0, _, h, _ => by simp [Region.reachB] at h
  | fuel + 1, d, h, hl => by
    unfold Region.reachB at h
    cases ho : ops[d]? with
    | none => rw [ho] at h; simp at h
    | some o =>
      rw [ho] at h
      obtain ⟨e, he, h1⟩ := Array.any_eq_true'.1 h
      simp only [Bool.and_eq_true, Bool.or_eq_true, beq_iff_eq] at h1
      have hle := hc d o ho hl e he h1.1
      rcases h1.2 with h2 | h2
      · rw [← h2]; exact hle
      · exact Region.reach_listed hc fuel e.on h2 hle
theorem Region.reach_not_ready {listed : Array Bool} {i d fuel : Nat} (hc : ListedClosed md ops listed) (hr : Region.reachB md ops i fuel d = true) (hun : listed.getD i true = false) : d ∉ Region.ready md ops listed := by
  intro hd
  obtain ⟨_, o, ho, hall⟩ := mem_ready.1 hd
  have hi : listed.getD i false = true := by
    cases fuel with
    | zero => simp [Region.reachB] at hr
    | succ n =>
      unfold Region.reachB at hr
      rw [ho] at hr
      obtain ⟨e, he, h1⟩ := Array.any_eq_true'.1 hr
      simp only [Bool.and_eq_true, Bool.or_eq_true, beq_iff_eq] at h1
      have hle := hall e he h1.1
      rcases h1.2 with h2 | h2
      · rw [← h2]; exact hle
      · exact Region.reach_listed hc n e.on h2 hle
  rcases Nat.lt_or_ge i listed.size with h' | h'
  · simp [h'] at hun hi
    rw [hun] at hi
    cases hi
  · simp [Array.getElem?_eq_none h'] at hun
def wpAnyLast (P : Program) (md : Region.Mode) (ops : Array Oper) (Q : Exit → Act → World → Prop) (S : World → Prop) (ds : List Nat) : Nat → Array Bool → Act → World → Prop
  | 0, listed, a, w => Region.ready md ops listed = [] ∧ Q .normal a w
  | fuel + 1, listed, a, w =>
    (Region.ready md ops listed = [] → Q .normal a w) ∧
    ∀ i ∈ Region.ready md ops listed, wpOp P ops Q i (fun a' w' => (i ∉ ds → S w → S w') ∧ wpAnyLast P md ops Q S ds fuel (listed.setIfInBounds i true) a' w') a w
theorem wpAny_of_last : ∀ (fuel : Nat) (listed : Array Bool) (a : Act) (w : World), wpAnyLast P md ops Q S ds fuel listed a w → wpAny P md ops Q fuel listed a w
  | 0, _, _, _, h => h
  | fuel + 1, _, _, _, h => ⟨h.1, fun i hi => wpOp_mono (fun a' w' h' => wpAny_of_last fuel _ a' w' h'.2) (h.2 i hi)⟩
theorem wpAnyLast_first {i : Nat} {oi : Oper} {v : Value} (hi : ops[i]? = some oi) (hsel : ∀ (j : Nat) (o : Oper) cs b, ops[j]? = some o → o.op ≠ .select cs b)
    (hQ : ∀ c a w, Q (.panic c) (a.put oi.dst v) w → Q (.panic c) a w) (n : Nat) :
    ∀ (fuel : Nat) (listed : Array Bool) (a : Act) (w : World),
      (∀ j oj, ops[j]? = some oj → j ≠ i → listed.getD j true = false → (∀ e ∈ oj.after, Region.binds md e = true → e.on ≠ i) → oi.apart ops oj = true) →
      ListedClosed md ops listed → (∀ d ∈ ds, listed.getD d true = false → Region.reachB md ops i n d = true) →
      i ∈ Region.ready md ops listed → YieldsIf P ops S oi v a → S w →
      wpAnyLast P md ops Q S ds fuel (listed.setIfInBounds i true) (a.put oi.dst v) w → wpAnyLast P md ops Q S ds (fuel + 1) listed a w := by
  intro fuel
  induction fuel with
  | zero =>
    intro listed a w _ _ _ hr hy hS H
    refine ⟨fun h => (by rw [h] at hr; cases hr), fun j hj => ?_⟩
    by_cases hji : j = i
    · subst hji; exact hy.wpOp hi hS ⟨fun _ h => h, H⟩
    · have := ready_mono hj hji
      rw [H.1] at this
      cases this
  | succ fuel ih =>
    intro listed a w hfree hc hd hr hy hS H
    refine ⟨fun h => (by rw [h] at hr; cases hr), fun j hj => ?_⟩
    by_cases hji : j = i
    · subst hji; exact hy.wpOp hi hS ⟨fun _ h => h, H⟩
    · have h1 := H.2 j (ready_mono hj hji)
      obtain ⟨hjun, oj, hoj, hall⟩ := mem_ready.1 hj
      have hiun := (mem_ready.1 hr).1
      have hnot : ∀ e ∈ oj.after, Region.binds md e = true → e.on ≠ i := fun e he hb heq => by
        have h1 := hall e he hb
        rw [heq] at h1
        rcases Nat.lt_or_ge i listed.size with h' | h'
        · simp [h'] at hiun h1; rw [hiun] at h1; cases h1
        · simp [Array.getElem?_eq_none h'] at h1
      have hjd : j ∉ ds := fun hm => Region.reach_not_ready hc (hd j hm hjun) hiun hj
      have h2 := wpOp_putIf hoj (hfree j oj hoj hji hjun hnot) (fun cs b => hsel i oi cs b hi) (fun cs b => hsel j oj cs b hoj) hQ hy h1
      have hfree' : ∀ k ok, ops[k]? = some ok → k ≠ i → (listed.setIfInBounds j true).getD k true = false →
          (∀ e ∈ ok.after, Region.binds md e = true → e.on ≠ i) → oi.apart ops ok = true := fun k ok hk hki hun hno => by
        refine hfree k ok hk hki ?_ hno
        by_cases hjk : j = k
        · subst hjk; exact hjun
        · rw [getD_set_ne true hjk] at hun; exact hun
      have hd' : ∀ d ∈ ds, (listed.setIfInBounds j true).getD d true = false → Region.reachB md ops i n d = true := fun d hm hun => by
        refine hd d hm ?_
        by_cases hjk : j = d
        · subst hjk; exact hjun
        · rw [getD_set_ne true hjk] at hun; exact hun
      refine wpOp_mono (fun a' w' h3 => ⟨h3.2.1, ih (listed.setIfInBounds j true) a' w' hfree' (hc.set hj) hd' (ready_mono hr (Ne.symm hji)) h3.1 (h3.2.1 hjd hS) ?_⟩) h2
      rw [Array.setIfInBounds_comm _ _ hji]
      exact h3.2.2
theorem wpAnyLast_any {i : Nat} {oi : Oper} {v : Value} (hi : ops[i]? = some oi) (hsel : ∀ (j : Nat) (o : Oper) cs b, ops[j]? = some o → o.op ≠ .select cs b)
    (hQ : ∀ c a w, Q (.panic c) (a.put oi.dst v) w → Q (.panic c) a w) :
    ∀ (fuel : Nat) (listed : Array Bool) (a : Act) (w : World),
      (∀ j oj, ops[j]? = some oj → j ≠ i → listed.getD j true = false → (∀ e ∈ oj.after, Region.binds md e = true → e.on ≠ i) → oi.apart ops oj = true) →
      i ∈ Region.ready md ops listed → Yields P ops oi v a →
      wpAnyLast P md ops Q S ds fuel (listed.setIfInBounds i true) (a.put oi.dst v) w → wpAnyLast P md ops Q S ds (fuel + 1) listed a w := by
  intro fuel
  induction fuel with
  | zero =>
    intro listed a w _ hr hy H
    refine ⟨fun h => (by rw [h] at hr; cases hr), fun j hj => ?_⟩
    by_cases hji : j = i
    · subst hji; exact (hy.yieldsIf (S := fun _ => True)).wpOp hi trivial ⟨fun _ h => h, H⟩
    · have := ready_mono hj hji
      rw [H.1] at this
      cases this
  | succ fuel ih =>
    intro listed a w hfree hr hy H
    refine ⟨fun h => (by rw [h] at hr; cases hr), fun j hj => ?_⟩
    by_cases hji : j = i
    · subst hji; exact (hy.yieldsIf (S := fun _ => True)).wpOp hi trivial ⟨fun _ h => h, H⟩
    · have h1 := H.2 j (ready_mono hj hji)
      obtain ⟨hjun, oj, hoj, hall⟩ := mem_ready.1 hj
      have hiun := (mem_ready.1 hr).1
      have hnot : ∀ e ∈ oj.after, Region.binds md e = true → e.on ≠ i := fun e he hb heq => by
        have h1 := hall e he hb
        rw [heq] at h1
        rcases Nat.lt_or_ge i listed.size with h' | h'
        · simp [h'] at hiun h1; rw [hiun] at h1; cases h1
        · simp [Array.getElem?_eq_none h'] at h1
      have h2 := wpOp_put hoj (hfree j oj hoj hji hjun hnot) (fun cs b => hsel i oi cs b hi) (fun cs b => hsel j oj cs b hoj) hQ hy h1
      have hfree' : ∀ k ok, ops[k]? = some ok → k ≠ i → (listed.setIfInBounds j true).getD k true = false →
          (∀ e ∈ ok.after, Region.binds md e = true → e.on ≠ i) → oi.apart ops ok = true := fun k ok hk hki hun hno => by
        refine hfree k ok hk hki ?_ hno
        by_cases hjk : j = k
        · subst hjk; exact hjun
        · rw [getD_set_ne true hjk] at hun; exact hun
      refine wpOp_mono (fun a' w' h3 => ⟨h3.2.1, ih (listed.setIfInBounds j true) a' w' hfree' (ready_mono hr (Ne.symm hji)) h3.1 ?_⟩) h2
      rw [Array.setIfInBounds_comm _ _ hji]
      exact h3.2.2
theorem wpAnyLast_take {i : Nat} {oi : Oper} {v : Value} {fuel : Nat} {listed : Array Bool} {a : Act} {w : World} (hi : ops[i]? = some oi)
    (hs : Region.noSelect ops = true) (hf : Region.free md ops listed i = true) (hr : (Region.ready md ops listed).contains i = true)
    (hc : Region.closedB md ops listed = true) (hl : Region.lastB md ops listed ds i = true)
    (hQ : ∀ c a w, Q (.panic c) (a.put oi.dst v) w → Q (.panic c) a w) (hy : YieldsIf P ops S oi v a) (hS : S w)
    (h : wpAnyLast P md ops Q S ds fuel (listed.setIfInBounds i true) (a.put oi.dst v) w) : wpAnyLast P md ops Q S ds (fuel + 1) listed a w :=
  wpAnyLast_first hi (Region.noSelect_spec hs) hQ ops.size fuel listed a w (Region.free_spec hi hf) (Region.closedB_spec hc)
    (fun d hm hun => by have := List.all_eq_true.1 hl d hm; rw [hun] at this; simpa using this) (by simpa using hr) hy hS h
theorem wpAnyLast_all {rs : List Nat} {fuel : Nat} {listed : Array Bool} {a : Act} {w : World} (hr : Region.ready md ops listed = rs) (hne : rs ≠ [])
    (h : ∀ i ∈ rs, wpOp P ops Q i (fun a' w' => (i ∉ ds → S w → S w') ∧ wpAnyLast P md ops Q S ds fuel (listed.setIfInBounds i true) a' w') a w) : wpAnyLast P md ops Q S ds (fuel + 1) listed a w :=
  ⟨fun h0 => absurd (hr ▸ h0) hne, hr ▸ h⟩
theorem wpAnyLast_done {listed : Array Bool} {a : Act} {w : World} (hr : Region.ready md ops listed = []) (h : Q .normal a w) :
    ∀ fuel, wpAnyLast P md ops Q S ds fuel listed a w
  | 0 => ⟨hr, h⟩
  | _ + 1 => ⟨fun _ => h, by rw [hr]; simp⟩
theorem wp_region_last {id : Nat} {a : Act} {w : World} (hm : P.follows .mixedOrders = true)
    (h : wpAnyLast P .any ops Q S ds ops.size (Array.replicate ops.size false) a { w with drawn := w.drawn + 1 }) : (Code.region id ops true).wp P Q a w :=
  wp_region_any hm (wpAny_of_last _ _ _ _ h)
end

section
variable {P : Program} {ops : Array Oper} {Q : Exit → Act → World → Prop} {md : Region.Mode} {S : World → Prop} {ds : List Nat}

def AllReadyL (P : Program) (md : Region.Mode) (ops : Array Oper) (Q : Exit → Act → World → Prop) (S : World → Prop) (ds : List Nat) (fuel : Nat) (listed : Array Bool) (a : Act) (w : World) (rs : List Nat) : Prop :=
  ∀ i ∈ rs, wpOp P ops Q i (fun a' w' => (i ∉ ds → S w → S w') ∧ wpAnyLast P md ops Q S ds fuel (listed.setIfInBounds i true) a' w') a w
theorem AllReadyL.nil {fuel : Nat} {listed : Array Bool} {a : Act} {w : World} : AllReadyL P md ops Q S ds fuel listed a w [] := fun _ h => by cases h
theorem AllReadyL.cons {fuel : Nat} {listed : Array Bool} {a : Act} {w : World} {i : Nat} {o : Oper} {rs : List Nat} (ho : ops[i]? = some o) (hd : i ∉ ds)
    (h : ∀ K' : Act → World → Prop, Shut (∀ a w, S w → (S w → wpAnyLast P md ops Q S ds fuel (listed.setIfInBounds i true) a w) → K' a w) → if Region.wanted o (yielded ops a.tmps) = true then Oper.wp P o a w K' Q else K' (a.put o.dst undef) w)
    (hs : AllReadyL P md ops Q S ds fuel listed a w rs) : AllReadyL P md ops Q S ds fuel listed a w (i :: rs) := fun j hj => by
  rcases List.mem_cons.1 hj with rfl | hj
  · exact wpOp_step ho (fun K' hK => h K' (fun a w hS hW => hK a w ⟨fun _ _ => hS, hW hS⟩))
  · exact hs j hj
theorem AllReadyL.cons_last {fuel : Nat} {listed : Array Bool} {a : Act} {w : World} {i : Nat} {o : Oper} {rs : List Nat} (ho : ops[i]? = some o) (hd : i ∈ ds)
    (h : ∀ K' : Act → World → Prop, Shut (∀ a w, wpAnyLast P md ops Q S ds fuel (listed.setIfInBounds i true) a w → K' a w) → if Region.wanted o (yielded ops a.tmps) = true then Oper.wp P o a w K' Q else K' (a.put o.dst undef) w)
    (hs : AllReadyL P md ops Q S ds fuel listed a w rs) : AllReadyL P md ops Q S ds fuel listed a w (i :: rs) := fun j hj => by
  rcases List.mem_cons.1 hj with rfl | hj
  · exact wpOp_step ho (fun K' hK => h K' (fun a w hW => hK a w ⟨fun hn => absurd hd hn, hW⟩))
  · exact hs j hj
theorem wpAnyLast_ready {rs : List Nat} {fuel : Nat} {listed : Array Bool} {a : Act} {w : World} (hr : Region.ready md ops listed = rs) (hne : rs ≠ [])
    (h : AllReadyL P md ops Q S ds fuel listed a w rs) : wpAnyLast P md ops Q S ds (fuel + 1) listed a w := wpAnyLast_all hr hne h
theorem start_ {id n : Nat} {a : Act} {w : World} (l : Array Bool) (hm : P.follows .mixedOrders = true) (hn : ops.size = n) (hl : Array.replicate n false = l) (hS : S w.drew)
    (h : S w.drew → wpAnyLast P .any ops Q S ds n l a w.drew) : (Code.region id ops true).wp P Q a w := by
  subst hn
  subst hl
  exact wp_region_last hm (h hS)
def takeB (md : Region.Mode) (ops : Array Oper) (ds : List Nat) (l l' : Array Bool) (i : Nat) : Bool :=
  Region.noSelect ops && Region.free md ops l i && (Region.ready md ops l).contains i && Region.closedB md ops l && Region.lastB md ops l ds i && (l.setIfInBounds i true == l')
theorem take_ {i : Nat} {N : Option Tmp} {oi : Oper} {v : Value} {fuel : Nat} {l : Array Bool} {a : Act} {w : World} (l' : Array Bool) (hi : ops[i]? = some oi) (hN : oi.dst = N) (hc : takeB md ops ds l l' i = true)
    (hQ : ∀ c a w, Q (.panic c) (a.put oi.dst v) w → Q (.panic c) a w) (hy : YieldsIf P ops S oi v a) (hS : S w) {a' : Act} (ha : a.put N v = a')
    (h : wpAnyLast P md ops Q S ds fuel l' a' w) : wpAnyLast P md ops Q S ds (fuel + 1) l a w := by
  subst ha
  subst hN
  simp only [takeB, Bool.and_eq_true, beq_iff_eq] at hc
  obtain ⟨⟨⟨⟨⟨h1, h2⟩, h3⟩, h4⟩, h5⟩, h6⟩ := hc
  subst h6
  exact wpAnyLast_take hi h1 h2 h3 h4 h5 hQ hy hS h
theorem ta_ (i t : Nat) {oi : Oper} (v : Value) {fuel : Nat} {l : Array Bool} {a : Act} {w : World} (l' : Array Bool) (hi : ops[i]? = some oi) (hN : oi.dst = some t) (h2 : ∀ w, S w → (execOp a.eval oi).run P w = .ok (.value v) w) (hS : S w) (a' : Act) (ha : a.put (some t) v = a')
    (h : wpAnyLast P md ops Q S ds fuel l' a' w) (hc : takeB md ops ds l l' i = true := by kernel_rfl) (hQ : ∀ c a w, Q (.panic c) (a.put oi.dst v) w → Q (.panic c) a w := by exact fun _ _ _ h => h) (h1 : Region.wanted oi (yielded ops a.tmps) = true := by rfl) : wpAnyLast P md ops Q S ds (fuel + 1) l a w := take_ (i := i) (N := some t) l' hi hN hc hQ (Or.inl ⟨h1, h2⟩) hS ha h
def anyB (md : Region.Mode) (ops : Array Oper) (l l' : Array Bool) (i : Nat) : Bool :=
  Region.noSelect ops && Region.free md ops l i && (Region.ready md ops l).contains i && (l.setIfInBounds i true == l')
theorem pure_ {i : Nat} {N : Option Tmp} {oi : Oper} {v : Value} {fuel : Nat} {l : Array Bool} {a : Act} {w : World} (l' : Array Bool) (hi : ops[i]? = some oi) (hN : oi.dst = N) (hc : anyB md ops l l' i = true)
    (hQ : ∀ c a w, Q (.panic c) (a.put oi.dst v) w → Q (.panic c) a w) (hy : Yields P ops oi v a) {a' : Act} (ha : a.put N v = a')
    (h : wpAnyLast P md ops Q S ds fuel l' a' w) : wpAnyLast P md ops Q S ds (fuel + 1) l a w := by
  subst ha
  subst hN
  simp only [anyB, Bool.and_eq_true, beq_iff_eq] at hc
  obtain ⟨⟨⟨h1, h2⟩, h3⟩, h6⟩ := hc
  subst h6
  exact wpAnyLast_any hi (Region.noSelect_spec h1) hQ fuel l a w (Region.free_spec hi h2) (by simpa using h3) hy h
theorem pu_ (i t : Nat) {oi : Oper} (v : Value) {fuel : Nat} {l : Array Bool} {a : Act} {w : World} (l' : Array Bool) (hi : ops[i]? = some oi) (hN : oi.dst = some t) (h2 : ∀ w, (execOp a.eval oi).run P w = .ok (.value v) w) (a' : Act) (ha : a.put (some t) v = a')
    (h : wpAnyLast P md ops Q S ds fuel l' a' w) (hc : anyB md ops l l' i = true := by kernel_rfl) (hQ : ∀ c a w, Q (.panic c) (a.put oi.dst v) w → Q (.panic c) a w := by exact fun _ _ _ h => h) (h1 : Region.wanted oi (yielded ops a.tmps) = true := by rfl) : wpAnyLast P md ops Q S ds (fuel + 1) l a w := pure_ (i := i) (N := some t) l' hi hN hc hQ (Or.inl ⟨h1, h2⟩) ha h
def readyB (md : Region.Mode) (ops : Array Oper) (l l' : Array Bool) (i : Nat) : Bool := (Region.ready md ops l == [i]) && (l.setIfInBounds i true == l')
theorem one_ {i : Nat} {N : Option Tmp} {oi : Oper} {fuel : Nat} {l : Array Bool} {a : Act} {w : World} (l' : Array Bool) (hi : ops[i]? = some oi) (hN : oi.dst = N) (hc : readyB md ops l l' i = true) (hd : i ∉ ds)
    (h : ∀ K : Act → World → Prop, Shut (∀ a' w', S w' → (S w' → wpAnyLast P md ops Q S ds fuel l' a' w') → K a' w') → if Region.wanted oi (yielded ops a.tmps) = true then Oper.wp P oi a w K Q else K (a.put N undef) w) :
    wpAnyLast P md ops Q S ds (fuel + 1) l a w := by
  subst hN
  simp only [readyB, Bool.and_eq_true, beq_iff_eq] at hc
  obtain ⟨h1, h2⟩ := hc
  subst h2
  exact wpAnyLast_ready h1 (by simp) (AllReadyL.cons hi hd (fun K hK => h K hK) AllReadyL.nil)
theorem last_ {i : Nat} {N : Option Tmp} {oi : Oper} {fuel : Nat} {l : Array Bool} {a : Act} {w : World} (l' : Array Bool) (hi : ops[i]? = some oi) (hN : oi.dst = N) (hc : readyB md ops l l' i = true) (hd : i ∈ ds)
    (h : ∀ K : Act → World → Prop, Shut (∀ a' w', wpAnyLast P md ops Q S ds fuel l' a' w' → K a' w') → if Region.wanted oi (yielded ops a.tmps) = true then Oper.wp P oi a w K Q else K (a.put N undef) w) :
    wpAnyLast P md ops Q S ds (fuel + 1) l a w := by
  subst hN
  simp only [readyB, Bool.and_eq_true, beq_iff_eq] at hc
  obtain ⟨h1, h2⟩ := hc
  subst h2
  exact wpAnyLast_ready h1 (by simp) (AllReadyL.cons_last hi hd (fun K hK => h K hK) AllReadyL.nil)
theorem done_ {l : Array Bool} {a : Act} {w : World} {n : Nat} (hr : (Region.ready md ops l == []) = true) (h : Q .normal a w) : wpAnyLast P md ops Q S ds n l a w := wpAnyLast_done (by simpa using hr) h n
theorem two_ {i j : Nat} {Ni Nj : Option Tmp} {oi oj : Oper} {fuel : Nat} {l : Array Bool} {a : Act} {w : World} (li lj : Array Bool) (hi : ops[i]? = some oi) (hj : ops[j]? = some oj) (hNi : oi.dst = Ni) (hNj : oj.dst = Nj)
    (hc : (Region.ready md ops l == [i, j] && l.setIfInBounds i true == li && l.setIfInBounds j true == lj) = true) (hdi : i ∉ ds) (hdj : j ∉ ds)
    (h1 : ∀ K : Act → World → Prop, Shut (∀ a' w', S w' → (S w' → wpAnyLast P md ops Q S ds fuel li a' w') → K a' w') → if Region.wanted oi (yielded ops a.tmps) = true then Oper.wp P oi a w K Q else K (a.put Ni undef) w)
    (h2 : ∀ K : Act → World → Prop, Shut (∀ a' w', S w' → (S w' → wpAnyLast P md ops Q S ds fuel lj a' w') → K a' w') → if Region.wanted oj (yielded ops a.tmps) = true then Oper.wp P oj a w K Q else K (a.put Nj undef) w) :
    wpAnyLast P md ops Q S ds (fuel + 1) l a w := by
  subst hNi
  subst hNj
  simp only [Bool.and_eq_true, beq_iff_eq] at hc
  obtain ⟨⟨h3, h4⟩, h5⟩ := hc
  subst h4
  subst h5
  exact wpAnyLast_ready h3 (by simp) (AllReadyL.cons hi hdi (fun K hK => h1 K hK) (AllReadyL.cons hj hdj (fun K hK => h2 K hK) AllReadyL.nil))
theorem three_ {i j k : Nat} {Ni Nj Nk : Option Tmp} {oi oj ok : Oper} {fuel : Nat} {l : Array Bool} {a : Act} {w : World} (li lj lk : Array Bool) (hi : ops[i]? = some oi) (hj : ops[j]? = some oj) (hk : ops[k]? = some ok) (hNi : oi.dst = Ni) (hNj : oj.dst = Nj) (hNk : ok.dst = Nk)
    (hc : (Region.ready md ops l == [i, j, k] && l.setIfInBounds i true == li && l.setIfInBounds j true == lj && l.setIfInBounds k true == lk) = true) (hdi : i ∉ ds) (hdj : j ∉ ds) (hdk : k ∉ ds)
    (h1 : ∀ K : Act → World → Prop, Shut (∀ a' w', S w' → (S w' → wpAnyLast P md ops Q S ds fuel li a' w') → K a' w') → if Region.wanted oi (yielded ops a.tmps) = true then Oper.wp P oi a w K Q else K (a.put Ni undef) w)
    (h2 : ∀ K : Act → World → Prop, Shut (∀ a' w', S w' → (S w' → wpAnyLast P md ops Q S ds fuel lj a' w') → K a' w') → if Region.wanted oj (yielded ops a.tmps) = true then Oper.wp P oj a w K Q else K (a.put Nj undef) w)
    (h3 : ∀ K : Act → World → Prop, Shut (∀ a' w', S w' → (S w' → wpAnyLast P md ops Q S ds fuel lk a' w') → K a' w') → if Region.wanted ok (yielded ops a.tmps) = true then Oper.wp P ok a w K Q else K (a.put Nk undef) w) :
    wpAnyLast P md ops Q S ds (fuel + 1) l a w := by
  subst hNi
  subst hNj
  subst hNk
  simp only [Bool.and_eq_true, beq_iff_eq] at hc
  obtain ⟨⟨⟨h4, h5⟩, h6⟩, h7⟩ := hc
  subst h5
  subst h6
  subst h7
  exact wpAnyLast_ready h4 (by simp) (AllReadyL.cons hi hdi (fun K hK => h1 K hK) (AllReadyL.cons hj hdj (fun K hK => h2 K hK) (AllReadyL.cons hk hdk (fun K hK => h3 K hK) AllReadyL.nil)))
def putAll : Act → List (Tmp × Value) → Act
  | a, [] => a
  | a, (n, v) :: r => putAll (a.put (some n) v) r
theorem join_ {σ : Type} {fuel : Nat} {l : Array Bool} {a : Act} {w : World} (fuel' : Nat) (l' : Array Bool) (ns : σ → List (Tmp × Value)) (F : σ → World → Prop)
    (hcont : ∀ s w', F s w' → wpAnyLast P md ops Q S ds fuel' l' (putAll a (ns s)) w')
    (h : (∀ s w', F s w' → wpAnyLast P md ops Q S ds fuel' l' (putAll a (ns s)) w') → wpAnyLast P md ops Q S ds fuel l a w) : wpAnyLast P md ops Q S ds fuel l a w := h hcont
theorem norm_ {fuel : Nat} {l : Array Bool} {a a' : Act} {w : World} (ha : a = a') (h : wpAnyLast P md ops Q S ds fuel l a' w) : wpAnyLast P md ops Q S ds fuel l a w := by
  subst ha
  exact h
theorem call_ {oi : Oper} {N : Option Tmp} {a : Act} {w : World} {K : Act → World → Prop} (f : FuncId) (args : Array Value) (hw : Region.wanted oi (yielded ops a.tmps) = true) (hN : oi.dst = N) (hrun : (execOp a.eval oi).run P w = .ok (.enter f args) w)
    (h : Calls P f args w fun e w' => ∃ v, e = .returned v ∧ K (a.put N v) w') : if Region.wanted oi (yielded ops a.tmps) = true then Oper.wp P oi a w K Q else K (a.put N undef) w := by
  rw [if_pos hw]
  subst hN
  unfold Oper.wp
  rw [hrun, Oper.upon_enter]
  refine h.mono fun e w'' hh => ?_
  obtain ⟨v, rfl, hk⟩ := hh
  exact hk
theorem enters_ {f : FuncId} {fn : Func} (hf : P.funcs[f]? = some fn) (hname : (fn.name == "runtime.NumGoroutine") = false) (hb : fn.body.isSome = true) (args : Array Value) (w : World) : (callFunc f args).run P w = .ok (.enter f args) w := by
  have h1 : fn.name ≠ "runtime.NumGoroutine" := by simpa using hname
  obtain ⟨c, hc⟩ := Option.isSome_iff_exists.1 hb
  simp [callFunc, hf, h1, hc]
theorem goes_ {oi : Oper} {N : Option Tmp} {a : Act} {w : World} {K : Act → World → Prop} {f : FuncId} {fn : Func} {aS : Array Operand} {ts : Array TypeId} (hf : P.funcs[f]? = some fn) (hname : (fn.name == "runtime.NumGoroutine") = false) (hb : fn.body.isSome = true) (args : Array Value)
    (hw : Region.wanted oi (yielded ops a.tmps) = true) (hN : oi.dst = N) (hop : oi.op = .call { callee := .value (.func f), args := aS, argTypes := ts }) (hargs : aS.map a.eval = args)
    (h : Calls P f args w fun e w' => ∃ v, e = .returned v ∧ K (a.put N v) w') : if Region.wanted oi (yielded ops a.tmps) = true then Oper.wp P oi a w K Q else K (a.put N undef) w := by
  refine call_ f args hw hN ?_ h
  have he := enters_ hf hname hb args w
  unfold execOp
  simp [hop, resolve, Deferred.ofValue, invoke, Act.eval, hargs, he]
theorem value_ {oi : Oper} {N : Option Tmp} {a : Act} {w w1 : World} {v : Value} {K : Act → World → Prop} (hw : Region.wanted oi (yielded ops a.tmps) = true) (hN : oi.dst = N) (hrun : (execOp a.eval oi).run P w = .ok (.value v) w1)
    (h : K (a.put N v) w1) : if Region.wanted oi (yielded ops a.tmps) = true then Oper.wp P oi a w K Q else K (a.put N undef) w := by
  rw [if_pos hw]
  subst hN
  unfold Oper.wp
  rw [hrun]
  exact h
theorem skip_ {oi : Oper} {a : Act} {w w1 : World} {K : Act → World → Prop} (hw : Region.wanted oi (yielded ops a.tmps) = true) (hN : oi.dst = none) (hrun : (execOp a.eval oi).run P w = .ok .skip w1)
    (h : K a w1) : if Region.wanted oi (yielded ops a.tmps) = true then Oper.wp P oi a w K Q else K (a.put none undef) w := by
  rw [if_pos hw]
  unfold Oper.wp
  rw [hrun]
  show K (a.put oi.dst undef) w1
  rw [hN]
  exact h
theorem i64_w (n : Int) : IntKind.i64.wrap n = Go.RowKit.wrap64 n := by unfold Go.RowKit.wrap64; exact IntKind.wrap_i64 n
theorem i32_w (n : Int) : IntKind.i32.wrap n = Go.RowKit.wrap32 n := by unfold Go.RowKit.wrap32; exact IntKind.wrap_i32 n
theorem aP : (∀ (a : Act) (d : Tmp) (v : Value), a.put (some d) v = { a with tmps := a.tmps.setIfInBounds d v }) ∧ (∀ (a : Act) (v : Value), a.put none v = a) ∧ (∀ {α : Type} (l : List α) (i : Nat) (a : α), l.toArray.setIfInBounds i a = (l.set i a).toArray) ∧ (∀ {α : Type} {a b : α} {aS : List α}, (b :: aS).set 0 a = a :: aS) ∧ (∀ {α : Type} {a b : α} {n : Nat} {aS : List α}, (a :: aS).set (n + 1) b = a :: aS.set n b) ∧ (∀ n : Int, IntKind.i64.wrap n = Go.RowKit.wrap64 n) ∧ ∀ n : Int, IntKind.i32.wrap n = Go.RowKit.wrap32 n :=
  ⟨fun _ _ _ => rfl, fun _ _ => rfl, List.setIfInBounds_toArray, List.set_cons_zero, List.set_cons_succ, i64_w, i32_w⟩
end
end Go.Proofs.YtkkgfpdjlohojaaW.PrintLast
namespace Go.Proofs.YtkkgfpdjlohojaaW.PrintWords
open Go.RowKit
namespace Kd
def tag {α : Type} (f : Nat → Nat) (d : Kd α) : Kd (α × Nat) where
  sz := d.sz
  E := d.E
  K := fun w x cs => d.K w x.1 cs
  M := fun w base ok x cs => d.M w base (fun k => ok k ∧ f k = x.2) x.1 cs
  K_len := fun h => d.K_len h
  K_one := fun h => d.K_one h
  K_below := fun hb h => d.K_below hb h
  K_of_M := fun h => d.K_of_M h
  M_mono := fun hok h => d.M_mono (fun k hk => ⟨hok k hk.1, hk.2⟩) h
  M_bound := fun h => d.M_mono (fun _ hk => ⟨⟨hk.1.1, hk.2⟩, hk.1.2⟩) (d.M_bound h)
  M_move := fun hm h => d.M_move (fun k hk => hm k hk.1) h
  M_lower := fun hb h => d.M_lower hb h
def raw (sz : Nat) : Kd (List Value) where
  sz := sz
  E := []
  K := fun _ x cs => cs = x ∧ cs.length = sz ∧ ∀ u ∈ cs, u.oneCell' = true
  M := fun _ _ _ x cs => cs = x ∧ cs.length = sz ∧ ∀ u ∈ cs, u.oneCell' = true
  K_len := fun h => h.2.1
  K_one := fun h => h.2.2
  K_below := fun _ h => h
  K_of_M := fun h => h
  M_mono := fun _ h => h
  M_bound := fun h => h
  M_move := fun _ h => h
  M_lower := fun _ h => h
def S {α : Type} (d : Kd α) (e : Nat) (w : World) (base : Nat) (ok : Nat → Prop) (v : Value) (xs : List α) : Prop := ∃ f, (tag f d).R e w base ok v xs.zipIdx
def gap {α : Type} (f : Nat → Nat) (d : Kd α) (i : Nat) (c : List Value) : Kd (α × Nat) where
  sz := d.sz
  E := d.E
  K := fun w x cs => (x.2 = i → cs = c ∧ cs.length = d.sz ∧ ∀ u ∈ cs, u.oneCell' = true) ∧ (x.2 ≠ i → d.K w x.1 cs)
  M := fun w base ok x cs => (x.2 = i → cs = c ∧ cs.length = d.sz ∧ ∀ u ∈ cs, u.oneCell' = true) ∧ (x.2 ≠ i → d.M w base (fun k => ok k ∧ f k = x.2) x.1 cs)
  K_len := fun {w x cs} h => by
    by_cases hx : x.2 = i
    · exact (h.1 hx).2.1
    · exact d.K_len (h.2 hx)
  K_one := fun {w x cs} h => by
    by_cases hx : x.2 = i
    · exact (h.1 hx).2.2
    · exact d.K_one (h.2 hx)
  K_below := fun hb h => ⟨h.1, fun hx => d.K_below hb (h.2 hx)⟩
  K_of_M := fun h => ⟨h.1, fun hx => d.K_of_M (h.2 hx)⟩
  M_mono := fun hok h => ⟨h.1, fun hx => d.M_mono (fun k hk => ⟨hok k hk.1, hk.2⟩) (h.2 hx)⟩
  M_bound := fun h => ⟨h.1, fun hx => d.M_mono (fun _ hk => ⟨⟨hk.1.1, hk.2⟩, hk.1.2⟩) (d.M_bound (h.2 hx))⟩
  M_move := fun hm h => ⟨h.1, fun hx => d.M_move (fun k hk => hm k hk.1) (h.2 hx)⟩
  M_lower := fun hb h => ⟨h.1, fun hx => d.M_lower hb (h.2 hx)⟩
def H {α : Type} (d : Kd α) (e : Nat) (w : World) (base : Nat) (ok : Nat → Prop) (v : Value) (xs : List α) (i : Int) (oki : Nat → Prop) (c : List Value) : Prop :=
  (∀ k, oki k → ok k) ∧ ∃ f, (gap f d i.toNat c).R e w base (fun k => ok k ∧ ¬ oki k) v xs.zipIdx
end Kd
end Go.Proofs.YtkkgfpdjlohojaaW.PrintWords
namespace Go.Proofs.YtkkgfpdjlohojaaW.PrintWords
end Go.Proofs.YtkkgfpdjlohojaaW.PrintWords
namespace Go.Proofs.YtkkgfpdjlohojaaW.PrintWords
end Go.Proofs.YtkkgfpdjlohojaaW.PrintWords
namespace Go.Proofs.YtkkgfpdjlohojaaW.PrintWords
open Go.RowKit
def Kept (w W : World) (S : Nat → Prop) : Prop := w.heap.size ≤ W.heap.size ∧ ∀ i, i < w.heap.size → ¬ S i → W.heap[i]? = w.heap[i]?
section
variable {w W W2 : World} {S S2 S' : Nat → Prop}
theorem Kept.refl (w : World) (S : Nat → Prop) : Kept w w S := ⟨Nat.le_refl _, fun _ _ _ => rfl⟩
theorem Kept.then_ (h : Kept w W S) (k : Kept W W2 S2) (hs : ∀ k, S2 k → S k ∨ w.heap.size ≤ k) : Kept w W2 S :=
  ⟨Nat.le_trans h.1 k.1, fun i hi hn => (k.2 i (Nat.lt_of_lt_of_le hi h.1) (fun h2 => (hs i h2).elim hn (fun h3 => by omega))).trans (h.2 i hi hn)⟩
theorem Kept.setCell (h : Kept w W S) {p : Addr} (hp : S p.block ∨ w.heap.size ≤ p.block) (u : Value) : Kept w (W.setCell p u) S :=
  h.then_ (S2 := fun k => k = p.block) ⟨by simp [World.setCell], fun i _ hn => Below.heap_setCell W p u i hn⟩ (fun k hk => by rw [hk]; exact hp)
end
end Go.Proofs.YtkkgfpdjlohojaaW.PrintWords
namespace Go.Proofs.YtkkgfpdjlohojaaW.PrintWords
open Go.RowKit
def Foot (P : World → Prop) (W : World) (ok : Nat → Prop) : Prop := ∀ W' : World, (∀ k, ok k → k < W.heap.size → W'.heap[k]? = W.heap[k]?) → P W'
theorem heap_lt {W W1 : World} {k : Nat} (h : W1.heap[k]? = W.heap[k]?) (hlt : k < W.heap.size) : k < W1.heap.size := by
  rw [Array.getElem?_eq_getElem hlt] at h
  exact (Array.getElem?_eq_some_iff.1 h).1
namespace Foot
variable {P Q : World → Prop} {W W1 : World} {ok ok' : Nat → Prop}
theorem bound (h : Foot P W ok) : Foot P W (fun k => ok k ∧ k < W.heap.size) := fun W' hW => h W' (fun k hk hlt => hW k ⟨hk, hlt⟩ hlt)
theorem step (h : Foot P W ok) (hm : ∀ k, ok k → k < W.heap.size → W1.heap[k]? = W.heap[k]?) : Foot P W1 ok := fun W' hW => h W' (fun k hk hlt => (hW k hk (heap_lt (hm k hk hlt) hlt)).trans (hm k hk hlt))
theorem old (h : Foot P W ok) (hb : Below W.heap.size W W1) : Foot P W1 (fun k => ok k ∧ k < W.heap.size) := (h.bound).step (fun k _ hlt => hb.block k hlt)
end Foot
namespace Kd
def F {α : Type} (d : Kd α) (W : World) (ok : Nat → Prop) (A : Option Addr) (n : Nat) (xs : List α) : Prop := Foot (fun W => d.C W A n xs) W ok
def FK {α : Type} (d : Kd α) (W : World) (ok : Nat → Prop) (x : α) (c : List Value) : Prop := Foot (fun W => d.K W x c) W ok
end Kd
end Go.Proofs.YtkkgfpdjlohojaaW.PrintWords
namespace Go.Proofs.YtkkgfpdjlohojaaW.PrintWords
end Go.Proofs.YtkkgfpdjlohojaaW.PrintWords
namespace Go.Proofs.YtkkgfpdjlohojaaW.PrintWords
end Go.Proofs.YtkkgfpdjlohojaaW.PrintWords
namespace Go.Proofs.YtkkgfpdjlohojaaW.PrintWords
open Go.RowKit
namespace Kd
section
variable {α : Type} {d : Kd α} {e base n cc g : Nat} {ok ok' okp S : Nat → Prop} {w w1 W W1 : World} {A : Option Addr} {u v v1 : Value} {xs : List α} {x : α} {c : List Value}
def N {α : Type} (d : Kd α) (e : Nat) (w : World) (base : Nat) (ok : Nat → Prop) (v : Value) (xs : List α) : Prop :=
  (∀ k, v.ownBlock = some k → ok k) ∧ ∃ rows : List (List Value), rows.length = xs.length ∧ (raw d.sz).R e w base (fun k => some k = v.ownBlock) v rows ∧ ∀ (j : Nat) (x : α) (c : List Value), xs[j]? = some x → rows[j]? = some c → FK d w (fun k => ok k ∧ some k ≠ v.ownBlock) x c
end
end Kd
end Go.Proofs.YtkkgfpdjlohojaaW.PrintWords
namespace Go.Proofs.YtkkgfpdjlohojaaW.PrintWords
end Go.Proofs.YtkkgfpdjlohojaaW.PrintWords
namespace Go.Proofs.YtkkgfpdjlohojaaW.PrintMore
end Go.Proofs.YtkkgfpdjlohojaaW.PrintMore
namespace Go.Proofs.YtkkgfpdjlohojaaW.PrintWords
open Go.RowKit
section
variable {P : Program} {ops : Array Oper} {rest : List Oper} {o : Oper} {a : Act} {Q : Exit → Act → World → Prop} {W : World}
theorem gate_builtin {b : Builtin} {xs : Array Operand} {ts : Array TypeId} (_ho : o.op = .call { callee := .builtin b, args := xs, argTypes := ts }) (h : wpList P ops Q (o :: rest) a W) : wpList P ops Q (o :: rest) a W := h
end
end Go.Proofs.YtkkgfpdjlohojaaW.PrintWords
namespace Go.Proofs.YtkkgfpdjlohojaaW.PrintWords
end Go.Proofs.YtkkgfpdjlohojaaW.PrintWords
namespace Go.Proofs.Ytkkgfpdjlohojaa.Kit
open Go.RowKit Go.Proofs.YtkkgfpdjlohojaaW.PrintWords Go.Proofs.YtkkgfpdjlohojaaW.PrintLast Go.Proofs.YtkkgfpdjlohojaaW.PrintMore
structure HP where
  P : World → (Nat → Prop) → Prop
  loc : ∀ {W W' : World} {ok : Nat → Prop}, P W ok → (∀ k, ok k → W'.heap[k]? = W.heap[k]?) → P W' ok
  bnd : ∀ {W : World} {ok : Nat → Prop}, P W ok → ∀ k, ok k → k < W.heap.size
def SepR (W : World) : (Nat → Prop) → List HP → Prop
  | _, [] => True
  | av, p :: L => ∃ ok, p.P W ok ∧ (∀ k, ok k → ¬ av k) ∧ SepR W (fun k => av k ∨ ok k) L
namespace SepR
variable {W W' : World} {av av' : Nat → Prop} {L L' F : List HP} {p q p' : HP}
theorem weaken : ∀ {L : List HP} {av av' : Nat → Prop}, (∀ k, av' k → av k) → SepR W av L → SepR W av' L
  | [], _, _, _, _ => trivial
  | p :: L, _, _, hs, ⟨ok, hp, hd, h⟩ => ⟨ok, hp, fun k hk ha => hd k hk (hs k ha), weaken (fun k hk => hk.imp (hs k) id) h⟩
theorem move : ∀ {L : List HP} {av : Nat → Prop}, SepR W av L → (∀ k, k < W.heap.size → ¬ av k → W'.heap[k]? = W.heap[k]?) → SepR W' av L
  | [], _, _, _ => trivial
  | p :: L, _, ⟨ok, hp, hd, h⟩, hm => ⟨ok, p.loc hp (fun k hk => hm k (p.bnd hp k hk) (hd k hk)), hd, move h (fun k hlt hn => hm k hlt (fun ha => hn (.inl ha)))⟩
theorem swap (h : SepR W av (p :: q :: L)) : SepR W av (q :: p :: L) := by
  obtain ⟨op, hp, dp, oq, hq, dq, h⟩ := h
  exact ⟨oq, hq, fun k hk ha => dq k hk (.inl ha), op, hp, fun k hk ha => ha.elim (dp k hk) (fun ho => dq k ho (.inr hk)), weaken (fun k (hk : (av k ∨ oq k) ∨ op k) => hk.elim (fun h3 => h3.elim (fun h1 => .inl (.inl h1)) .inr) (fun h2 => .inl (.inr h2))) h⟩
theorem perm (hp : L.Perm L') : ∀ {av : Nat → Prop}, SepR W av L → SepR W av L' := by
  induction hp with
  | nil => exact fun h => h
  | cons x _ ih => exact fun ⟨ok, hx, hd, h⟩ => ⟨ok, hx, hd, ih h⟩
  | swap x y l => exact fun h => swap h
  | trans _ _ ih1 ih2 => exact fun h => ih2 (ih1 h)
theorem app_of : ∀ {L : List HP} {av ok : Nat → Prop}, (∀ k, ok k → ¬ av k) → SepR W (fun k => ¬ ok k) L → SepR W (fun k => av k ∨ ok k) F → SepR W av (L ++ F)
  | [], _, _, _, _, h => weaken (fun k hk => .inl hk) h
  | p :: L, av, ok, hd, ⟨op, hp, dp, h⟩, hF => by
    refine ⟨op, hp, fun k hk => hd k (Classical.not_not.1 (dp k hk)), app_of (ok := fun k => ok k ∧ ¬ op k) (fun k hk ha => ha.elim (hd k hk.1) hk.2) (weaken (fun k hk => ?_) h) (weaken (fun k hk => ?_) hF)⟩
    · by_cases h1 : ok k
      · exact .inr (Classical.not_not.1 (fun h2 => hk ⟨h1, h2⟩))
      · exact .inl h1
    · rcases hk with (h1 | h2) | h3
      · exact .inl h1
      · exact .inr (Classical.not_not.1 (dp k h2))
      · exact .inr h3.1
theorem of_app : ∀ {L : List HP} {av : Nat → Prop}, SepR W av (L ++ F) → ∃ ok : Nat → Prop, (∀ k, ok k → k < W.heap.size) ∧ (∀ k, ok k → ¬ av k) ∧ SepR W (fun k => ¬ ok k) L ∧ SepR W (fun k => av k ∨ ok k) F
  | [], _, h => ⟨fun _ => False, fun _ hf => hf.elim, fun _ hf => hf.elim, trivial, weaken (fun k hk => hk.elim id (fun hf => hf.elim)) h⟩
  | p :: L, av, ⟨op, hp, dp, h⟩ => by
    obtain ⟨o1, hb, hd, h1, h2⟩ := of_app h
    refine ⟨fun k => op k ∨ o1 k, fun k hk => hk.elim (p.bnd hp k) (hb k), fun k hk => hk.elim (dp k) (fun ho ha => hd k ho (.inl ha)), ⟨op, hp, fun k hk hn => hn (.inl hk), weaken (fun k hk ho => ?_) h1⟩, weaken (fun k hk => ?_) h2⟩
    · rcases hk with h3 | h3
      · exact h3 (.inr ho)
      · exact hd k ho (.inr h3)
    · rcases hk with h3 | h3 | h3
      · exact .inl (.inl h3)
      · exact .inl (.inr h3)
      · exact .inr h3
theorem fresh : ∀ {L : List HP} {av : Nat → Prop}, SepR W av L → SepR W (fun k => av k ∨ W.heap.size ≤ k) L
  | [], _, _ => trivial
  | p :: L, av, ⟨ok, hp, hd, h⟩ => ⟨ok, hp, fun k hk ha => ha.elim (hd k hk) (fun h2 => by have := p.bnd hp k hk; omega), weaken (fun k (hk : (av k ∨ W.heap.size ≤ k) ∨ ok k) => hk.elim (fun h3 => h3.elim (fun h1 => .inl (.inl h1)) .inr) (fun h1 => .inl (.inr h1))) (fresh h)⟩
end SepR
structure Sep (w0 W : World) (L : List HP) : Prop where
  os : W.os = w0.os
  tape : W.tape = w0.tape
  output : W.output = w0.output
  size : w0.heap.size ≤ W.heap.size
  old : ∀ k, k < w0.heap.size → W.heap[k]? = w0.heap[k]?
  sep : SepR W (fun k => k < w0.heap.size) L
def Star (L : List HP) : HP where
  P W ok := (∀ k, ok k → k < W.heap.size) ∧ SepR W (fun k => ¬ ok k) L
  loc := fun {W W' ok} h hm => ⟨fun k hk => by
      have := hm k hk
      rw [Array.getElem?_eq_getElem (h.1 k hk)] at this
      exact (Array.getElem?_eq_some_iff.1 this).1, h.2.move (fun k _ hk => hm k (Classical.not_not.1 hk))⟩
  bnd := fun h => h.1
def Ex {α : Type} (p : α → HP) : HP where
  P W ok := ∃ x, (p x).P W ok
  loc := fun ⟨x, h⟩ hm => ⟨x, (p x).loc h hm⟩
  bnd := fun ⟨x, h⟩ => (p x).bnd h
def Pu (φ : Prop) : HP where
  P W ok := φ ∧ ∀ k, ¬ ok k
  loc := fun h _ => h
  bnd := fun h k hk => (h.2 k hk).elim
def Blk (g : Nat) (t : TypeId) (cs : Array Value) : HP where
  P W ok := (∀ k, ok k ↔ k = g) ∧ W.heap[g]? = some (.cells cs t (0, 0))
  loc := fun h hm => ⟨h.1, (hm _ ((h.1 _).2 rfl)).trans h.2⟩
  bnd := fun h k hk => by rw [(h.1 k).1 hk]; exact blk_lt h.2
def MapB (g : Nat) (es : Array MapEntry) (clock : Nat) : HP where
  P W ok := (∀ k, ok k ↔ k = g) ∧ W.heap[g]? = some (.map es clock)
  loc := fun h hm => ⟨h.1, (hm _ ((h.1 _).2 rfl)).trans h.2⟩
  bnd := fun h k hk => by rw [(h.1 k).1 hk]; exact blk_lt h.2
def Row {α : Type} (d : Kd α) (e : Nat) (v : Value) (xs : List α) : HP where
  P W ok := d.R e W 0 ok v xs ∧ ∀ k, ok k → k < W.heap.size
  loc := fun {W W' ok} h hm => ⟨Kd.R_move h.1 hm, fun k hk => by
      have := hm k hk
      rw [Array.getElem?_eq_getElem (h.2 k hk)] at this
      exact (Array.getElem?_eq_some_iff.1 this).1⟩
  bnd := fun h => h.2
namespace Sep
variable {w0 W W' W2 : World} {L L' F R : List HP} {p q r s t u : HP}
theorem start (w : World) : Sep w w [] := ⟨rfl, rfl, rfl, Nat.le_refl _, fun _ _ => rfl, trivial⟩
theorem toBelow (h : Sep w0 W L) : Below w0.heap.size w0 W := ⟨h.os, h.tape, h.output, h.size, h.old⟩
theorem perm (h : Sep w0 W L) (hp : L.Perm L') : Sep w0 W L' := ⟨h.os, h.tape, h.output, h.size, h.old, h.sep.perm hp⟩
theorem at2 (h : Sep w0 W (p :: q :: F)) : Sep w0 W (q :: p :: F) := h.perm (.swap _ _ _)
theorem at3 (h : Sep w0 W (p :: q :: r :: F)) : Sep w0 W (r :: p :: q :: F) := h.perm ((List.Perm.cons p (.swap _ _ _)).trans (.swap _ _ _))
theorem sw23 (h : Sep w0 W (p :: q :: r :: F)) : Sep w0 W (p :: r :: q :: F) := h.perm (.cons _ (.swap _ _ _))
theorem to3 (h : Sep w0 W (p :: q :: r :: F)) : Sep w0 W (q :: r :: p :: F) := h.perm ((List.Perm.swap _ _ _).trans (.cons _ (.swap _ _ _)))
theorem at4 (h : Sep w0 W (p :: q :: r :: s :: F)) : Sep w0 W (s :: p :: q :: r :: F) := (h.perm (.cons p ((List.Perm.cons q (.swap _ _ _)).trans (.swap _ _ _)))).at2
theorem at5 (h : Sep w0 W (p :: q :: r :: s :: t :: F)) : Sep w0 W (t :: p :: q :: r :: s :: F) := (h.perm (.cons p (.cons q ((List.Perm.cons r (.swap _ _ _)).trans (.swap _ _ _))))).at3
theorem tail (h : Sep w0 W (p :: F)) : Sep w0 W F := by
  obtain ⟨ok, _, _, h2⟩ := h.sep
  exact ⟨h.os, h.tape, h.output, h.size, h.old, h2.weaken (fun k hk => .inl hk)⟩
theorem drop2 (h : Sep w0 W (p :: q :: F)) : Sep w0 W (p :: F) := h.at2.tail
theorem weak (h : Sep w0 W (L ++ F)) : Sep w0 W F := by
  induction L with
  | nil => exact h
  | cons p L ih => exact ih h.tail
theorem below (h : Sep w0 W L) (hb : Below W.heap.size W W') : Sep w0 W' L :=
  ⟨hb.os.trans h.os, hb.tape.trans h.tape, hb.output.trans h.output, Nat.le_trans h.size hb.size, fun k hk => (hb.block k (Nat.lt_of_lt_of_le hk h.size)).trans (h.old k hk), h.sep.move (fun k hk _ => hb.block k hk)⟩
theorem drew (h : Sep w0 W L) : Sep w0 W.drew L := h.below (below_drew (Below.refl _ _))
theorem drewN (h : Sep w0 W L) (n : Nat) : Sep w0 (W.drewN n) L := h.below (pw_below_drewN (Below.refl _ _) n)
theorem alloc (h : Sep w0 W L) (o : Obj) : Sep w0 (W.alloc o) L := h.below (below_alloc (Below.refl _ _) o)
theorem stepOk {ok ok' : Nat → Prop} (h : Sep w0 W L) (hd : ∀ k, ok k → ¬ k < w0.heap.size) (hF : SepR W (fun k => k < w0.heap.size ∨ ok k) F) (hg : W'.os = W.os ∧ W'.tape = W.tape ∧ W'.output = W.output ∧ W.heap.size ≤ W'.heap.size)
    (hm : ∀ k, k < W.heap.size → ¬ ok k → W'.heap[k]? = W.heap[k]?) (hq : q.P W' ok') (hk' : ∀ k, ok' k → ok k ∨ W.heap.size ≤ k) : Sep w0 W' (q :: F) := by
  refine ⟨hg.1.trans h.os, hg.2.1.trans h.tape, hg.2.2.1.trans h.output, Nat.le_trans h.size hg.2.2.2, fun k hk => (hm k (Nat.lt_of_lt_of_le hk h.size) (fun ho => hd k ho hk)).trans (h.old k hk), ok', hq, fun k hk ha => ?_, ?_⟩
  · rcases hk' k hk with h1 | h1
    · exact hd k h1 ha
    · have := h.size; omega
  · have h1 := (hF.fresh).move (W' := W') (fun k hlt hn => hm k hlt (fun ho => hn (.inl (.inr ho))))
    exact h1.weaken (fun k hk => hk.elim (fun h3 => .inl (.inl h3)) (fun h3 => (hk' k h3).elim (fun h4 => .inl (.inr h4)) .inr))
theorem step (h : Sep w0 W (p :: F)) (hg : W'.os = W.os ∧ W'.tape = W.tape ∧ W'.output = W.output ∧ W.heap.size ≤ W'.heap.size)
    (hs : ∀ ok, p.P W ok → (∀ k, k < W.heap.size → ¬ ok k → W'.heap[k]? = W.heap[k]?) ∧ ∃ ok', q.P W' ok' ∧ ∀ k, ok' k → ok k ∨ W.heap.size ≤ k) : Sep w0 W' (q :: F) := by
  obtain ⟨ok, hp, hd, hF⟩ := h.sep
  obtain ⟨hm, ok', hq, hk'⟩ := hs ok hp
  exact h.stepOk hd hF hg hm hq hk'
theorem gain (h : Sep w0 W F) (hb : Below W.heap.size W W') {ok : Nat → Prop} (hq : q.P W' ok) (hk : ∀ k, ok k → W.heap.size ≤ k) : Sep w0 W' (q :: F) := by
  have h1 := h.below hb
  refine ⟨h1.os, h1.tape, h1.output, h1.size, h1.old, ok, hq, fun k ho ha => ?_, ?_⟩
  · have := hk k ho; have := h.size; omega
  · have h2 := (h.sep.fresh).move (W' := W') (fun k hlt _ => hb.block k hlt)
    exact h2.weaken (fun k hk2 => hk2.imp id (hk k))
theorem lift (h : Sep w0 W F) (hR : Sep W W' R) : Sep w0 W' (R ++ F) := by
  have h1 := h.below hR.toBelow
  refine ⟨h1.os, h1.tape, h1.output, h1.size, h1.old, SepR.app_of (ok := fun k => W.heap.size ≤ k) (fun k hk ha => by have := h.size; omega) (hR.sep.weaken (fun k hk => by omega)) ?_⟩
  exact (h.sep.fresh).move (W' := W') (fun k hlt _ => hR.toBelow.block k hlt)
theorem lift1 (h : Sep w0 W F) (hR : Sep W W' [p]) : Sep w0 W' (p :: F) := h.lift hR
theorem star (h : Sep w0 W (Star L :: F)) : Sep w0 W (L ++ F) := by
  obtain ⟨ok, hp, hd, hF⟩ := h.sep
  exact ⟨h.os, h.tape, h.output, h.size, h.old, SepR.app_of hd hp.2 hF⟩
theorem unstar (h : Sep w0 W (L ++ F)) : Sep w0 W (Star L :: F) := by
  obtain ⟨ok, hb, hd, h1, h2⟩ := SepR.of_app h.sep
  exact ⟨h.os, h.tape, h.output, h.size, h.old, ok, ⟨hb, h1⟩, hd, h2⟩
theorem ex {α : Type} {p : α → HP} (h : Sep w0 W (Ex p :: F)) : ∃ x, Sep w0 W (p x :: F) := by
  obtain ⟨ok, ⟨x, hp⟩, hd, hF⟩ := h.sep
  exact ⟨x, h.os, h.tape, h.output, h.size, h.old, ok, hp, hd, hF⟩
theorem unex {α : Type} {p : α → HP} (x : α) (h : Sep w0 W (p x :: F)) : Sep w0 W (Ex p :: F) := by
  obtain ⟨ok, hp, hd, hF⟩ := h.sep
  exact ⟨h.os, h.tape, h.output, h.size, h.old, ok, ⟨x, hp⟩, hd, hF⟩
theorem pu {φ : Prop} (h : Sep w0 W (Pu φ :: F)) : φ ∧ Sep w0 W F := by
  obtain ⟨ok, hp, hd, hF⟩ := h.sep
  exact ⟨hp.1, h.tail⟩
theorem unpu {φ : Prop} (hφ : φ) (h : Sep w0 W F) : Sep w0 W (Pu φ :: F) :=
  ⟨h.os, h.tape, h.output, h.size, h.old, fun _ => False, ⟨hφ, fun _ hf => hf⟩, fun _ hf => hf.elim, h.sep.weaken (fun k hk => hk.elim id (fun hf => hf.elim))⟩
theorem imp (h : Sep w0 W (p :: F)) (hi : ∀ ok, p.P W ok → q.P W ok) : Sep w0 W (q :: F) := by
  obtain ⟨ok, hp, hd, hF⟩ := h.sep
  exact ⟨h.os, h.tape, h.output, h.size, h.old, ok, hi ok hp, hd, hF⟩
section
variable {g : Nat} {ty : TypeId} {cs : Array Value} {es : Array MapEntry} {clock : Nat}
theorem blk (h : Sep w0 W (Blk g ty cs :: F)) : W.heap[g]? = some (.cells cs ty (0, 0)) := by
  obtain ⟨ok, hp, _⟩ := h.sep; exact hp.2
theorem cell (h : Sep w0 W (Blk g ty cs :: F)) (i : Nat) : W.cell? ⟨g, i, none⟩ = cs[i]? := cell_of_row W g i cs ty (0, 0) h.blk
theorem frozen (h : Sep w0 W (Blk g ty cs :: F)) (i : Nat) : W.frozen? ⟨g, i, none⟩ = false := by simp [World.frozen?, h.blk]
theorem map (h : Sep w0 W (MapB g es clock :: F)) : W.heap[g]? = some (.map es clock) := by
  obtain ⟨ok, hp, _⟩ := h.sep; exact hp.2
theorem newBlk (h : Sep w0 W F) (t : TypeId) (cs : Array Value) : Sep w0 (W.alloc (.cells cs t)) (Blk W.heap.size t cs :: F) :=
  h.gain (below_alloc (Below.refl _ _) _) (ok := fun k => k = W.heap.size) ⟨fun _ => Iff.rfl, blk_new W _⟩ (fun k hk => by omega)
theorem setBlk (h : Sep w0 W (Blk g ty cs :: F)) (i : Nat) (u : Value) : Sep w0 (W.setCell ⟨g, i, none⟩ u) (Blk g ty (cs.setIfInBounds i u) :: F) :=
  h.step ⟨rfl, rfl, rfl, by simp [World.setCell]⟩ (fun ok hp => ⟨fun k _ hn => Below.heap_setCell W _ u k (fun he => hn ((hp.1 k).2 he)), ok, ⟨hp.1, by
    have := hp.2
    simp [World.setCell, Array.getElem?_modify, this]⟩, fun k hk => .inl hk⟩)
end
section
variable {α : Type} {d : Kd α} {e n c : Nat} {v : Value} {A : Option Addr} {xs : List α}
theorem row (h : Sep w0 W (Row d e v xs :: F)) : ∃ ok, d.R e W 0 ok v xs := by
  obtain ⟨ok, hp, _⟩ := h.sep; exact ⟨ok, hp.1⟩
theorem rowV (h : Sep w0 W (Row d e v xs :: F)) : ∃ A c, v = .slice A xs.length c := by
  obtain ⟨ok, hr⟩ := h.row; exact Kd.R_slice hr
theorem rowN (h : Sep w0 W (Row d e v xs :: F)) (hn : xs.length = n) : ∃ A c, v = .slice A n c := by
  subst hn; exact h.rowV
theorem rowC (h : Sep w0 W (Row d e (.slice A n c) xs :: F)) : n = xs.length ∧ n ≤ c ∧ d.C W A xs.length xs := by
  obtain ⟨ok, hr⟩ := h.row; exact Kd.R_reads' hr
theorem rowForm (h : Sep w0 W (Row d e v xs :: F)) (hp : 0 < xs.length) : ∃ g cap, v = .slice (some ⟨g, 0, none⟩) xs.length cap := by
  obtain ⟨ok, hr⟩ := h.row
  obtain ⟨g, cap, hv, _⟩ := Kd.R_form hr hp
  exact ⟨g, cap, hv⟩
theorem rowFormN (h : Sep w0 W (Row d e v xs :: F)) (hn : xs.length = n) (hp : 0 < n) : ∃ g cap, v = .slice (some ⟨g, 0, none⟩) n cap := by
  subst hn; exact h.rowForm hp
theorem newRow {ok : Nat → Prop} (h : Sep w0 W F) (hr : d.R e W' W.heap.size ok v xs) (hb : Below W.heap.size W W') : Sep w0 W' (Row d e v xs :: F) :=
  h.gain hb (ok := fun k => ok k ∧ W.heap.size ≤ k ∧ k < W'.heap.size) ⟨Kd.R_lower (Kd.R_mono (Kd.R_bound hr) (fun k hk => ⟨hk.1, hk.2.1, hk.2.2.1⟩)) (Nat.zero_le _), fun k hk => hk.2.2⟩ (fun k hk => hk.2.1)
theorem nilRow (h : Sep w0 W F) (d : Kd α) (e : Nat) : Sep w0 W (Row d e (.slice none 0 0) [] :: F) :=
  h.gain (Below.refl _ _) (ok := fun _ => False) ⟨Kd.R_nil _ _ _ _ _, fun _ hf => hf.elim⟩ (fun _ hf => hf.elim)
end
section
variable {α : Type} {enc : α → Value} {h1 : ∀ x, (enc x).oneCell' = true} {e g n cap : Nat} {xs : List α}
theorem rowCell (d : α) (h : Sep w0 W (Row (Kd.scalar enc h1) e (.slice (some ⟨g, 0, none⟩) n cap) xs :: F)) (i : Nat) (hi : i < n) : W.cell? ⟨g, i, none⟩ = some (enc (xs.getD i d)) ∧ W.frozen? ⟨g, i, none⟩ = false := by
  obtain ⟨ok, hr⟩ := h.row
  have := Kd.R_celln d hr (i : Int) (by omega) (by omega)
  simpa [rdOf] using this
theorem putRow (h : Sep w0 W (Row (Kd.scalar enc h1) e (.slice (some ⟨g, 0, none⟩) n cap) xs :: F)) (i : Nat) (x : α) :
    Sep w0 (W.setCell ⟨g, i, none⟩ (enc x)) (Row (Kd.scalar enc h1) e (.slice (some ⟨g, 0, none⟩) n cap) (xs.set i x) :: F) :=
  h.step ⟨rfl, rfl, rfl, by simp [World.setCell]⟩ (fun ok hp => ⟨fun k _ hn => Below.heap_setCell W _ _ k (fun he => hn (by
      have := hp.1.1 g rfl
      rw [he]; exact this)), ok, ⟨by
    have := (Kd.R_putg hp.1 (i : Int) x).1
    simpa using this, fun k hk => by simpa [World.setCell] using hp.2 k hk⟩, fun k hk => .inl hk⟩)
end
section
variable {P : Program} {ops : Array Oper} {rest : List Oper} {o : Oper} {a : Act} {Q : Exit → Act → World → Prop} {α : Type} {enc : α → Value} {h1 : ∀ x, (enc x).oneCell' = true}
theorem appendRow {e : Nat} {v : Value} {xs ys : List α} (h : Sep w0 W (Row (Kd.scalar enc h1) e v xs :: F)) (hgd : o.guard = none) (s x : Operand) (t : TypeId) (z : Value) (bytes : Nat)
    (ho : o.op = .call { callee := .builtin .append, args := #[s, x], argTypes := #[t, t] })
    (ht : P.underlying t = some (.slice e)) (hinfo : (P.info? e).map (fun i => (i.zero, i.size, i.bytes)) = some (some z, 1, bytes)) (hz : z.cells.size = 1) (hb0 : 0 < bytes)
    (A : Option Addr) (m c : Nat) (hs : a.eval s = v) (hx : a.eval x = .slice A m c) (hC : (Kd.scalar enc h1).C W A m ys) (hl : (xs.length + ys.length) * bytes ≤ 140737488355328)
    (k : ∀ v1 w1, Sep w0 w1 (Row (Kd.scalar enc h1) e v1 (xs ++ ys) :: F) → wpList P ops Q rest (a.put o.dst v1) w1) : wpList P ops Q (o :: rest) a W := by
  obtain ⟨ok, hp, hd, hF⟩ := h.sep
  refine Kd.R_append_rows (Kd.scalar enc h1) (Rr := fun x cs => cs = [enc x]) (w0 := W) 0 hgd s x t e z bytes ho ht hinfo hz (by show 0 < 1; omega) hb0 v xs ys A m c (fun k => ok k ∨ W.heap.size ≤ k) (fun _ => False) hs hx
    (Kd.R_mono hp.1 (fun k hk => .inl hk)) hC (fun x cs h => h) (fun _ h => h.elim) (fun k hk => .inr hk) (Below.refl 0 W) (Nat.zero_le _) (by rw [← hC.1]; exact hl) (fun v1 w1 hr hb hg hat => k v1 w1 ?_)
  exact h.stepOk hd hF ⟨hg.os, hg.tape, hg.output, hg.size⟩ (fun k hlt hn => hg.block k hlt (fun he => hn (hp.1.1 k he.symm))) (ok' := fun k => (ok k ∨ W.heap.size ≤ k) ∧ k < w1.heap.size)
    ⟨Kd.R_mono (Kd.R_bound hr) (fun k hk => ⟨hk.1, hk.2.2.1⟩), fun k hk => hk.2⟩ (fun k hk => hk.1)
theorem appendStep {Kc : Act → World → Prop} {e : Nat} {v : Value} {xs ys : List α} (h : Sep w0 W (Row (Kd.scalar enc h1) e v xs :: F)) (hw : Region.wanted o (yielded ops a.tmps) = true) (s x : Operand) (t : TypeId) (z : Value) (bytes : Nat)
    (ho : o.op = .call { callee := .builtin .append, args := #[s, x], argTypes := #[t, t] })
    (ht : P.underlying t = some (.slice e)) (hinfo : (P.info? e).map (fun i => (i.zero, i.size, i.bytes)) = some (some z, 1, bytes)) (hz : z.cells.size = 1) (hb0 : 0 < bytes)
    (A : Option Addr) (m c : Nat) (hs : a.eval s = v) (hx : a.eval x = .slice A m c) (hC : (Kd.scalar enc h1).C W A m ys) (hl : (xs.length + ys.length) * bytes ≤ 140737488355328)
    (k : ∀ v1 w1, Sep w0 w1 (Row (Kd.scalar enc h1) e v1 (xs ++ ys) :: F) → Kc (a.put o.dst v1) w1) : if Region.wanted o (yielded ops a.tmps) = true then Oper.wp P o a W Kc Q else Kc (a.put o.dst undef) W := by
  obtain ⟨ok, hp, hd, hF⟩ := h.sep
  refine Kd.R_append_rows_step (Kd.scalar enc h1) (Rr := fun x cs => cs = [enc x]) (w0 := W) 0 hw s x t e z bytes ho ht hinfo hz (by show 0 < 1; omega) hb0 v xs ys A m c (fun k => ok k ∨ W.heap.size ≤ k) (fun _ => False) hs hx
    (Kd.R_mono hp.1 (fun k hk => .inl hk)) hC (fun x cs h => h) (fun _ h => h.elim) (fun k hk => .inr hk) (Below.refl 0 W) (Nat.zero_le _) (by rw [← hC.1]; exact hl) (fun v1 w1 hr hb hg hat => k v1 w1 ?_)
  exact h.stepOk hd hF ⟨hg.os, hg.tape, hg.output, hg.size⟩ (fun k hlt hn => hg.block k hlt (fun he => hn (hp.1.1 k he.symm))) (ok' := fun k => (ok k ∨ W.heap.size ≤ k) ∧ k < w1.heap.size)
    ⟨Kd.R_mono (Kd.R_bound hr) (fun k hk => ⟨hk.1, hk.2.2.1⟩), fun k hk => hk.2⟩ (fun k hk => hk.1)
theorem madeRow {e : Nat} (d : α) (m : Nat) (h : Sep w0 W F) (hm : m ≤ 9223372036854775807) : Sep w0 (W.alloc (.cells (madeCells #[enc d] m) e)) (Row (Kd.scalar enc h1) e (.slice (some ⟨W.heap.size, 0, none⟩) m m) (List.replicate m d) :: F) :=
  h.newRow (ok := fun _ => True) (Kd.R_of_own (by rw [List.length_replicate]; exact own_made_of W W.heap.size e m (Nat.le_refl _) hm) (fun _ _ => trivial)) (below_alloc (Below.refl _ _) _)
theorem litRow {e : Nat} (xs : List α) (h : Sep w0 W F) (hm : xs.length ≤ 9223372036854775807) : Sep w0 (W.alloc (.cells (encs enc xs).toArray e)) (Row (Kd.scalar enc h1) e (.slice (some ⟨W.heap.size, 0, none⟩) xs.length xs.length) xs :: F) :=
  h.newRow (ok := fun _ => True) (Kd.R_of_own (own_lit_of W W.heap.size e xs (Nat.le_refl _) hm) (fun _ _ => trivial)) (below_alloc (Below.refl _ _) _)
end
end Sep
end Go.Proofs.Ytkkgfpdjlohojaa.Kit
