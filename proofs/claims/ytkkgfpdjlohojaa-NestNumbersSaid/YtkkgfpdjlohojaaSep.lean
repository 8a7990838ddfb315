/- Resources that lie apart: each with the blocks that it lies in; what a step does to one leaves the others as they were. -/
import Derived.Test.YtkkgfpdjlohojaaWShare
import Derived.Test.YtkkgfpdjlohojaaWLast
import Derived.Test.YtkkgfpdjlohojaaWMore
namespace Go.Proofs.Ytkkgfpdjlohojaa.Kit
set_option linter.unusedVariables false
set_option linter.unusedSimpArgs false
open Go.RowKit Go.Proofs.YtkkgfpdjlohojaaW.PrintWords Go.Proofs.YtkkgfpdjlohojaaW.PrintLast Go.Proofs.YtkkgfpdjlohojaaW.PrintMore
/-- A resource: what holds of a world, told with the blocks that it lies in. -/
structure HP where
  P : World → (Nat → Prop) → Prop
  loc : ∀ {W W' : World} {ok : Nat → Prop}, P W ok → (∀ k, ok k → W'.heap[k]? = W.heap[k]?) → P W' ok
  bnd : ∀ {W : World} {ok : Nat → Prop}, P W ok → ∀ k, ok k → k < W.heap.size
/-- Resources that lie apart from each other and from what is to be avoided. -/
def SepR (W : World) : (Nat → Prop) → List HP → Prop
  | _, [] => True
  | av, p :: L => ∃ ok, p.P W ok ∧ (∀ k, ok k → ¬ av k) ∧ SepR W (fun k => av k ∨ ok k) L
namespace SepR
variable {W W' : World} {av av' : Nat → Prop} {L L' F : List HP} {p q p' : HP}
theorem weaken : ∀ {L : List HP} {av av' : Nat → Prop}, (∀ k, av' k → av k) → SepR W av L → SepR W av' L
  | [], _, _, _, _ => trivial
  | p :: L, _, _, hs, ⟨ok, hp, hd, h⟩ => ⟨ok, hp, fun k hk ha => hd k hk (hs k ha), weaken (fun k hk => hk.imp (hs k) id) h⟩
theorem move : ∀ {L : List HP} {av : Nat → Prop}, SepR W av L → (∀ k, k < W.heap.size → ¬ av k → W'.heap[k]? = W.heap[k]?) → SepR W' av L
  | [], _, _, _ => trivial
  | p :: L, _, ⟨ok, hp, hd, h⟩, hm => ⟨ok, p.loc hp (fun k hk => hm k (p.bnd hp k hk) (hd k hk)), hd, move h (fun k hlt hn => hm k hlt (fun ha => hn (.inl ha)))⟩
theorem swap (h : SepR W av (p :: q :: L)) : SepR W av (q :: p :: L) := by
  obtain ⟨op, hp, dp, oq, hq, dq, h⟩ := h
  exact ⟨oq, hq, fun k hk ha => dq k hk (.inl ha), op, hp, fun k hk ha => ha.elim (dp k hk) (fun ho => dq k ho (.inr hk)), weaken (fun k (hk : (av k ∨ oq k) ∨ op k) => hk.elim (fun h3 => h3.elim (fun h1 => .inl (.inl h1)) .inr) (fun h2 => .inl (.inr h2))) h⟩
theorem perm (hp : L.Perm L') : ∀ {av : Nat → Prop}, SepR W av L → SepR W av L' := by
  induction hp with
  | nil => exact fun h => h
  | cons x _ ih => exact fun ⟨ok, hx, hd, h⟩ => ⟨ok, hx, hd, ih h⟩
  | swap x y l => exact fun h => swap h
  | trans _ _ ih1 ih2 => exact fun h => ih2 (ih1 h)
theorem app_of : ∀ {L : List HP} {av ok : Nat → Prop}, (∀ k, ok k → ¬ av k) → SepR W (fun k => ¬ ok k) L → SepR W (fun k => av k ∨ ok k) F → SepR W av (L ++ F)
  | [], _, _, _, _, h => weaken (fun k hk => .inl hk) h
  | p :: L, av, ok, hd, ⟨op, hp, dp, h⟩, hF => by
    refine ⟨op, hp, fun k hk => hd k (Classical.not_not.1 (dp k hk)), app_of (ok := fun k => ok k ∧ ¬ op k) (fun k hk ha => ha.elim (hd k hk.1) hk.2) (weaken (fun k hk => ?_) h) (weaken (fun k hk => ?_) hF)⟩
    · by_cases h1 : ok k
      · exact .inr (Classical.not_not.1 (fun h2 => hk ⟨h1, h2⟩))
      · exact .inl h1
    · rcases hk with (h1 | h2) | h3
      · exact .inl h1
      · exact .inr (Classical.not_not.1 (dp k h2))
      · exact .inr h3.1
theorem of_app : ∀ {L : List HP} {av : Nat → Prop}, SepR W av (L ++ F) → ∃ ok : Nat → Prop, (∀ k, ok k → k < W.heap.size) ∧ (∀ k, ok k → ¬ av k) ∧ SepR W (fun k => ¬ ok k) L ∧ SepR W (fun k => av k ∨ ok k) F
  | [], _, h => ⟨fun _ => False, fun _ hf => hf.elim, fun _ hf => hf.elim, trivial, weaken (fun k hk => hk.elim id (fun hf => hf.elim)) h⟩
  | p :: L, av, ⟨op, hp, dp, h⟩ => by
    obtain ⟨o1, hb, hd, h1, h2⟩ := of_app h
    refine ⟨fun k => op k ∨ o1 k, fun k hk => hk.elim (p.bnd hp k) (hb k), fun k hk => hk.elim (dp k) (fun ho ha => hd k ho (.inl ha)), ⟨op, hp, fun k hk hn => hn (.inl hk), weaken (fun k hk ho => ?_) h1⟩, weaken (fun k hk => ?_) h2⟩
    · rcases hk with h3 | h3
      · exact h3 (.inr ho)
      · exact hd k ho (.inr h3)
    · rcases hk with h3 | h3 | h3
      · exact .inl (.inl h3)
      · exact .inl (.inr h3)
      · exact .inr h3
/-- Nothing lies in what is not there yet. -/
theorem fresh : ∀ {L : List HP} {av : Nat → Prop}, SepR W av L → SepR W (fun k => av k ∨ W.heap.size ≤ k) L
  | [], _, _ => trivial
  | p :: L, av, ⟨ok, hp, hd, h⟩ => ⟨ok, hp, fun k hk ha => ha.elim (hd k hk) (fun h2 => by have := p.bnd hp k hk; omega), weaken (fun k (hk : (av k ∨ W.heap.size ≤ k) ∨ ok k) => hk.elim (fun h3 => h3.elim (fun h1 => .inl (.inl h1)) .inr) (fun h1 => .inl (.inr h1))) (fresh h)⟩
theorem head_in (h : SepR W (fun k => ¬ av k) (p :: L)) : ∃ ok, p.P W ok ∧ (∀ k, ok k → av k) := by
  obtain ⟨ok, hp, hd, _⟩ := h
  exact ⟨ok, hp, fun k hk => Classical.not_not.1 (hd k hk)⟩
end SepR
/-- Since w0 nothing that was there has turned; in W there are, apart from all that was there and from each other, the resources of L. -/
structure Sep (w0 W : World) (L : List HP) : Prop where
  os : W.os = w0.os
  tape : W.tape = w0.tape
  output : W.output = w0.output
  size : w0.heap.size ≤ W.heap.size
  old : ∀ k, k < w0.heap.size → W.heap[k]? = w0.heap[k]?
  sep : SepR W (fun k => k < w0.heap.size) L
/-- Some resources as one. -/
def Star (L : List HP) : HP where
  P W ok := (∀ k, ok k → k < W.heap.size) ∧ SepR W (fun k => ¬ ok k) L
  loc := fun {W W' ok} h hm => ⟨fun k hk => by
      have := hm k hk
      rw [Array.getElem?_eq_getElem (h.1 k hk)] at this
      exact (Array.getElem?_eq_some_iff.1 this).1, h.2.move (fun k _ hk => hm k (Classical.not_not.1 hk))⟩
  bnd := fun h => h.1
/-- One of a family. -/
def Ex {α : Type} (p : α → HP) : HP where
  P W ok := ∃ x, (p x).P W ok
  loc := fun ⟨x, h⟩ hm => ⟨x, (p x).loc h hm⟩
  bnd := fun ⟨x, h⟩ => (p x).bnd h
/-- What holds of no world. -/
def Pu (φ : Prop) : HP where
  P W ok := φ ∧ ∀ k, ¬ ok k
  loc := fun h _ => h
  bnd := fun h k hk => (h.2 k hk).elim
/-- A block of cells. -/
def Blk (g : Nat) (t : TypeId) (cs : Array Value) : HP where
  P W ok := (∀ k, ok k ↔ k = g) ∧ W.heap[g]? = some (.cells cs t (0, 0))
  loc := fun h hm => ⟨h.1, (hm _ ((h.1 _).2 rfl)).trans h.2⟩
  bnd := fun h k hk => by rw [(h.1 k).1 hk]; exact blk_lt h.2
/-- A block of a map. -/
def MapB (g : Nat) (es : Array MapEntry) (clock : Nat) : HP where
  P W ok := (∀ k, ok k ↔ k = g) ∧ W.heap[g]? = some (.map es clock)
  loc := fun h hm => ⟨h.1, (hm _ ((h.1 _).2 rfl)).trans h.2⟩
  bnd := fun h k hk => by rw [(h.1 k).1 hk]; exact blk_lt h.2
/-- A row of one's own. -/
def Row {α : Type} (d : Kd α) (e : Nat) (v : Value) (xs : List α) : HP where
  P W ok := d.R e W 0 ok v xs ∧ ∀ k, ok k → k < W.heap.size
  loc := fun {W W' ok} h hm => ⟨Kd.R_move h.1 hm, fun k hk => by
      have := hm k hk
      rw [Array.getElem?_eq_getElem (h.2 k hk)] at this
      exact (Array.getElem?_eq_some_iff.1 this).1⟩
  bnd := fun h => h.2
/-- A row that is only read. -/
def Rd {α : Type} (d : Kd α) (A : Option Addr) (n : Nat) (xs : List α) : HP where
  P W ok := (∀ W' : World, (∀ k, ok k → W'.heap[k]? = W.heap[k]?) → d.C W' A n xs) ∧ ∀ k, ok k → k < W.heap.size
  loc := fun {W W' ok} h hm => ⟨fun W2 h2 => h.1 W2 (fun k hk => (h2 k hk).trans (hm k hk)), fun k hk => by
      have := hm k hk
      rw [Array.getElem?_eq_getElem (h.2 k hk)] at this
      exact (Array.getElem?_eq_some_iff.1 this).1⟩
  bnd := fun h => h.2
namespace Sep
variable {w0 W W' W2 : World} {L L' F R : List HP} {p q r s t u : HP}
theorem start (w : World) : Sep w w [] := ⟨rfl, rfl, rfl, Nat.le_refl _, fun _ _ => rfl, trivial⟩
theorem toBelow (h : Sep w0 W L) : Below w0.heap.size w0 W := ⟨h.os, h.tape, h.output, h.size, h.old⟩
theorem perm (h : Sep w0 W L) (hp : L.Perm L') : Sep w0 W L' := ⟨h.os, h.tape, h.output, h.size, h.old, h.sep.perm hp⟩
theorem at2 (h : Sep w0 W (p :: q :: F)) : Sep w0 W (q :: p :: F) := h.perm (.swap _ _ _)
theorem at3 (h : Sep w0 W (p :: q :: r :: F)) : Sep w0 W (r :: p :: q :: F) := h.perm ((List.Perm.cons p (.swap _ _ _)).trans (.swap _ _ _))
theorem sw23 (h : Sep w0 W (p :: q :: r :: F)) : Sep w0 W (p :: r :: q :: F) := h.perm (.cons _ (.swap _ _ _))
theorem to3 (h : Sep w0 W (p :: q :: r :: F)) : Sep w0 W (q :: r :: p :: F) := h.perm ((List.Perm.swap _ _ _).trans (.cons _ (.swap _ _ _)))
theorem at4 (h : Sep w0 W (p :: q :: r :: s :: F)) : Sep w0 W (s :: p :: q :: r :: F) := (h.perm (.cons p ((List.Perm.cons q (.swap _ _ _)).trans (.swap _ _ _)))).at2
theorem to4 (h : Sep w0 W (p :: q :: r :: s :: F)) : Sep w0 W (q :: r :: s :: p :: F) := h.at2.perm (.cons _ ((List.Perm.swap _ _ _).trans (.cons _ (.swap _ _ _))))
theorem at5 (h : Sep w0 W (p :: q :: r :: s :: t :: F)) : Sep w0 W (t :: p :: q :: r :: s :: F) := (h.perm (.cons p (.cons q ((List.Perm.cons r (.swap _ _ _)).trans (.swap _ _ _))))).at3
theorem tail (h : Sep w0 W (p :: F)) : Sep w0 W F := by
  obtain ⟨ok, _, _, h2⟩ := h.sep
  exact ⟨h.os, h.tape, h.output, h.size, h.old, h2.weaken (fun k hk => .inl hk)⟩
theorem drop2 (h : Sep w0 W (p :: q :: F)) : Sep w0 W (p :: F) := h.at2.tail
theorem weak (h : Sep w0 W (L ++ F)) : Sep w0 W F := by
  induction L with
  | nil => exact h
  | cons p L ih => exact ih h.tail
theorem weakR (h : Sep w0 W (L ++ F)) : Sep w0 W L := (h.perm List.perm_append_comm).weak
/-- What only makes, and draws. -/
theorem below (h : Sep w0 W L) (hb : Below W.heap.size W W') : Sep w0 W' L :=
  ⟨hb.os.trans h.os, hb.tape.trans h.tape, hb.output.trans h.output, Nat.le_trans h.size hb.size, fun k hk => (hb.block k (Nat.lt_of_lt_of_le hk h.size)).trans (h.old k hk), h.sep.move (fun k hk _ => hb.block k hk)⟩
theorem drew (h : Sep w0 W L) : Sep w0 W.drew L := h.below (below_drew (Below.refl _ _))
theorem drewN (h : Sep w0 W L) (n : Nat) : Sep w0 (W.drewN n) L := h.below (pw_below_drewN (Below.refl _ _) n)
theorem alloc (h : Sep w0 W L) (o : Obj) : Sep w0 (W.alloc o) L := h.below (below_alloc (Below.refl _ _) o)
/-- The step where the blocks are told ahead. -/
theorem stepOk {ok ok' : Nat → Prop} (h : Sep w0 W L) (hd : ∀ k, ok k → ¬ k < w0.heap.size) (hF : SepR W (fun k => k < w0.heap.size ∨ ok k) F) (hg : W'.os = W.os ∧ W'.tape = W.tape ∧ W'.output = W.output ∧ W.heap.size ≤ W'.heap.size)
    (hm : ∀ k, k < W.heap.size → ¬ ok k → W'.heap[k]? = W.heap[k]?) (hq : q.P W' ok') (hk' : ∀ k, ok' k → ok k ∨ W.heap.size ≤ k) : Sep w0 W' (q :: F) := by
  refine ⟨hg.1.trans h.os, hg.2.1.trans h.tape, hg.2.2.1.trans h.output, Nat.le_trans h.size hg.2.2.2, fun k hk => (hm k (Nat.lt_of_lt_of_le hk h.size) (fun ho => hd k ho hk)).trans (h.old k hk), ok', hq, fun k hk ha => ?_, ?_⟩
  · rcases hk' k hk with h1 | h1
    · exact hd k h1 ha
    · have := h.size; omega
  · have h1 := (hF.fresh).move (W' := W') (fun k hlt hn => hm k hlt (fun ho => hn (.inl (.inr ho))))
    exact h1.weaken (fun k hk => hk.elim (fun h3 => .inl (.inl h3)) (fun h3 => (hk' k h3).elim (fun h4 => .inl (.inr h4)) .inr))
/-- The step: the first resource is turned, what is new may be taken; all else stays. -/
theorem step (h : Sep w0 W (p :: F)) (hg : W'.os = W.os ∧ W'.tape = W.tape ∧ W'.output = W.output ∧ W.heap.size ≤ W'.heap.size)
    (hs : ∀ ok, p.P W ok → (∀ k, k < W.heap.size → ¬ ok k → W'.heap[k]? = W.heap[k]?) ∧ ∃ ok', q.P W' ok' ∧ ∀ k, ok' k → ok k ∨ W.heap.size ≤ k) : Sep w0 W' (q :: F) := by
  obtain ⟨ok, hp, hd, hF⟩ := h.sep
  obtain ⟨hm, ok', hq, hk'⟩ := hs ok hp
  exact h.stepOk hd hF hg hm hq hk'
/-- What is new: a resource of blocks that were not there. -/
theorem gain (h : Sep w0 W F) (hb : Below W.heap.size W W') {ok : Nat → Prop} (hq : q.P W' ok) (hk : ∀ k, ok k → W.heap.size ≤ k) : Sep w0 W' (q :: F) := by
  have h1 := h.below hb
  refine ⟨h1.os, h1.tape, h1.output, h1.size, h1.old, ok, hq, fun k ho ha => ?_, ?_⟩
  · have := hk k ho; have := h.size; omega
  · have h2 := (h.sep.fresh).move (W' := W') (fun k hlt _ => hb.block k hlt)
    exact h2.weaken (fun k hk2 => hk2.imp id (hk k))
/-- The frame: what a call that began at W has made, beside what there was. -/
theorem lift (h : Sep w0 W F) (hR : Sep W W' R) : Sep w0 W' (R ++ F) := by
  have h1 := h.below hR.toBelow
  refine ⟨h1.os, h1.tape, h1.output, h1.size, h1.old, SepR.app_of (ok := fun k => W.heap.size ≤ k) (fun k hk ha => by have := h.size; omega) (hR.sep.weaken (fun k hk => by omega)) ?_⟩
  exact (h.sep.fresh).move (W' := W') (fun k hlt _ => hR.toBelow.block k hlt)
theorem lift1 (h : Sep w0 W F) (hR : Sep W W' [p]) : Sep w0 W' (p :: F) := h.lift hR
theorem star (h : Sep w0 W (Star L :: F)) : Sep w0 W (L ++ F) := by
  obtain ⟨ok, hp, hd, hF⟩ := h.sep
  exact ⟨h.os, h.tape, h.output, h.size, h.old, SepR.app_of hd hp.2 hF⟩
theorem unstar (h : Sep w0 W (L ++ F)) : Sep w0 W (Star L :: F) := by
  obtain ⟨ok, hb, hd, h1, h2⟩ := SepR.of_app h.sep
  exact ⟨h.os, h.tape, h.output, h.size, h.old, ok, ⟨hb, h1⟩, hd, h2⟩
theorem ex {α : Type} {p : α → HP} (h : Sep w0 W (Ex p :: F)) : ∃ x, Sep w0 W (p x :: F) := by
  obtain ⟨ok, ⟨x, hp⟩, hd, hF⟩ := h.sep
  exact ⟨x, h.os, h.tape, h.output, h.size, h.old, ok, hp, hd, hF⟩
theorem unex {α : Type} {p : α → HP} (x : α) (h : Sep w0 W (p x :: F)) : Sep w0 W (Ex p :: F) := by
  obtain ⟨ok, hp, hd, hF⟩ := h.sep
  exact ⟨h.os, h.tape, h.output, h.size, h.old, ok, ⟨x, hp⟩, hd, hF⟩
theorem pu {φ : Prop} (h : Sep w0 W (Pu φ :: F)) : φ ∧ Sep w0 W F := by
  obtain ⟨ok, hp, hd, hF⟩ := h.sep
  exact ⟨hp.1, h.tail⟩
theorem unpu {φ : Prop} (hφ : φ) (h : Sep w0 W F) : Sep w0 W (Pu φ :: F) :=
  ⟨h.os, h.tape, h.output, h.size, h.old, fun _ => False, ⟨hφ, fun _ hf => hf⟩, fun _ hf => hf.elim, h.sep.weaken (fun k hk => hk.elim id (fun hf => hf.elim))⟩
/-- A resource told otherwise. -/
theorem imp (h : Sep w0 W (p :: F)) (hi : ∀ ok, p.P W ok → q.P W ok) : Sep w0 W (q :: F) := by
  obtain ⟨ok, hp, hd, hF⟩ := h.sep
  exact ⟨h.os, h.tape, h.output, h.size, h.old, ok, hi ok hp, hd, hF⟩
/-! ### blocks -/
section
variable {g : Nat} {ty : TypeId} {cs : Array Value} {es : Array MapEntry} {clock : Nat}
theorem blk (h : Sep w0 W (Blk g ty cs :: F)) : W.heap[g]? = some (.cells cs ty (0, 0)) := by
  obtain ⟨ok, hp, _⟩ := h.sep; exact hp.2
theorem cell (h : Sep w0 W (Blk g ty cs :: F)) (i : Nat) : W.cell? ⟨g, i, none⟩ = cs[i]? := cell_of_row W g i cs ty (0, 0) h.blk
theorem frozen (h : Sep w0 W (Blk g ty cs :: F)) (i : Nat) : W.frozen? ⟨g, i, none⟩ = false := by simp [World.frozen?, h.blk]
theorem blk_old (h : Sep w0 W (Blk g ty cs :: F)) : w0.heap.size ≤ g := by
  obtain ⟨ok, hp, hd, _⟩ := h.sep
  have := hd g ((hp.1 g).2 rfl); omega
theorem map (h : Sep w0 W (MapB g es clock :: F)) : W.heap[g]? = some (.map es clock) := by
  obtain ⟨ok, hp, _⟩ := h.sep; exact hp.2
theorem newBlk (h : Sep w0 W F) (t : TypeId) (cs : Array Value) : Sep w0 (W.alloc (.cells cs t)) (Blk W.heap.size t cs :: F) :=
  h.gain (below_alloc (Below.refl _ _) _) (ok := fun k => k = W.heap.size) ⟨fun _ => Iff.rfl, blk_new W _⟩ (fun k hk => by omega)
theorem newMap (h : Sep w0 W F) : Sep w0 (W.alloc (.map #[] 0)) (MapB W.heap.size #[] 0 :: F) :=
  h.gain (below_alloc (Below.refl _ _) _) (ok := fun k => k = W.heap.size) ⟨fun _ => Iff.rfl, blk_new W _⟩ (fun k hk => by omega)
theorem setBlk (h : Sep w0 W (Blk g ty cs :: F)) (i : Nat) (u : Value) : Sep w0 (W.setCell ⟨g, i, none⟩ u) (Blk g ty (cs.setIfInBounds i u) :: F) :=
  h.step ⟨rfl, rfl, rfl, by simp [World.setCell]⟩ (fun ok hp => ⟨fun k _ hn => Below.heap_setCell W _ u k (fun he => hn ((hp.1 k).2 he)), ok, ⟨hp.1, by
    have := hp.2
    simp [World.setCell, Array.getElem?_modify, this]⟩, fun k hk => .inl hk⟩)
theorem setMap (h : Sep w0 W (MapB g es clock :: F)) (es' : Array MapEntry) (clock' : Nat) : Sep w0 { W with heap := W.heap.setIfInBounds g (.map es' clock') } (MapB g es' clock' :: F) :=
  h.step ⟨rfl, rfl, rfl, by simp⟩ (fun ok hp => ⟨fun k _ hn => by
    have hne : g ≠ k := fun he => hn ((hp.1 k).2 he.symm)
    simp [Array.getElem?_setIfInBounds, hne], ok, ⟨hp.1, by
    have hlt := blk_lt hp.2
    simp [Array.getElem?_setIfInBounds, hlt]⟩, fun k hk => .inl hk⟩)
end
/-! ### rows -/
section
variable {α : Type} {d : Kd α} {e n c : Nat} {v : Value} {A : Option Addr} {xs : List α}
theorem row (h : Sep w0 W (Row d e v xs :: F)) : ∃ ok, d.R e W 0 ok v xs := by
  obtain ⟨ok, hp, _⟩ := h.sep; exact ⟨ok, hp.1⟩
theorem rowV (h : Sep w0 W (Row d e v xs :: F)) : ∃ A c, v = .slice A xs.length c := by
  obtain ⟨ok, hr⟩ := h.row; exact Kd.R_slice hr
theorem rowN (h : Sep w0 W (Row d e v xs :: F)) (hn : xs.length = n) : ∃ A c, v = .slice A n c := by
  subst hn; exact h.rowV
theorem rowC (h : Sep w0 W (Row d e (.slice A n c) xs :: F)) : n = xs.length ∧ n ≤ c ∧ d.C W A xs.length xs := by
  obtain ⟨ok, hr⟩ := h.row; exact Kd.R_reads' hr
theorem rowForm (h : Sep w0 W (Row d e v xs :: F)) (hp : 0 < xs.length) : ∃ g cap, v = .slice (some ⟨g, 0, none⟩) xs.length cap := by
  obtain ⟨ok, hr⟩ := h.row
  obtain ⟨g, cap, hv, _⟩ := Kd.R_form hr hp
  exact ⟨g, cap, hv⟩
theorem rowFormN (h : Sep w0 W (Row d e v xs :: F)) (hn : xs.length = n) (hp : 0 < n) : ∃ g cap, v = .slice (some ⟨g, 0, none⟩) n cap := by
  subst hn; exact h.rowForm hp
/-- A row that a call has made. -/
theorem newRow {ok : Nat → Prop} (h : Sep w0 W F) (hr : d.R e W' W.heap.size ok v xs) (hb : Below W.heap.size W W') : Sep w0 W' (Row d e v xs :: F) :=
  h.gain hb (ok := fun k => ok k ∧ W.heap.size ≤ k ∧ k < W'.heap.size) ⟨Kd.R_lower (Kd.R_mono (Kd.R_bound hr) (fun k hk => ⟨hk.1, hk.2.1, hk.2.2.1⟩)) (Nat.zero_le _), fun k hk => hk.2.2⟩ (fun k hk => hk.2.1)
theorem nilRow (h : Sep w0 W F) (d : Kd α) (e : Nat) : Sep w0 W (Row d e (.slice none 0 0) [] :: F) :=
  h.gain (Below.refl _ _) (ok := fun _ => False) ⟨Kd.R_nil _ _ _ _ _, fun _ hf => hf.elim⟩ (fun _ hf => hf.elim)
/-- Out of a resource, what a printed contract asks of a row of the caller's. -/
theorem rowRd (h : Sep w0 W (Row d e (.slice A n c) xs :: F)) : Sep w0 W (Rd d A n xs :: F) := by
  refine h.imp (fun ok hp => ⟨fun W' hm => ?_, hp.2⟩)
  have h2 := Kd.R_reads' (Kd.R_move hp.1 hm)
  rw [h2.1]; exact h2.2.2
theorem rd (h : Sep w0 W (Rd d A n xs :: F)) : d.C W A n xs := by
  obtain ⟨ok, hp, _⟩ := h.sep; exact hp.1 W (fun _ _ => rfl)
end
section
variable {α : Type} {enc : α → Value} {h1 : ∀ x, (enc x).oneCell' = true} {e g n cap : Nat} {xs : List α}
theorem rowCell (d : α) (h : Sep w0 W (Row (Kd.scalar enc h1) e (.slice (some ⟨g, 0, none⟩) n cap) xs :: F)) (i : Nat) (hi : i < n) : W.cell? ⟨g, i, none⟩ = some (enc (xs.getD i d)) ∧ W.frozen? ⟨g, i, none⟩ = false := by
  obtain ⟨ok, hr⟩ := h.row
  have := Kd.R_celln d hr (i : Int) (by omega) (by omega)
  simpa [rdOf] using this
theorem putRow (h : Sep w0 W (Row (Kd.scalar enc h1) e (.slice (some ⟨g, 0, none⟩) n cap) xs :: F)) (i : Nat) (x : α) :
    Sep w0 (W.setCell ⟨g, i, none⟩ (enc x)) (Row (Kd.scalar enc h1) e (.slice (some ⟨g, 0, none⟩) n cap) (xs.set i x) :: F) :=
  h.step ⟨rfl, rfl, rfl, by simp [World.setCell]⟩ (fun ok hp => ⟨fun k _ hn => Below.heap_setCell W _ _ k (fun he => hn (by
      have := hp.1.1 g rfl
      rw [he]; exact this)), ok, ⟨by
    have := (Kd.R_putg hp.1 (i : Int) x).1
    simpa using this, fun k hk => by simpa [World.setCell] using hp.2 k hk⟩, fun k hk => .inl hk⟩)
end
/-! ### append -/
section
variable {P : Program} {ops : Array Oper} {rest : List Oper} {o : Oper} {a : Act} {Q : Exit → Act → World → Prop} {α : Type} {enc : α → Value} {h1 : ∀ x, (enc x).oneCell' = true}
theorem rowGrown {α : Type} {d : Kd α} {e : Nat} {v v1 : Value} {xs ys : List α} {ok : Nat → Prop} (h : Sep w0 W (Row d e v xs :: F))
    (hs : ∀ ok, d.R e W 0 ok v xs → (∀ k, ok k → k < W.heap.size) → ∃ ok', d.R e W' 0 ok' v1 ys ∧ ∀ k, ok' k → ok k ∨ W.heap.size ≤ k) (hg : W.grownBy W' v.ownBlock) : Sep w0 W' (Row d e v1 ys :: F) :=
  h.step ⟨hg.os, hg.tape, hg.output, hg.size⟩ (fun ok hp => ⟨fun k hlt hn => hg.block k hlt (fun he => hn (hp.1.1 k he.symm)), by
    obtain ⟨ok', hr, hk⟩ := hs ok hp.1 hp.2
    exact ⟨fun k => ok' k ∧ k < W'.heap.size, ⟨Kd.R_mono (Kd.R_bound hr) (fun k hk => ⟨hk.1, hk.2.2.1⟩), fun k hk => hk.2⟩, fun k hk2 => hk k hk2.1⟩⟩)
/-- append(v, ys...) on a row of one's own, ys a row that is read: behind 'at_builtin'. -/
theorem appendRow {e : Nat} {v : Value} {xs ys : List α} (h : Sep w0 W (Row (Kd.scalar enc h1) e v xs :: F)) (hgd : o.guard = none) (s x : Operand) (t : TypeId) (z : Value) (bytes : Nat)
    (ho : o.op = .call { callee := .builtin .append, args := #[s, x], argTypes := #[t, t] })
    (ht : P.underlying t = some (.slice e)) (hinfo : (P.info? e).map (fun i => (i.zero, i.size, i.bytes)) = some (some z, 1, bytes)) (hz : z.cells.size = 1) (hb0 : 0 < bytes)
    (A : Option Addr) (m c : Nat) (hs : a.eval s = v) (hx : a.eval x = .slice A m c) (hC : (Kd.scalar enc h1).C W A m ys) (hl : (xs.length + ys.length) * bytes ≤ 140737488355328)
    (k : ∀ v1 w1, Sep w0 w1 (Row (Kd.scalar enc h1) e v1 (xs ++ ys) :: F) → wpList P ops Q rest (a.put o.dst v1) w1) : wpList P ops Q (o :: rest) a W := by
  obtain ⟨ok, hp, hd, hF⟩ := h.sep
  refine Kd.R_append_rows (Kd.scalar enc h1) (Rr := fun x cs => cs = [enc x]) (w0 := W) 0 hgd s x t e z bytes ho ht hinfo hz (by show 0 < 1; omega) hb0 v xs ys A m c (fun k => ok k ∨ W.heap.size ≤ k) (fun _ => False) hs hx
    (Kd.R_mono hp.1 (fun k hk => .inl hk)) hC (fun x cs h => h) (fun _ h => h.elim) (fun k hk => .inr hk) (Below.refl 0 W) (Nat.zero_le _) (by rw [← hC.1]; exact hl) (fun v1 w1 hr hb hg hat => k v1 w1 ?_)
  exact h.stepOk hd hF ⟨hg.os, hg.tape, hg.output, hg.size⟩ (fun k hlt hn => hg.block k hlt (fun he => hn (hp.1.1 k he.symm))) (ok' := fun k => (ok k ∨ W.heap.size ≤ k) ∧ k < w1.heap.size)
    ⟨Kd.R_mono (Kd.R_bound hr) (fun k hk => ⟨hk.1, hk.2.2.1⟩), fun k hk => hk.2⟩ (fun k hk => hk.1)
/-- The same as a step of a region that draws. -/
theorem appendStep {Kc : Act → World → Prop} {e : Nat} {v : Value} {xs ys : List α} (h : Sep w0 W (Row (Kd.scalar enc h1) e v xs :: F)) (hw : Region.wanted o (yielded ops a.tmps) = true) (s x : Operand) (t : TypeId) (z : Value) (bytes : Nat)
    (ho : o.op = .call { callee := .builtin .append, args := #[s, x], argTypes := #[t, t] })
    (ht : P.underlying t = some (.slice e)) (hinfo : (P.info? e).map (fun i => (i.zero, i.size, i.bytes)) = some (some z, 1, bytes)) (hz : z.cells.size = 1) (hb0 : 0 < bytes)
    (A : Option Addr) (m c : Nat) (hs : a.eval s = v) (hx : a.eval x = .slice A m c) (hC : (Kd.scalar enc h1).C W A m ys) (hl : (xs.length + ys.length) * bytes ≤ 140737488355328)
    (k : ∀ v1 w1, Sep w0 w1 (Row (Kd.scalar enc h1) e v1 (xs ++ ys) :: F) → Kc (a.put o.dst v1) w1) : if Region.wanted o (yielded ops a.tmps) = true then Oper.wp P o a W Kc Q else Kc (a.put o.dst undef) W := by
  obtain ⟨ok, hp, hd, hF⟩ := h.sep
  refine Kd.R_append_rows_step (Kd.scalar enc h1) (Rr := fun x cs => cs = [enc x]) (w0 := W) 0 hw s x t e z bytes ho ht hinfo hz (by show 0 < 1; omega) hb0 v xs ys A m c (fun k => ok k ∨ W.heap.size ≤ k) (fun _ => False) hs hx
    (Kd.R_mono hp.1 (fun k hk => .inl hk)) hC (fun x cs h => h) (fun _ h => h.elim) (fun k hk => .inr hk) (Below.refl 0 W) (Nat.zero_le _) (by rw [← hC.1]; exact hl) (fun v1 w1 hr hb hg hat => k v1 w1 ?_)
  exact h.stepOk hd hF ⟨hg.os, hg.tape, hg.output, hg.size⟩ (fun k hlt hn => hg.block k hlt (fun he => hn (hp.1.1 k he.symm))) (ok' := fun k => (ok k ∨ W.heap.size ≤ k) ∧ k < w1.heap.size)
    ⟨Kd.R_mono (Kd.R_bound hr) (fun k hk => ⟨hk.1, hk.2.2.1⟩), fun k hk => hk.2⟩ (fun k hk => hk.1)
/-- make([]T, n). -/
theorem madeRow {e : Nat} (d : α) (m : Nat) (h : Sep w0 W F) (hm : m ≤ 9223372036854775807) : Sep w0 (W.alloc (.cells (madeCells #[enc d] m) e)) (Row (Kd.scalar enc h1) e (.slice (some ⟨W.heap.size, 0, none⟩) m m) (List.replicate m d) :: F) :=
  h.newRow (ok := fun _ => True) (Kd.R_of_own (by rw [List.length_replicate]; exact own_made_of W W.heap.size e m (Nat.le_refl _) hm) (fun _ _ => trivial)) (below_alloc (Below.refl _ _) _)
/-- A literal's block. -/
theorem litRow {e : Nat} (xs : List α) (h : Sep w0 W F) (hm : xs.length ≤ 9223372036854775807) : Sep w0 (W.alloc (.cells (encs enc xs).toArray e)) (Row (Kd.scalar enc h1) e (.slice (some ⟨W.heap.size, 0, none⟩) xs.length xs.length) xs :: F) :=
  h.newRow (ok := fun _ => True) (Kd.R_of_own (own_lit_of W W.heap.size e xs (Nat.le_refl _) hm) (fun _ _ => trivial)) (below_alloc (Below.refl _ _) _)
end
end Sep
end Go.Proofs.Ytkkgfpdjlohojaa.Kit
