/- Sep, Bits, Bytes, Fx, Raw, RowF, Elem, Zero, Base, CutsAny, Cuts, Deep, RowV, Equal in one. -/
import Derived.Test.YtjngnigelkgekaaWShare
import Derived.Test.YtjngnigelkgekaaWLast
import Derived.Test.YtjngnigelkgekaaWMore
import Derived.Test.YtjngnigelkgekaaWApart
import Derived.Test.YtjngnigelkgekaaWZeros
import Derived.Test.YtjngnigelkgekaaProg
import Derived.WalkKit
import Derived.KernelRfl
import Derived.WalkSpells
import Derived.Deep.QuietTactic
import Derived.BigQuiet
import Derived.Deep.LoopGhost
/- Resources that lie apart: each with the blocks that it lies in; what a step does to one leaves the others as they were. -/
namespace Go.Proofs.Ytjngnigelkgekaa.Kit
set_option linter.unusedVariables false
set_option linter.unusedSimpArgs false
open Go.RowKit Go.Proofs.YtjngnigelkgekaaW.PrintWords Go.Proofs.YtjngnigelkgekaaW.PrintLast Go.Proofs.YtjngnigelkgekaaW.PrintMore
/-- A resource: what holds of a world, told with the blocks that it lies in. -/
structure HP where
  P : World → (Nat → Prop) → Prop
  loc : ∀ {W W' : World} {ok : Nat → Prop}, P W ok → (∀ k, ok k → W'.heap[k]? = W.heap[k]?) → P W' ok
  bnd : ∀ {W : World} {ok : Nat → Prop}, P W ok → ∀ k, ok k → k < W.heap.size
/-- Resources that lie apart from each other and from what is to be avoided. -/
def SepR (W : World) : (Nat → Prop) → List HP → Prop
  | _, [] => True
  | av, p :: L => ∃ ok, p.P W ok ∧ (∀ k, ok k → ¬ av k) ∧ SepR W (fun k => av k ∨ ok k) L
namespace SepR
variable {W W' : World} {av av' : Nat → Prop} {L L' F : List HP} {p q p' : HP}
theorem weaken : ∀ {L : List HP} {av av' : Nat → Prop}, (∀ k, av' k → av k) → SepR W av L → SepR W av' L
  | [], _, _, _, _ => trivial
  | p :: L, _, _, hs, ⟨ok, hp, hd, h⟩ => ⟨ok, hp, fun k hk ha => hd k hk (hs k ha), weaken (fun k hk => hk.imp (hs k) id) h⟩
theorem move : ∀ {L : List HP} {av : Nat → Prop}, SepR W av L → (∀ k, k < W.heap.size → ¬ av k → W'.heap[k]? = W.heap[k]?) → SepR W' av L
  | [], _, _, _ => trivial
  | p :: L, _, ⟨ok, hp, hd, h⟩, hm => ⟨ok, p.loc hp (fun k hk => hm k (p.bnd hp k hk) (hd k hk)), hd, move h (fun k hlt hn => hm k hlt (fun ha => hn (.inl ha)))⟩
theorem swap (h : SepR W av (p :: q :: L)) : SepR W av (q :: p :: L) := by
  obtain ⟨op, hp, dp, oq, hq, dq, h⟩ := h
  exact ⟨oq, hq, fun k hk ha => dq k hk (.inl ha), op, hp, fun k hk ha => ha.elim (dp k hk) (fun ho => dq k ho (.inr hk)), weaken (fun k (hk : (av k ∨ oq k) ∨ op k) => hk.elim (fun h3 => h3.elim (fun h1 => .inl (.inl h1)) .inr) (fun h2 => .inl (.inr h2))) h⟩
theorem perm (hp : L.Perm L') : ∀ {av : Nat → Prop}, SepR W av L → SepR W av L' := by
  induction hp with
  | nil => exact fun h => h
  | cons x _ ih => exact fun ⟨ok, hx, hd, h⟩ => ⟨ok, hx, hd, ih h⟩
  | swap x y l => exact fun h => swap h
  | trans _ _ ih1 ih2 => exact fun h => ih2 (ih1 h)
theorem app_of : ∀ {L : List HP} {av ok : Nat → Prop}, (∀ k, ok k → ¬ av k) → SepR W (fun k => ¬ ok k) L → SepR W (fun k => av k ∨ ok k) F → SepR W av (L ++ F)
  | [], _, _, _, _, h => weaken (fun k hk => .inl hk) h
  | p :: L, av, ok, hd, ⟨op, hp, dp, h⟩, hF => by
    refine ⟨op, hp, fun k hk => hd k (Classical.not_not.1 (dp k hk)), app_of (ok := fun k => ok k ∧ ¬ op k) (fun k hk ha => ha.elim (hd k hk.1) hk.2) (weaken (fun k hk => ?_) h) (weaken (fun k hk => ?_) hF)⟩
    · by_cases h1 : ok k
      · exact .inr (Classical.not_not.1 (fun h2 => hk ⟨h1, h2⟩))
      · exact .inl h1
    · rcases hk with (h1 | h2) | h3
      · exact .inl h1
      · exact .inr (Classical.not_not.1 (dp k h2))
      · exact .inr h3.1
theorem of_app : ∀ {L : List HP} {av : Nat → Prop}, SepR W av (L ++ F) → ∃ ok : Nat → Prop, (∀ k, ok k → k < W.heap.size) ∧ (∀ k, ok k → ¬ av k) ∧ SepR W (fun k => ¬ ok k) L ∧ SepR W (fun k => av k ∨ ok k) F
  | [], _, h => ⟨fun _ => False, fun _ hf => hf.elim, fun _ hf => hf.elim, trivial, weaken (fun k hk => hk.elim id (fun hf => hf.elim)) h⟩
  | p :: L, av, ⟨op, hp, dp, h⟩ => by
    obtain ⟨o1, hb, hd, h1, h2⟩ := of_app h
    refine ⟨fun k => op k ∨ o1 k, fun k hk => hk.elim (p.bnd hp k) (hb k), fun k hk => hk.elim (dp k) (fun ho ha => hd k ho (.inl ha)), ⟨op, hp, fun k hk hn => hn (.inl hk), weaken (fun k hk ho => ?_) h1⟩, weaken (fun k hk => ?_) h2⟩
    · rcases hk with h3 | h3
      · exact h3 (.inr ho)
      · exact hd k ho (.inr h3)
    · rcases hk with h3 | h3 | h3
      · exact .inl (.inl h3)
      · exact .inl (.inr h3)
      · exact .inr h3
/-- Nothing lies in what is not there yet. -/
theorem fresh : ∀ {L : List HP} {av : Nat → Prop}, SepR W av L → SepR W (fun k => av k ∨ W.heap.size ≤ k) L
  | [], _, _ => trivial
  | p :: L, av, ⟨ok, hp, hd, h⟩ => ⟨ok, hp, fun k hk ha => ha.elim (hd k hk) (fun h2 => by have := p.bnd hp k hk; omega), weaken (fun k (hk : (av k ∨ W.heap.size ≤ k) ∨ ok k) => hk.elim (fun h3 => h3.elim (fun h1 => .inl (.inl h1)) .inr) (fun h1 => .inl (.inr h1))) (fresh h)⟩
theorem head_in (h : SepR W (fun k => ¬ av k) (p :: L)) : ∃ ok, p.P W ok ∧ (∀ k, ok k → av k) := by
  obtain ⟨ok, hp, hd, _⟩ := h
  exact ⟨ok, hp, fun k hk => Classical.not_not.1 (hd k hk)⟩
end SepR
/-- Since w0 nothing that was there has turned; in W there are, apart from all that was there and from each other, the resources of L. -/
structure Sep (w0 W : World) (L : List HP) : Prop where
  os : W.os = w0.os
  tape : W.tape = w0.tape
  output : W.output = w0.output
  size : w0.heap.size ≤ W.heap.size
  old : ∀ k, k < w0.heap.size → W.heap[k]? = w0.heap[k]?
  sep : SepR W (fun k => k < w0.heap.size) L
/-- Some resources as one. -/
def Star (L : List HP) : HP where
  P W ok := (∀ k, ok k → k < W.heap.size) ∧ SepR W (fun k => ¬ ok k) L
  loc := fun {W W' ok} h hm => ⟨fun k hk => by
      have := hm k hk
      rw [Array.getElem?_eq_getElem (h.1 k hk)] at this
      exact (Array.getElem?_eq_some_iff.1 this).1, h.2.move (fun k _ hk => hm k (Classical.not_not.1 hk))⟩
  bnd := fun h => h.1
/-- One of a family. -/
def Ex {α : Type} (p : α → HP) : HP where
  P W ok := ∃ x, (p x).P W ok
  loc := fun ⟨x, h⟩ hm => ⟨x, (p x).loc h hm⟩
  bnd := fun ⟨x, h⟩ => (p x).bnd h
/-- What holds of no world. -/
def Pu (φ : Prop) : HP where
  P W ok := φ ∧ ∀ k, ¬ ok k
  loc := fun h _ => h
  bnd := fun h k hk => (h.2 k hk).elim
/-- A block of cells. -/
def Blk (g : Nat) (t : TypeId) (cs : Array Value) : HP where
  P W ok := (∀ k, ok k ↔ k = g) ∧ W.heap[g]? = some (.cells cs t (0, 0))
  loc := fun h hm => ⟨h.1, (hm _ ((h.1 _).2 rfl)).trans h.2⟩
  bnd := fun h k hk => by rw [(h.1 k).1 hk]; exact blk_lt h.2
/-- A block of a map. -/
def MapB (g : Nat) (es : Array MapEntry) (clock : Nat) : HP where
  P W ok := (∀ k, ok k ↔ k = g) ∧ W.heap[g]? = some (.map es clock)
  loc := fun h hm => ⟨h.1, (hm _ ((h.1 _).2 rfl)).trans h.2⟩
  bnd := fun h k hk => by rw [(h.1 k).1 hk]; exact blk_lt h.2
/-- A row of one's own. -/
def Row {α : Type} (d : Kd α) (e : Nat) (v : Value) (xs : List α) : HP where
  P W ok := d.R e W 0 ok v xs ∧ ∀ k, ok k → k < W.heap.size
  loc := fun {W W' ok} h hm => ⟨Kd.R_move h.1 hm, fun k hk => by
      have := hm k hk
      rw [Array.getElem?_eq_getElem (h.2 k hk)] at this
      exact (Array.getElem?_eq_some_iff.1 this).1⟩
  bnd := fun h => h.2
/-- A row that is only read. -/
def Rd {α : Type} (d : Kd α) (A : Option Addr) (n : Nat) (xs : List α) : HP where
  P W ok := (∀ W' : World, (∀ k, ok k → W'.heap[k]? = W.heap[k]?) → d.C W' A n xs) ∧ ∀ k, ok k → k < W.heap.size
  loc := fun {W W' ok} h hm => ⟨fun W2 h2 => h.1 W2 (fun k hk => (h2 k hk).trans (hm k hk)), fun k hk => by
      have := hm k hk
      rw [Array.getElem?_eq_getElem (h.2 k hk)] at this
      exact (Array.getElem?_eq_some_iff.1 this).1⟩
  bnd := fun h => h.2
namespace Sep
variable {w0 W W' W2 : World} {L L' F R : List HP} {p q r s t u : HP}
theorem start (w : World) : Sep w w [] := ⟨rfl, rfl, rfl, Nat.le_refl _, fun _ _ => rfl, trivial⟩
theorem toBelow (h : Sep w0 W L) : Below w0.heap.size w0 W := ⟨h.os, h.tape, h.output, h.size, h.old⟩
theorem perm (h : Sep w0 W L) (hp : L.Perm L') : Sep w0 W L' := ⟨h.os, h.tape, h.output, h.size, h.old, h.sep.perm hp⟩
theorem at2 (h : Sep w0 W (p :: q :: F)) : Sep w0 W (q :: p :: F) := h.perm (.swap _ _ _)
theorem at3 (h : Sep w0 W (p :: q :: r :: F)) : Sep w0 W (r :: p :: q :: F) := h.perm ((List.Perm.cons p (.swap _ _ _)).trans (.swap _ _ _))
theorem sw23 (h : Sep w0 W (p :: q :: r :: F)) : Sep w0 W (p :: r :: q :: F) := h.perm (.cons _ (.swap _ _ _))
theorem to3 (h : Sep w0 W (p :: q :: r :: F)) : Sep w0 W (q :: r :: p :: F) := h.perm ((List.Perm.swap _ _ _).trans (.cons _ (.swap _ _ _)))
theorem at4 (h : Sep w0 W (p :: q :: r :: s :: F)) : Sep w0 W (s :: p :: q :: r :: F) := (h.perm (.cons p ((List.Perm.cons q (.swap _ _ _)).trans (.swap _ _ _)))).at2
theorem to4 (h : Sep w0 W (p :: q :: r :: s :: F)) : Sep w0 W (q :: r :: s :: p :: F) := h.at2.perm (.cons _ ((List.Perm.swap _ _ _).trans (.cons _ (.swap _ _ _))))
theorem at5 (h : Sep w0 W (p :: q :: r :: s :: t :: F)) : Sep w0 W (t :: p :: q :: r :: s :: F) := (h.perm (.cons p (.cons q ((List.Perm.cons r (.swap _ _ _)).trans (.swap _ _ _))))).at3
theorem tail (h : Sep w0 W (p :: F)) : Sep w0 W F := by
  obtain ⟨ok, _, _, h2⟩ := h.sep
  exact ⟨h.os, h.tape, h.output, h.size, h.old, h2.weaken (fun k hk => .inl hk)⟩
theorem drop2 (h : Sep w0 W (p :: q :: F)) : Sep w0 W (p :: F) := h.at2.tail
theorem weak (h : Sep w0 W (L ++ F)) : Sep w0 W F := by
  induction L with
  | nil => exact h
  | cons p L ih => exact ih h.tail
theorem weakR (h : Sep w0 W (L ++ F)) : Sep w0 W L := (h.perm List.perm_append_comm).weak
/-- What only makes, and draws. -/
theorem below (h : Sep w0 W L) (hb : Below W.heap.size W W') : Sep w0 W' L :=
  ⟨hb.os.trans h.os, hb.tape.trans h.tape, hb.output.trans h.output, Nat.le_trans h.size hb.size, fun k hk => (hb.block k (Nat.lt_of_lt_of_le hk h.size)).trans (h.old k hk), h.sep.move (fun k hk _ => hb.block k hk)⟩
theorem drew (h : Sep w0 W L) : Sep w0 W.drew L := h.below (below_drew (Below.refl _ _))
theorem drewN (h : Sep w0 W L) (n : Nat) : Sep w0 (W.drewN n) L := h.below (pw_below_drewN (Below.refl _ _) n)
theorem alloc (h : Sep w0 W L) (o : Obj) : Sep w0 (W.alloc o) L := h.below (below_alloc (Below.refl _ _) o)
/-- The step where the blocks are told ahead. -/
theorem stepOk {ok ok' : Nat → Prop} (h : Sep w0 W L) (hd : ∀ k, ok k → ¬ k < w0.heap.size) (hF : SepR W (fun k => k < w0.heap.size ∨ ok k) F) (hg : W'.os = W.os ∧ W'.tape = W.tape ∧ W'.output = W.output ∧ W.heap.size ≤ W'.heap.size)
    (hm : ∀ k, k < W.heap.size → ¬ ok k → W'.heap[k]? = W.heap[k]?) (hq : q.P W' ok') (hk' : ∀ k, ok' k → ok k ∨ W.heap.size ≤ k) : Sep w0 W' (q :: F) := by
  refine ⟨hg.1.trans h.os, hg.2.1.trans h.tape, hg.2.2.1.trans h.output, Nat.le_trans h.size hg.2.2.2, fun k hk => (hm k (Nat.lt_of_lt_of_le hk h.size) (fun ho => hd k ho hk)).trans (h.old k hk), ok', hq, fun k hk ha => ?_, ?_⟩
  · rcases hk' k hk with h1 | h1
    · exact hd k h1 ha
    · have := h.size; omega
  · have h1 := (hF.fresh).move (W' := W') (fun k hlt hn => hm k hlt (fun ho => hn (.inl (.inr ho))))
    exact h1.weaken (fun k hk => hk.elim (fun h3 => .inl (.inl h3)) (fun h3 => (hk' k h3).elim (fun h4 => .inl (.inr h4)) .inr))
/-- The step: the first resource is turned, what is new may be taken; all else stays. -/
theorem step (h : Sep w0 W (p :: F)) (hg : W'.os = W.os ∧ W'.tape = W.tape ∧ W'.output = W.output ∧ W.heap.size ≤ W'.heap.size)
    (hs : ∀ ok, p.P W ok → (∀ k, k < W.heap.size → ¬ ok k → W'.heap[k]? = W.heap[k]?) ∧ ∃ ok', q.P W' ok' ∧ ∀ k, ok' k → ok k ∨ W.heap.size ≤ k) : Sep w0 W' (q :: F) := by
  obtain ⟨ok, hp, hd, hF⟩ := h.sep
  obtain ⟨hm, ok', hq, hk'⟩ := hs ok hp
  exact h.stepOk hd hF hg hm hq hk'
/-- What is new: a resource of blocks that were not there. -/
theorem gain (h : Sep w0 W F) (hb : Below W.heap.size W W') {ok : Nat → Prop} (hq : q.P W' ok) (hk : ∀ k, ok k → W.heap.size ≤ k) : Sep w0 W' (q :: F) := by
  have h1 := h.below hb
  refine ⟨h1.os, h1.tape, h1.output, h1.size, h1.old, ok, hq, fun k ho ha => ?_, ?_⟩
  · have := hk k ho; have := h.size; omega
  · have h2 := (h.sep.fresh).move (W' := W') (fun k hlt _ => hb.block k hlt)
    exact h2.weaken (fun k hk2 => hk2.imp id (hk k))
/-- The frame: what a call that began at W has made, beside what there was. -/
theorem lift (h : Sep w0 W F) (hR : Sep W W' R) : Sep w0 W' (R ++ F) := by
  have h1 := h.below hR.toBelow
  refine ⟨h1.os, h1.tape, h1.output, h1.size, h1.old, SepR.app_of (ok := fun k => W.heap.size ≤ k) (fun k hk ha => by have := h.size; omega) (hR.sep.weaken (fun k hk => by omega)) ?_⟩
  exact (h.sep.fresh).move (W' := W') (fun k hlt _ => hR.toBelow.block k hlt)
theorem lift1 (h : Sep w0 W F) (hR : Sep W W' [p]) : Sep w0 W' (p :: F) := h.lift hR
theorem star (h : Sep w0 W (Star L :: F)) : Sep w0 W (L ++ F) := by
  obtain ⟨ok, hp, hd, hF⟩ := h.sep
  exact ⟨h.os, h.tape, h.output, h.size, h.old, SepR.app_of hd hp.2 hF⟩
theorem unstar (h : Sep w0 W (L ++ F)) : Sep w0 W (Star L :: F) := by
  obtain ⟨ok, hb, hd, h1, h2⟩ := SepR.of_app h.sep
  exact ⟨h.os, h.tape, h.output, h.size, h.old, ok, ⟨hb, h1⟩, hd, h2⟩
theorem ex {α : Type} {p : α → HP} (h : Sep w0 W (Ex p :: F)) : ∃ x, Sep w0 W (p x :: F) := by
  obtain ⟨ok, ⟨x, hp⟩, hd, hF⟩ := h.sep
  exact ⟨x, h.os, h.tape, h.output, h.size, h.old, ok, hp, hd, hF⟩
theorem unex {α : Type} {p : α → HP} (x : α) (h : Sep w0 W (p x :: F)) : Sep w0 W (Ex p :: F) := by
  obtain ⟨ok, hp, hd, hF⟩ := h.sep
  exact ⟨h.os, h.tape, h.output, h.size, h.old, ok, ⟨x, hp⟩, hd, hF⟩
theorem pu {φ : Prop} (h : Sep w0 W (Pu φ :: F)) : φ ∧ Sep w0 W F := by
  obtain ⟨ok, hp, hd, hF⟩ := h.sep
  exact ⟨hp.1, h.tail⟩
theorem unpu {φ : Prop} (hφ : φ) (h : Sep w0 W F) : Sep w0 W (Pu φ :: F) :=
  ⟨h.os, h.tape, h.output, h.size, h.old, fun _ => False, ⟨hφ, fun _ hf => hf⟩, fun _ hf => hf.elim, h.sep.weaken (fun k hk => hk.elim id (fun hf => hf.elim))⟩
/-- A resource told otherwise. -/
theorem imp (h : Sep w0 W (p :: F)) (hi : ∀ ok, p.P W ok → q.P W ok) : Sep w0 W (q :: F) := by
  obtain ⟨ok, hp, hd, hF⟩ := h.sep
  exact ⟨h.os, h.tape, h.output, h.size, h.old, ok, hi ok hp, hd, hF⟩
/-! ### blocks -/
section
variable {g : Nat} {ty : TypeId} {cs : Array Value} {es : Array MapEntry} {clock : Nat}
theorem blk (h : Sep w0 W (Blk g ty cs :: F)) : W.heap[g]? = some (.cells cs ty (0, 0)) := by
  obtain ⟨ok, hp, _⟩ := h.sep; exact hp.2
theorem cell (h : Sep w0 W (Blk g ty cs :: F)) (i : Nat) : W.cell? ⟨g, i, none⟩ = cs[i]? := cell_of_row W g i cs ty (0, 0) h.blk
theorem frozen (h : Sep w0 W (Blk g ty cs :: F)) (i : Nat) : W.frozen? ⟨g, i, none⟩ = false := by simp [World.frozen?, h.blk]
theorem blk_old (h : Sep w0 W (Blk g ty cs :: F)) : w0.heap.size ≤ g := by
  obtain ⟨ok, hp, hd, _⟩ := h.sep
  have := hd g ((hp.1 g).2 rfl); omega
theorem map (h : Sep w0 W (MapB g es clock :: F)) : W.heap[g]? = some (.map es clock) := by
  obtain ⟨ok, hp, _⟩ := h.sep; exact hp.2
theorem newBlk (h : Sep w0 W F) (t : TypeId) (cs : Array Value) : Sep w0 (W.alloc (.cells cs t)) (Blk W.heap.size t cs :: F) :=
  h.gain (below_alloc (Below.refl _ _) _) (ok := fun k => k = W.heap.size) ⟨fun _ => Iff.rfl, blk_new W _⟩ (fun k hk => by omega)
theorem newMap (h : Sep w0 W F) : Sep w0 (W.alloc (.map #[] 0)) (MapB W.heap.size #[] 0 :: F) :=
  h.gain (below_alloc (Below.refl _ _) _) (ok := fun k => k = W.heap.size) ⟨fun _ => Iff.rfl, blk_new W _⟩ (fun k hk => by omega)
theorem setBlk (h : Sep w0 W (Blk g ty cs :: F)) (i : Nat) (u : Value) : Sep w0 (W.setCell ⟨g, i, none⟩ u) (Blk g ty (cs.setIfInBounds i u) :: F) :=
  h.step ⟨rfl, rfl, rfl, by simp [World.setCell]⟩ (fun ok hp => ⟨fun k _ hn => Below.heap_setCell W _ u k (fun he => hn ((hp.1 k).2 he)), ok, ⟨hp.1, by
    have := hp.2
    simp [World.setCell, Array.getElem?_modify, this]⟩, fun k hk => .inl hk⟩)
theorem setMap (h : Sep w0 W (MapB g es clock :: F)) (es' : Array MapEntry) (clock' : Nat) : Sep w0 { W with heap := W.heap.setIfInBounds g (.map es' clock') } (MapB g es' clock' :: F) :=
  h.step ⟨rfl, rfl, rfl, by simp⟩ (fun ok hp => ⟨fun k _ hn => by
    have hne : g ≠ k := fun he => hn ((hp.1 k).2 he.symm)
    simp [Array.getElem?_setIfInBounds, hne], ok, ⟨hp.1, by
    have hlt := blk_lt hp.2
    simp [Array.getElem?_setIfInBounds, hlt]⟩, fun k hk => .inl hk⟩)
end
/-! ### rows -/
section
variable {α : Type} {d : Kd α} {e n c : Nat} {v : Value} {A : Option Addr} {xs : List α}
theorem row (h : Sep w0 W (Row d e v xs :: F)) : ∃ ok, d.R e W 0 ok v xs := by
  obtain ⟨ok, hp, _⟩ := h.sep; exact ⟨ok, hp.1⟩
theorem rowV (h : Sep w0 W (Row d e v xs :: F)) : ∃ A c, v = .slice A xs.length c := by
  obtain ⟨ok, hr⟩ := h.row; exact Kd.R_slice hr
theorem rowN (h : Sep w0 W (Row d e v xs :: F)) (hn : xs.length = n) : ∃ A c, v = .slice A n c := by
  subst hn; exact h.rowV
theorem rowC (h : Sep w0 W (Row d e (.slice A n c) xs :: F)) : n = xs.length ∧ n ≤ c ∧ d.C W A xs.length xs := by
  obtain ⟨ok, hr⟩ := h.row; exact Kd.R_reads' hr
theorem rowForm (h : Sep w0 W (Row d e v xs :: F)) (hp : 0 < xs.length) : ∃ g cap, v = .slice (some ⟨g, 0, none⟩) xs.length cap := by
  obtain ⟨ok, hr⟩ := h.row
  obtain ⟨g, cap, hv, _⟩ := Kd.R_form hr hp
  exact ⟨g, cap, hv⟩
theorem rowFormN (h : Sep w0 W (Row d e v xs :: F)) (hn : xs.length = n) (hp : 0 < n) : ∃ g cap, v = .slice (some ⟨g, 0, none⟩) n cap := by
  subst hn; exact h.rowForm hp
/-- A row that a call has made. -/
theorem newRow {ok : Nat → Prop} (h : Sep w0 W F) (hr : d.R e W' W.heap.size ok v xs) (hb : Below W.heap.size W W') : Sep w0 W' (Row d e v xs :: F) :=
  h.gain hb (ok := fun k => ok k ∧ W.heap.size ≤ k ∧ k < W'.heap.size) ⟨Kd.R_lower (Kd.R_mono (Kd.R_bound hr) (fun k hk => ⟨hk.1, hk.2.1, hk.2.2.1⟩)) (Nat.zero_le _), fun k hk => hk.2.2⟩ (fun k hk => hk.2.1)
theorem nilRow (h : Sep w0 W F) (d : Kd α) (e : Nat) : Sep w0 W (Row d e (.slice none 0 0) [] :: F) :=
  h.gain (Below.refl _ _) (ok := fun _ => False) ⟨Kd.R_nil _ _ _ _ _, fun _ hf => hf.elim⟩ (fun _ hf => hf.elim)
/-- Out of a resource, what a printed contract asks of a row of the caller's. -/
theorem rowRd (h : Sep w0 W (Row d e (.slice A n c) xs :: F)) : Sep w0 W (Rd d A n xs :: F) := by
  refine h.imp (fun ok hp => ⟨fun W' hm => ?_, hp.2⟩)
  have h2 := Kd.R_reads' (Kd.R_move hp.1 hm)
  rw [h2.1]; exact h2.2.2
theorem rd (h : Sep w0 W (Rd d A n xs :: F)) : d.C W A n xs := by
  obtain ⟨ok, hp, _⟩ := h.sep; exact hp.1 W (fun _ _ => rfl)
end
section
variable {α : Type} {enc : α → Value} {h1 : ∀ x, (enc x).oneCell' = true} {e g n cap : Nat} {xs : List α}
theorem rowCell (d : α) (h : Sep w0 W (Row (Kd.scalar enc h1) e (.slice (some ⟨g, 0, none⟩) n cap) xs :: F)) (i : Nat) (hi : i < n) : W.cell? ⟨g, i, none⟩ = some (enc (xs.getD i d)) ∧ W.frozen? ⟨g, i, none⟩ = false := by
  obtain ⟨ok, hr⟩ := h.row
  have := Kd.R_celln d hr (i : Int) (by omega) (by omega)
  simpa [rdOf] using this
theorem putRow (h : Sep w0 W (Row (Kd.scalar enc h1) e (.slice (some ⟨g, 0, none⟩) n cap) xs :: F)) (i : Nat) (x : α) :
    Sep w0 (W.setCell ⟨g, i, none⟩ (enc x)) (Row (Kd.scalar enc h1) e (.slice (some ⟨g, 0, none⟩) n cap) (xs.set i x) :: F) :=
  h.step ⟨rfl, rfl, rfl, by simp [World.setCell]⟩ (fun ok hp => ⟨fun k _ hn => Below.heap_setCell W _ _ k (fun he => hn (by
      have := hp.1.1 g rfl
      rw [he]; exact this)), ok, ⟨by
    have := (Kd.R_putg hp.1 (i : Int) x).1
    simpa using this, fun k hk => by simpa [World.setCell] using hp.2 k hk⟩, fun k hk => .inl hk⟩)
end
/-! ### append -/
section
variable {P : Program} {ops : Array Oper} {rest : List Oper} {o : Oper} {a : Act} {Q : Exit → Act → World → Prop} {α : Type} {enc : α → Value} {h1 : ∀ x, (enc x).oneCell' = true}
theorem rowGrown {α : Type} {d : Kd α} {e : Nat} {v v1 : Value} {xs ys : List α} {ok : Nat → Prop} (h : Sep w0 W (Row d e v xs :: F))
    (hs : ∀ ok, d.R e W 0 ok v xs → (∀ k, ok k → k < W.heap.size) → ∃ ok', d.R e W' 0 ok' v1 ys ∧ ∀ k, ok' k → ok k ∨ W.heap.size ≤ k) (hg : W.grownBy W' v.ownBlock) : Sep w0 W' (Row d e v1 ys :: F) :=
  h.step ⟨hg.os, hg.tape, hg.output, hg.size⟩ (fun ok hp => ⟨fun k hlt hn => hg.block k hlt (fun he => hn (hp.1.1 k he.symm)), by
    obtain ⟨ok', hr, hk⟩ := hs ok hp.1 hp.2
    exact ⟨fun k => ok' k ∧ k < W'.heap.size, ⟨Kd.R_mono (Kd.R_bound hr) (fun k hk => ⟨hk.1, hk.2.2.1⟩), fun k hk => hk.2⟩, fun k hk2 => hk k hk2.1⟩⟩)
/-- append(v, ys...) on a row of one's own, ys a row that is read: behind 'at_builtin'. -/
theorem appendRow {e : Nat} {v : Value} {xs ys : List α} (h : Sep w0 W (Row (Kd.scalar enc h1) e v xs :: F)) (hgd : o.guard = none) (s x : Operand) (t : TypeId) (z : Value) (bytes : Nat)
    (ho : o.op = .call { callee := .builtin .append, args := #[s, x], argTypes := #[t, t] })
    (ht : P.underlying t = some (.slice e)) (hinfo : (P.info? e).map (fun i => (i.zero, i.size, i.bytes)) = some (some z, 1, bytes)) (hz : z.cells.size = 1) (hb0 : 0 < bytes)
    (A : Option Addr) (m c : Nat) (hs : a.eval s = v) (hx : a.eval x = .slice A m c) (hC : (Kd.scalar enc h1).C W A m ys) (hl : (xs.length + ys.length) * bytes ≤ 140737488355328)
    (k : ∀ v1 w1, Sep w0 w1 (Row (Kd.scalar enc h1) e v1 (xs ++ ys) :: F) → wpList P ops Q rest (a.put o.dst v1) w1) : wpList P ops Q (o :: rest) a W := by
  obtain ⟨ok, hp, hd, hF⟩ := h.sep
  refine Kd.R_append_rows (Kd.scalar enc h1) (Rr := fun x cs => cs = [enc x]) (w0 := W) 0 hgd s x t e z bytes ho ht hinfo hz (by show 0 < 1; omega) hb0 v xs ys A m c (fun k => ok k ∨ W.heap.size ≤ k) (fun _ => False) hs hx
    (Kd.R_mono hp.1 (fun k hk => .inl hk)) hC (fun x cs h => h) (fun _ h => h.elim) (fun k hk => .inr hk) (Below.refl 0 W) (Nat.zero_le _) (by rw [← hC.1]; exact hl) (fun v1 w1 hr hb hg hat => k v1 w1 ?_)
  exact h.stepOk hd hF ⟨hg.os, hg.tape, hg.output, hg.size⟩ (fun k hlt hn => hg.block k hlt (fun he => hn (hp.1.1 k he.symm))) (ok' := fun k => (ok k ∨ W.heap.size ≤ k) ∧ k < w1.heap.size)
    ⟨Kd.R_mono (Kd.R_bound hr) (fun k hk => ⟨hk.1, hk.2.2.1⟩), fun k hk => hk.2⟩ (fun k hk => hk.1)
/-- The same as a step of a region that draws. -/
theorem appendStep {Kc : Act → World → Prop} {e : Nat} {v : Value} {xs ys : List α} (h : Sep w0 W (Row (Kd.scalar enc h1) e v xs :: F)) (hw : Region.wanted o (yielded ops a.tmps) = true) (s x : Operand) (t : TypeId) (z : Value) (bytes : Nat)
    (ho : o.op = .call { callee := .builtin .append, args := #[s, x], argTypes := #[t, t] })
    (ht : P.underlying t = some (.slice e)) (hinfo : (P.info? e).map (fun i => (i.zero, i.size, i.bytes)) = some (some z, 1, bytes)) (hz : z.cells.size = 1) (hb0 : 0 < bytes)
    (A : Option Addr) (m c : Nat) (hs : a.eval s = v) (hx : a.eval x = .slice A m c) (hC : (Kd.scalar enc h1).C W A m ys) (hl : (xs.length + ys.length) * bytes ≤ 140737488355328)
    (k : ∀ v1 w1, Sep w0 w1 (Row (Kd.scalar enc h1) e v1 (xs ++ ys) :: F) → Kc (a.put o.dst v1) w1) : if Region.wanted o (yielded ops a.tmps) = true then Oper.wp P o a W Kc Q else Kc (a.put o.dst undef) W := by
  obtain ⟨ok, hp, hd, hF⟩ := h.sep
  refine Kd.R_append_rows_step (Kd.scalar enc h1) (Rr := fun x cs => cs = [enc x]) (w0 := W) 0 hw s x t e z bytes ho ht hinfo hz (by show 0 < 1; omega) hb0 v xs ys A m c (fun k => ok k ∨ W.heap.size ≤ k) (fun _ => False) hs hx
    (Kd.R_mono hp.1 (fun k hk => .inl hk)) hC (fun x cs h => h) (fun _ h => h.elim) (fun k hk => .inr hk) (Below.refl 0 W) (Nat.zero_le _) (by rw [← hC.1]; exact hl) (fun v1 w1 hr hb hg hat => k v1 w1 ?_)
  exact h.stepOk hd hF ⟨hg.os, hg.tape, hg.output, hg.size⟩ (fun k hlt hn => hg.block k hlt (fun he => hn (hp.1.1 k he.symm))) (ok' := fun k => (ok k ∨ W.heap.size ≤ k) ∧ k < w1.heap.size)
    ⟨Kd.R_mono (Kd.R_bound hr) (fun k hk => ⟨hk.1, hk.2.2.1⟩), fun k hk => hk.2⟩ (fun k hk => hk.1)
/-- make([]T, n). -/
theorem madeRow {e : Nat} (d : α) (m : Nat) (h : Sep w0 W F) (hm : m ≤ 9223372036854775807) : Sep w0 (W.alloc (.cells (madeCells #[enc d] m) e)) (Row (Kd.scalar enc h1) e (.slice (some ⟨W.heap.size, 0, none⟩) m m) (List.replicate m d) :: F) :=
  h.newRow (ok := fun _ => True) (Kd.R_of_own (by rw [List.length_replicate]; exact own_made_of W W.heap.size e m (Nat.le_refl _) hm) (fun _ _ => trivial)) (below_alloc (Below.refl _ _) _)
/-- A literal's block. -/
theorem litRow {e : Nat} (xs : List α) (h : Sep w0 W F) (hm : xs.length ≤ 9223372036854775807) : Sep w0 (W.alloc (.cells (encs enc xs).toArray e)) (Row (Kd.scalar enc h1) e (.slice (some ⟨W.heap.size, 0, none⟩) xs.length xs.length) xs :: F) :=
  h.newRow (ok := fun _ => True) (Kd.R_of_own (own_lit_of W W.heap.size e xs (Nat.le_refl _) hm) (fun _ _ => trivial)) (below_alloc (Below.refl _ _) _)
end
end Sep
end Go.Proofs.Ytjngnigelkgekaa.Kit

/- Plain laws on whole numbers of Go's kinds: wrapping, and, or, exclusive or, shifts. No condition. -/
namespace Go.Proofs.Ytjngnigelkgekaa.Plain
open Go Go.RowKit Go.Proofs.YtjngnigelkgekaaW.PrintWords Go.Proofs.YtjngnigelkgekaaW.PrintLast Go.Proofs.YtjngnigelkgekaaW.PrintMore

theorem wrap64_id {x : Int} (h0 : -9223372036854775808 ≤ x) (h1 : x ≤ 9223372036854775807) : wrap64 x = x := by
  unfold wrap64; omega
theorem wrap32_id {x : Int} (h0 : -2147483648 ≤ x) (h1 : x ≤ 2147483647) : wrap32 x = x := by
  unfold wrap32; omega
theorem i64_wf {x : Int} (h : (Lit.int .i64 x).wf = true) : -9223372036854775808 ≤ x ∧ x ≤ 9223372036854775807 := by
  simp only [Lit.wf, IntKind.min, IntKind.max, IntKind.signed, IntKind.bits, Bool.and_eq_true, decide_eq_true_eq, if_true] at h
  omega
theorem i32_wf {x : Int} (h : (Lit.int .i32 x).wf = true) : -2147483648 ≤ x ∧ x ≤ 2147483647 := by
  simp only [Lit.wf, IntKind.min, IntKind.max, IntKind.signed, IntKind.bits, Bool.and_eq_true, decide_eq_true_eq, if_true] at h
  omega
theorem u32_wf {x : Int} (h : (Lit.int .u32 x).wf = true) : 0 ≤ x ∧ x ≤ 4294967295 := by
  simp only [Lit.wf, IntKind.min, IntKind.max, IntKind.signed, IntKind.bits, Bool.and_eq_true] at h
  simp at h; omega
theorem u8_wf {x : Int} (h : (Lit.int .u8 x).wf = true) : 0 ≤ x ∧ x ≤ 255 := by
  simp only [Lit.wf, IntKind.min, IntKind.max, IntKind.signed, IntKind.bits, Bool.and_eq_true] at h
  simp at h; omega
theorem wrap_u64 (n : Int) : IntKind.u64.wrap n = n % 18446744073709551616 := by
  simp [IntKind.wrap, IntKind.bits, IntKind.signed]

theorem wrapNat (v : BitVec 64) : IntKind.i64.wrap (v.toNat : Int) = v.toInt := by
  rw [IntKind.wrap_i64, BitVec.toInt_eq_toNat_cond]
  have := v.isLt
  split <;> omega
theorem and64 (a b : Int) : bits .and .i64 a b = (BitVec.ofInt 64 a &&& BitVec.ofInt 64 b).toInt := wrapNat _
theorem or64 (a b : Int) : bits .or .i64 a b = (BitVec.ofInt 64 a ||| BitVec.ofInt 64 b).toInt := wrapNat _
theorem xor64 (a b : Int) : bits .xor .i64 a b = (BitVec.ofInt 64 a ^^^ BitVec.ofInt 64 b).toInt := wrapNat _
theorem ofInt_back {a : Int} (h0 : -9223372036854775808 ≤ a) (h1 : a ≤ 9223372036854775807) : (BitVec.ofInt 64 a).toInt = a := by
  rw [BitVec.toInt_ofInt, Int.bmod_def]
  split <;> omega
theorem xor_back {a b : Int} (h0 : -9223372036854775808 ≤ a) (h1 : a ≤ 9223372036854775807) : bits .xor .i64 (bits .xor .i64 a b) b = a := by
  rw [xor64, xor64, BitVec.ofInt_toInt, BitVec.xor_assoc, BitVec.xor_self, BitVec.xor_zero, ofInt_back h0 h1]

theorem natAnd (n a b : Nat) : (a &&& b) + (a ||| b) = a + b := by
  have : ∀ n a b : Nat, a < 2 ^ n → b < 2 ^ n → (a &&& b) + (a ||| b) = a + b := by
    intro n
    induction n with
    | zero => intro a b ha hb; have : a = 0 := by omega
              have : b = 0 := by omega
              subst_vars; rfl
    | succ n ih =>
      intro a b ha hb
      have h := ih (a / 2) (b / 2) (by omega) (by omega)
      have e1 : (a &&& b) / 2 = a / 2 &&& b / 2 := Nat.and_div_two ..
      have e2 : (a ||| b) / 2 = a / 2 ||| b / 2 := Nat.or_div_two ..
      have m1 : (a &&& b) % 2 = (a % 2) &&& (b % 2) := by
        have := Nat.and_mod_two_pow (a := a) (b := b) (n := 1); simpa using this
      have m2 : (a ||| b) % 2 = (a % 2) ||| (b % 2) := by
        have := Nat.or_mod_two_pow (a := a) (b := b) (n := 1); simpa using this
      have c : ((a % 2) &&& (b % 2)) + ((a % 2) ||| (b % 2)) = a % 2 + b % 2 := by
        rcases Nat.mod_two_eq_zero_or_one a with h1 | h1 <;> rcases Nat.mod_two_eq_zero_or_one b with h2 | h2 <;> rw [h1, h2] <;> rfl
      omega
  exact this (a + b + n) a b (Nat.lt_of_le_of_lt (by omega) Nat.lt_two_pow_self) (Nat.lt_of_le_of_lt (by omega) Nat.lt_two_pow_self)

theorem pow64 : ((2 ^ 64 : Nat) : Int) = 18446744073709551616 := by
  rw [show (2 : Nat) ^ 64 = 18446744073709551616 from by decide]
  rfl
theorem ofInt_toNat (a : Int) : ((BitVec.ofInt 64 a).toNat : Int) = a % 18446744073709551616 := by
  have h1 := BitVec.toNat_ofInt (n := 64) a
  rw [h1, pow64]
  exact Int.toNat_of_nonneg (Int.emod_nonneg _ (by decide))

theorem wrap64_shift (u K : Int) : wrap64 (u - 18446744073709551616 * K) = wrap64 u := by
  unfold wrap64; omega
theorem sum_wraps (a b : Int) (p q x y : Nat) (h : x + y = p + q) (ha : (p : Int) = a % 18446744073709551616) (hb : (q : Int) = b % 18446744073709551616) :
    wrap64 (((x : Int) + 9223372036854775808) % 18446744073709551616 - 9223372036854775808 + (((y : Int) + 9223372036854775808) % 18446744073709551616 - 9223372036854775808)) = wrap64 (a + b) := by
  obtain ⟨k1, h1⟩ : ∃ k1, ((x : Int) + 9223372036854775808) % 18446744073709551616 = (x : Int) + 9223372036854775808 - 18446744073709551616 * k1 := ⟨_, Int.emod_def ..⟩
  obtain ⟨k2, h2⟩ : ∃ k2, ((y : Int) + 9223372036854775808) % 18446744073709551616 = (y : Int) + 9223372036854775808 - 18446744073709551616 * k2 := ⟨_, Int.emod_def ..⟩
  obtain ⟨k3, h3⟩ : ∃ k3, (p : Int) = a - 18446744073709551616 * k3 := ⟨_, ha.trans (Int.emod_def ..)⟩
  obtain ⟨k4, h4⟩ : ∃ k4, (q : Int) = b - 18446744073709551616 * k4 := ⟨_, hb.trans (Int.emod_def ..)⟩
  rw [h1, h2]
  rw [← wrap64_shift (a + b) (k1 + k2 + k3 + k4)]
  clear h1 h2 ha hb
  congr 1
  omega
theorem and_or_sum (a b : Int) : wrap64 (bits .and .i64 a b + bits .or .i64 a b) = wrap64 (a + b) := by
  have h1 : bits .and .i64 a b = IntKind.i64.wrap ((BitVec.ofInt 64 a &&& BitVec.ofInt 64 b).toNat : Int) := rfl
  have h2 : bits .or .i64 a b = IntKind.i64.wrap ((BitVec.ofInt 64 a ||| BitVec.ofInt 64 b).toNat : Int) := rfl
  rw [h1, h2, IntKind.wrap_i64, IntKind.wrap_i64, BitVec.toNat_and, BitVec.toNat_or]
  exact sum_wraps a b _ _ _ _ (natAnd 0 _ _) (ofInt_toNat a) (ofInt_toNat b)

/-- the low six bits -/
theorem and63 (b : Int) : bits .and .i64 b 63 = b % 64 := by
  rw [and64]
  have e : (BitVec.ofInt 64 b &&& BitVec.ofInt 64 63).toNat = (BitVec.ofInt 64 b).toNat % 64 := by
    rw [BitVec.toNat_and]
    exact Nat.and_two_pow_sub_one_eq_mod _ 6
  have h := ofInt_toNat b
  rw [BitVec.toInt_eq_toNat_cond, e]
  split <;> omega
theorem and255 (b : Int) : bits .and .i64 b 255 = b % 256 := by
  rw [and64]
  have e : (BitVec.ofInt 64 b &&& BitVec.ofInt 64 255).toNat = (BitVec.ofInt 64 b).toNat % 256 := by
    rw [BitVec.toNat_and]
    exact Nat.and_two_pow_sub_one_eq_mod _ 8
  have h := ofInt_toNat b
  rw [BitVec.toInt_eq_toNat_cond, e]
  split <;> omega
theorem and7 (b : Int) : bits .and .i64 b 7 = b % 8 := by
  rw [and64]
  have e : (BitVec.ofInt 64 b &&& BitVec.ofInt 64 7).toNat = (BitVec.ofInt 64 b).toNat % 8 := by
    rw [BitVec.toNat_and]
    exact Nat.and_two_pow_sub_one_eq_mod _ 3
  have h := ofInt_toNat b
  rw [BitVec.toInt_eq_toNat_cond, e]
  split <;> omega

/-- one bit of a number, as the program asks it -/
theorem bitOf (n i : Nat) (hn : n < 2 ^ 64) (hi : i < 64) : bits .and .u64 (shr .u64 (n : Int) (i : Int)) 1 = ((n.testBit i).toNat : Int) := by
  have h : shr .u64 (n : Int) (i : Int) = ((n / 2 ^ i : Nat) : Int) := by
    unfold shr
    rw [show min ((i : Int).toNat) IntKind.u64.bits = i from by simp [IntKind.bits]; omega]
    simp
  rw [h]
  have hlt : n / 2 ^ i < 2 ^ 64 := Nat.lt_of_le_of_lt (Nat.div_le_self _ _) hn
  have hw : ∀ m : Int, 0 ≤ m → m < 2 ^ 64 → IntKind.u64.wrap m = m := fun m a b => by rw [wrap_u64]; omega
  have := (bits_nat .u64 64 (by decide) hw (n / 2 ^ i) 1 hlt (by decide)).1
  rw [show ((1 : Nat) : Int) = 1 from rfl] at this
  rw [this, Nat.and_one_is_mod, Nat.testBit_eq_decide_div_mod_eq]
  rcases Nat.mod_two_eq_zero_or_one (n / 2 ^ i) with h | h <;> rw [h] <;> rfl

theorem u64_ofInt (a : Int) : IntKind.u64.wrap a = ((BitVec.ofInt 64 a).toNat : Int) := by rw [wrap_u64, ofInt_toNat]
end Go.Proofs.Ytjngnigelkgekaa.Plain

/- Plain laws on rows of bytes: their sum, numbers laid in them by four bytes. No condition. -/
namespace Go.Proofs.Ytjngnigelkgekaa.Plain
open Go Go.RowKit Go.Proofs.YtjngnigelkgekaaW.PrintWords Go.Proofs.YtjngnigelkgekaaW.PrintLast Go.Proofs.YtjngnigelkgekaaW.PrintMore

/-- each is a byte -/
def Bytes (l : List Int) : Prop := ∀ x ∈ l, 0 ≤ x ∧ x ≤ 255
theorem Bytes.app {a b : List Int} (h : Bytes a) (k : Bytes b) : Bytes (a ++ b) := fun x hx => by
  rcases List.mem_append.mp hx with h1 | h1
  · exact h x h1
  · exact k x h1
theorem Bytes.nil : Bytes [] := fun x hx => by cases hx
theorem Bytes.cons {x : Int} {l : List Int} (h0 : 0 ≤ x) (h1 : x ≤ 255) (h : Bytes l) : Bytes (x :: l) := fun y hy => by
  rcases List.mem_cons.mp hy with rfl | hy
  · exact ⟨h0, h1⟩
  · exact h y hy
theorem Bytes.take {l : List Int} (h : Bytes l) (n : Nat) : Bytes (l.take n) := fun x hx => h x (List.mem_of_mem_take hx)
theorem Bytes.drop {l : List Int} (h : Bytes l) (n : Nat) : Bytes (l.drop n) := fun x hx => h x (List.mem_of_mem_drop hx)
theorem rd_mem {l : List Int} {i : Int} (h0 : 0 ≤ i) (h1 : i < l.length) : rd l i ∈ l := by
  have : i.toNat < l.length := by omega
  unfold rd
  rw [List.getD_eq_getElem?_getD, List.getElem?_eq_getElem this]
  exact List.getElem_mem _
theorem Bytes.at {l : List Int} (h : Bytes l) (i : Int) : 0 ≤ rd l i ∧ rd l i ≤ 255 := by
  by_cases hi : i.toNat < l.length
  · unfold rd
    rw [List.getD_eq_getElem?_getD, List.getElem?_eq_getElem hi]
    exact h _ (List.getElem_mem _)
  · unfold rd
    rw [List.getD_eq_getElem?_getD, List.getElem?_eq_none (by omega)]
    decide
theorem Bytes.of_wf {l : List Int} (h : ∀ x ∈ l, (Lit.int .u8 x).wf = true) : Bytes l := fun x hx => u8_wf (h x hx)

def stepF (h b : Int) : Int := (Go.bits .xor .u32 h (b % 4294967296) * 16777619) % 4294967296
def sumF (l : List Int) : Int := l.foldl stepF 2166136261
def put4 (n : Int) : List Int := [n / 16777216 % 256, n / 65536 % 256, n / 256 % 256, n % 256]
theorem put4_length (n : Int) : (put4 n).length = 4 := rfl
theorem put4_bytes (n : Int) : Bytes (put4 n) := fun x hx => by
  simp only [put4, List.mem_cons, List.not_mem_nil, or_false] at hx
  omega
def getF (l : List Int) (a : Int) : Int := if a < 0 ∨ (l.length : Int) - 4 < a then 0 else ((rd l a * 256 + rd l (a + 1)) * 256 + rd l (a + 2)) * 256 + rd l (a + 3)

theorem u32_mod (n : Int) : IntKind.u32.wrap n = n % 4294967296 := IntKind.wrap_u32 n
theorem wraps_u32 (n : Int) (h₀ : 0 ≤ n) (h₁ : n < 2 ^ 32) : IntKind.u32.wrap n = n := by rw [IntKind.wrap_u32]; omega
theorem or32 {i : Nat} {x y : Int} (hx₀ : 0 ≤ x) (hx : x % 2 ^ i = 0) (hx₁ : x < 4294967296) (hy₀ : 0 ≤ y) (hy : y < 2 ^ i) (hy₁ : y < 4294967296) : Go.bits .or .u32 x y = x + y :=
  bits_join .u32 32 (by decide) wraps_u32 i x y hx₀ hx (by simpa using hx₁) hy₀ hy (by simpa using hy₁)
/-- a byte more: n<<8 | c -/
theorem shift_in {x c : Int} (h0 : 0 ≤ x) (h1 : x < 16777216) (c0 : 0 ≤ c) (c1 : c ≤ 255) : Go.bits .or .u32 ((x * 256) % 4294967296) (c % 4294967296) = x * 256 + c := by
  have e1 : (x * 256) % 4294967296 = x * 256 := by omega
  have e2 : c % 4294967296 = c := by omega
  rw [e1, e2]
  exact or32 (i := 8) (by omega) (by omega) (by omega) c0 (by omega) (by omega)
theorem four_or {a b c d : Int} (a0 : 0 ≤ a) (a1 : a ≤ 255) (b0 : 0 ≤ b) (b1 : b ≤ 255) (c0 : 0 ≤ c) (c1 : c ≤ 255) (d0 : 0 ≤ d) (d1 : d ≤ 255) :
    Go.bits .or .u32 (Go.bits .or .u32 (Go.bits .or .u32 (((a % 4294967296) * 16777216) % 4294967296) (((b % 4294967296) * 65536) % 4294967296)) (((c % 4294967296) * 256) % 4294967296)) (d % 4294967296) = ((a * 256 + b) * 256 + c) * 256 + d := by
  have e1 : ((a % 4294967296) * 16777216) % 4294967296 = a * 16777216 := by omega
  have e2 : ((b % 4294967296) * 65536) % 4294967296 = b * 65536 := by omega
  have e3 : ((c % 4294967296) * 256) % 4294967296 = c * 256 := by omega
  have e4 : d % 4294967296 = d := by omega
  rw [e1, e2, e3, e4, or32 (i := 24) (x := a * 16777216) (y := b * 65536) (by omega) (by omega) (by omega) (by omega) (by omega) (by omega),
    or32 (i := 16) (x := a * 16777216 + b * 65536) (y := c * 256) (by omega) (by omega) (by omega) (by omega) (by omega) (by omega),
    or32 (i := 8) (x := a * 16777216 + b * 65536 + c * 256) (y := d) (by omega) (by omega) (by omega) (by omega) (by omega) (by omega)]
  omega
theorem shr32 (n : Int) (j : Nat) (hj : j ≤ 32) : shr .u32 n (j : Int) = n / 2 ^ j := by
  unfold shr
  rw [show min ((j : Int).toNat) IntKind.u32.bits = j from by simp [IntKind.bits]; omega]
end Go.Proofs.Ytjngnigelkgekaa.Plain

/- What holds of some blocks, whatever else is done: a resource. -/
namespace Go.Proofs.Ytjngnigelkgekaa.Kit
set_option linter.unusedVariables false
open Go.RowKit Go.Proofs.YtjngnigelkgekaaW.PrintWords Go.Proofs.YtjngnigelkgekaaW.PrintLast Go.Proofs.YtjngnigelkgekaaW.PrintMore
def Fx (φ : World → Prop) : HP where
  P W ok := (∀ W' : World, (∀ k, ok k → W'.heap[k]? = W.heap[k]?) → φ W') ∧ ∀ k, ok k → k < W.heap.size
  loc := fun {W W' ok} h hm => ⟨fun W2 h2 => h.1 W2 (fun k hk => (h2 k hk).trans (hm k hk)), fun k hk => by
      have := hm k hk
      rw [Array.getElem?_eq_getElem (h.2 k hk)] at this
      exact (Array.getElem?_eq_some_iff.1 this).1⟩
  bnd := fun h => h.2
namespace Sep
variable {w0 W W' : World} {F : List HP} {φ ψ : World → Prop}
theorem fx (h : Sep w0 W (Fx φ :: F)) : φ W := by
  obtain ⟨ok, hp, _⟩ := h.sep; exact hp.1 W (fun _ _ => rfl)
theorem fxTrue (h : Sep w0 W F) : Sep w0 W (Fx (fun _ => True) :: F) :=
  h.gain (Below.refl _ _) (ok := fun _ => False) ⟨fun _ _ => trivial, fun _ hf => hf.elim⟩ (fun _ hf => hf.elim)
theorem fxImp (h : Sep w0 W (Fx φ :: F)) (hi : ∀ W, φ W → ψ W) : Sep w0 W (Fx ψ :: F) := h.imp (fun ok hp => ⟨fun W' hm => hi W' (hp.1 W' hm), hp.2⟩)
theorem fxRow {α : Type} {d : Kd α} {e n c : Nat} {A : Option Addr} {xs : List α} (h : Sep w0 W (Row d e (.slice A n c) xs :: F)) : Sep w0 W (Fx (fun W => d.C W A n xs) :: F) := by
  refine h.imp (fun ok hp => ⟨fun W' hm => ?_, hp.2⟩)
  have h2 := Kd.R_reads' (Kd.R_move hp.1 hm)
  rw [h2.1]; exact h2.2.2
theorem fxAnd (h : Sep w0 W (Fx φ :: Fx ψ :: F)) : Sep w0 W (Fx (fun W => φ W ∧ ψ W) :: F) := by
  obtain ⟨o1, h1, d1, o2, h2, d2, hF⟩ := h.sep
  refine ⟨h.os, h.tape, h.output, h.size, h.old, fun k => o1 k ∨ o2 k, ⟨fun W' hm => ⟨h1.1 W' (fun k hk => hm k (.inl hk)), h2.1 W' (fun k hk => hm k (.inr hk))⟩, fun k hk => hk.elim (h1.2 k) (h2.2 k)⟩, fun k hk ha => hk.elim (fun ho => d1 k ho ha) (fun ho => d2 k ho (.inl ha)), hF.weaken (fun k hk => ?_)⟩
  rcases hk with h3 | h3 | h3
  · exact .inl (.inl h3)
  · exact .inl (.inr h3)
  · exact .inr h3
end Sep
end Go.Proofs.Ytjngnigelkgekaa.Kit

/- Rows of elements of several cells, told by their cells. -/
namespace Go.Proofs.Ytjngnigelkgekaa.Kit
set_option linter.unusedVariables false
set_option linter.unusedSimpArgs false
open Go.RowKit Go.Proofs.YtjngnigelkgekaaW.PrintWords Go.Proofs.YtjngnigelkgekaaW.PrintLast Go.Proofs.YtjngnigelkgekaaW.PrintMore
namespace Sep
variable {w0 W W' : World} {F : List HP}
/-- A block as a row of one element. -/
theorem blkRaw {g : Nat} {t : TypeId} {c : List Value} {sz : Nat} (h : Sep w0 W (Blk g t c.toArray :: F)) (hs : c.length = sz) (h1 : ∀ u ∈ c, u.oneCell' = true) : (Kd.raw sz).C W (some ⟨g, 0, none⟩) 1 [c] := by
  refine ⟨rfl, by decide, fun _ => ⟨_, rfl, fun j p hj => ?_⟩⟩
  match j, hj with
  | 0, hj =>
    obtain rfl : c = p := by simpa using hj
    refine ⟨c, hs, ⟨rfl, hs, h1⟩, fun i u hu => ?_⟩
    have := h.cell i
    have e : (⟨g, 0, none⟩ : Addr).add (0 * (Kd.raw sz).sz + i) = ⟨g, i, none⟩ := by
      rw [Nat.zero_mul, Nat.zero_add]; unfold Addr.add; split
      · rename_i h0; rw [h0]
      · simp
    rw [e, this]
    simpa using hu
section
variable {P : Program} {ops : Array Oper} {rest : List Oper} {o : Oper} {a : Act} {Q : Exit → Act → World → Prop} {sz : Nat}
theorem appendRaw {e : Nat} {v : Value} {xs ys : List (List Value)} (h : Sep w0 W (Row (Kd.raw sz) e v xs :: F)) (hgd : o.guard = none) (s x : Operand) (t : TypeId) (z : Value) (bytes : Nat)
    (ho : o.op = .call { callee := .builtin .append, args := #[s, x], argTypes := #[t, t] })
    (ht : P.underlying t = some (.slice e)) (hinfo : (P.info? e).map (fun i => (i.zero, i.size, i.bytes)) = some (some z, sz, bytes)) (hz : z.cells.size = sz) (hs0 : 0 < sz) (hb0 : 0 < bytes)
    (A : Option Addr) (m c : Nat) (hs : a.eval s = v) (hx : a.eval x = .slice A m c) (hC : (Kd.raw sz).C W A m ys) (hl : (xs.length + ys.length) * bytes ≤ 140737488355328)
    (k : ∀ v1 w1, Sep w0 w1 (Row (Kd.raw sz) e v1 (xs ++ ys) :: F) → wpList P ops Q rest (a.put o.dst v1) w1) : wpList P ops Q (o :: rest) a W := by
  obtain ⟨ok, hp, hd, hF⟩ := h.sep
  refine Kd.R_append_rows (Kd.raw sz) (Rr := (Kd.raw sz).K W) (w0 := W) 0 hgd s x t e z bytes ho ht hinfo hz hs0 hb0 v xs ys A m c (fun k => ok k ∨ W.heap.size ≤ k) (fun _ => False) hs hx
    (Kd.R_mono hp.1 (fun k hk => .inl hk)) hC (fun x cs h => h) (fun _ h => h.elim) (fun k hk => .inr hk) (Below.refl 0 W) (Nat.zero_le _) (by rw [← hC.1]; exact hl) (fun v1 w1 hr hb hg hat => k v1 w1 ?_)
  exact h.stepOk hd hF ⟨hg.os, hg.tape, hg.output, hg.size⟩ (fun k hlt hn => hg.block k hlt (fun he => hn (hp.1.1 k he.symm))) (ok' := fun k => (ok k ∨ W.heap.size ≤ k) ∧ k < w1.heap.size)
    ⟨Kd.R_mono (Kd.R_bound hr) (fun k hk => ⟨hk.1, hk.2.2.1⟩), fun k hk => hk.2⟩ (fun k hk => hk.1)
end
end Sep
end Go.Proofs.Ytjngnigelkgekaa.Kit

/- Rows of elements that hold rows themselves: the cells are one's own, what lies in them is read. -/
namespace Go.Proofs.Ytjngnigelkgekaa.Kit
set_option linter.unusedVariables false
set_option linter.unusedSimpArgs false
open Go.RowKit Go.Proofs.YtjngnigelkgekaaW.PrintWords Go.Proofs.YtjngnigelkgekaaW.PrintLast Go.Proofs.YtjngnigelkgekaaW.PrintMore
/-- What the cells of a row say, element by element. -/
def Each {α : Type} (d : Kd α) (xs : List α) (cs : List (List Value)) (W : World) : Prop := xs.length = cs.length ∧ ∀ (j : Nat) x c, xs[j]? = some x → cs[j]? = some c → d.K W x c
theorem Each.nil {α : Type} (d : Kd α) (W : World) : Each d [] [] W := ⟨rfl, fun j x c h => by simp at h⟩
theorem Each.snoc {α : Type} {d : Kd α} {xs : List α} {cs : List (List Value)} {W : World} {x : α} {c : List Value} (h : Each d xs cs W) (hx : d.K W x c) : Each d (xs ++ [x]) (cs ++ [c]) W := by
  refine ⟨by simp [h.1], fun j y b hy hb => ?_⟩
  by_cases hj : j < xs.length
  · rw [List.getElem?_append_left hj] at hy
    rw [List.getElem?_append_left (by rw [← h.1]; exact hj)] at hb
    exact h.2 j y b hy hb
  · rw [List.getElem?_append_right (by omega)] at hy
    rw [List.getElem?_append_right (by have := h.1; omega)] at hb
    have : j - xs.length = 0 := by
      rcases Nat.eq_zero_or_pos (j - xs.length) with h0 | h0
      · exact h0
      · rw [List.getElem?_eq_none (by simp; omega)] at hy; cases hy
    rw [this] at hy
    rw [show j - cs.length = 0 by have := h.1; omega] at hb
    simp at hy hb
    subst hy hb
    exact hx
theorem Each.set {α : Type} {d : Kd α} {xs : List α} {cs : List (List Value)} {W : World} {x : α} {c : List Value} (i : Nat) (h : Each d xs cs W) (hx : d.K W x c) : Each d (xs.set i x) (cs.set i c) W := by
  refine ⟨by simp [h.1], fun j y b hy hb => ?_⟩
  by_cases hj : i = j
  · subst hj
    rw [List.getElem?_set] at hy hb
    simp only [if_true] at hy hb
    split at hy
    · split at hb
      · cases hy; cases hb; exact hx
      · cases hb
    · cases hy
  · rw [List.getElem?_set_ne hj] at hy hb
    exact h.2 j y b hy hb
theorem Each.app {α : Type} {d : Kd α} {xs ys : List α} {cs bs : List (List Value)} {W : World} (h : Each d xs cs W) (k : Each d ys bs W) : Each d (xs ++ ys) (cs ++ bs) W := by
  refine ⟨by simp [h.1, k.1], fun j y b hy hb => ?_⟩
  by_cases hj : j < xs.length
  · rw [List.getElem?_append_left hj] at hy
    rw [List.getElem?_append_left (by rw [← h.1]; exact hj)] at hb
    exact h.2 j y b hy hb
  · rw [List.getElem?_append_right (by omega)] at hy
    rw [List.getElem?_append_right (by have := h.1; omega)] at hb
    rw [show j - cs.length = j - xs.length by have := h.1; omega] at hb
    exact k.2 _ y b hy hb
theorem Each.take {α : Type} {d : Kd α} {xs : List α} {cs : List (List Value)} {W : World} (h : Each d xs cs W) (k : Nat) : Each d (xs.take k) (cs.take k) W := by
  refine ⟨by simp [h.1], fun j y b hy hb => ?_⟩
  rw [List.getElem?_take] at hy hb
  split at hy
  · rename_i hj
    rw [if_pos hj] at hb
    exact h.2 j y b hy hb
  · cases hy
theorem Each.drop {α : Type} {d : Kd α} {xs : List α} {cs : List (List Value)} {W : World} (h : Each d xs cs W) (k : Nat) : Each d (xs.drop k) (cs.drop k) W := by
  refine ⟨by simp [h.1], fun j y b hy hb => ?_⟩
  rw [List.getElem?_drop] at hy hb
  exact h.2 _ y b hy hb
/-- A row read, cell by cell, with what the cells say. -/
theorem raw_C {α : Type} {d : Kd α} {W : World} {A : Option Addr} {n : Nat} {xs : List α} {cs : List (List Value)} (hC : (Kd.raw d.sz).C W A n cs) (h : Each d xs cs W) : d.C W A n xs := by
  refine ⟨h.1.trans hC.1, hC.2.1, fun hp => ?_⟩
  obtain ⟨ad, e, hr⟩ := hC.2.2 hp
  refine ⟨ad, e, fun j x hx => ?_⟩
  have hlt : j < cs.length := by
    rw [← h.1]
    exact (List.getElem?_eq_some_iff.1 hx).1
  obtain ⟨c, hl, hk, hc⟩ := hr j _ (List.getElem?_eq_getElem hlt)
  have hk1 : c = cs[j] := hk.1
  exact ⟨c, hl, by rw [hk1]; exact h.2 j x _ hx (List.getElem?_eq_getElem hlt), hc⟩
def RowF {α : Type} (d : Kd α) (e : Nat) (v : Value) (xs : List α) : HP := Ex fun cs : List (List Value) => Star [Row (Kd.raw d.sz) e v cs, Fx (Each d xs cs)]
/-- One element's cells, with what lies in them. -/
def Cl {α : Type} (d : Kd α) (x : α) (c : List Value) : HP := Fx (fun W => d.K W x c)
namespace Sep
variable {w0 W W' : World} {F : List HP} {α : Type} {d : Kd α} {e n c : Nat} {v : Value} {A : Option Addr} {xs : List α} {φ ψ : World → Prop}
theorem rowF_open (h : Sep w0 W (RowF d e v xs :: F)) : ∃ cs, Sep w0 W (Row (Kd.raw d.sz) e v cs :: Fx (Each d xs cs) :: F) := by
  obtain ⟨cs, h⟩ := h.ex
  exact ⟨cs, h.star⟩
theorem rowF_shut {cs : List (List Value)} (h : Sep w0 W (Row (Kd.raw d.sz) e v cs :: Fx (Each d xs cs) :: F)) : Sep w0 W (RowF d e v xs :: F) := Sep.unex cs (Sep.unstar (L := [_, _]) h)
theorem fxPure (h : Sep w0 W F) (hp : ∀ W, φ W) : Sep w0 W (Fx φ :: F) := h.fxTrue.fxImp (fun W _ => hp W)
theorem rowF_nil (h : Sep w0 W F) (d : Kd α) (e : Nat) : Sep w0 W (RowF d e (.slice none 0 0) [] :: F) := rowF_shut (cs := []) ((h.fxPure (fun W => Each.nil d W)).nilRow _ _)
theorem rowFV (h : Sep w0 W (RowF d e v xs :: F)) : ∃ A c, v = .slice A xs.length c := by
  obtain ⟨cs, h⟩ := h.rowF_open
  obtain ⟨A, c, hv⟩ := h.rowV
  exact ⟨A, c, by rw [hv, h.at2.fx.1]⟩
theorem rowFN (h : Sep w0 W (RowF d e v xs :: F)) (hn : xs.length = n) : ∃ A c, v = .slice A n c := by subst hn; exact h.rowFV
theorem rowFC (h : Sep w0 W (RowF d e (.slice A n c) xs :: F)) : n = xs.length ∧ n ≤ c ∧ d.C W A n xs := by
  obtain ⟨cs, h⟩ := h.rowF_open
  obtain ⟨h1, h2, h3⟩ := h.rowC
  have hE := h.at2.fx
  rw [← h1] at h3
  exact ⟨by rw [h1, hE.1], h2, raw_C h3 hE⟩
theorem rowFx (h : Sep w0 W (RowF d e (.slice A n c) xs :: F)) : Sep w0 W (Fx (fun W => d.C W A n xs) :: F) := by
  obtain ⟨cs, h⟩ := h.rowF_open
  exact h.fxRow.fxAnd.fxImp (fun W h2 => raw_C h2.1 h2.2)
/-- An element of a slice: out of the slice's own row. -/
theorem clSlice {β : Type} {d : Kd β} {e n c : Nat} {A : Option Addr} {xs : List β} (h : Sep w0 W (Row d e (.slice A n c) xs :: F)) : Sep w0 W (Cl (Kd.slice e d) xs [.slice A n c] :: F) := by
  have h1 := h.rowC
  exact h.fxRow.fxImp (fun W hC => ⟨A, c, by rw [h1.1], by rw [← h1.1]; exact h1.2.1, by rw [← h1.1]; exact hC⟩)
theorem clPair {β γ : Type} {a : Kd β} {b : Kd γ} {x : β} {y : γ} {p q : List Value} (h : Sep w0 W (Cl b y q :: F)) (hp : ∀ W, a.K W x p) : Sep w0 W (Cl (Kd.pair a b) (x, y) (p ++ q) :: F) :=
  h.fxImp (fun W hq => ⟨p, q, rfl, hp W, hq⟩)
section
variable {P : Program} {ops : Array Oper} {rest : List Oper} {o : Oper} {a : Act} {Q : Exit → Act → World → Prop}
/-- append(v, x): the literal's block holds the element's cells. -/
theorem appendF {x : α} {cl : List Value} (h : Sep w0 W (RowF d e v xs :: Cl d x cl :: F)) (hgd : o.guard = none) (s y : Operand) (t : TypeId) (z : Value) (bytes : Nat)
    (ho : o.op = .call { callee := .builtin .append, args := #[s, y], argTypes := #[t, t] })
    (ht : P.underlying t = some (.slice e)) (hinfo : (P.info? e).map (fun i => (i.zero, i.size, i.bytes)) = some (some z, d.sz, bytes)) (hz : z.cells.size = d.sz) (hs0 : 0 < d.sz) (hb0 : 0 < bytes)
    (A : Option Addr) (m : Nat) (hs : a.eval s = v) (hx : a.eval y = .slice A 1 m) (hC : (Kd.raw d.sz).C W A 1 [cl]) (hl : (xs.length + 1) * bytes ≤ 140737488355328)
    (k : ∀ v1 w1, Sep w0 w1 (RowF d e v1 (xs ++ [x]) :: F) → wpList P ops Q rest (a.put o.dst v1) w1) : wpList P ops Q (o :: rest) a W := by
  obtain ⟨cs, h⟩ := h.rowF_open
  have hlen := h.at2.fx.1
  refine h.appendRaw hgd s y t z bytes ho ht hinfo hz hs0 hb0 A 1 m hs hx hC (by rw [← hlen]; exact hl) (fun v1 w1 h1 => k v1 w1 ?_)
  refine rowF_shut (cs := cs ++ [cl]) ?_
  have h2 := (h1.at2.perm (.cons _ (.swap _ _ _))).fxAnd (φ := Each d xs cs) (ψ := fun W => d.K W x cl)
  exact (h2.fxImp (fun W hW => hW.1.snoc hW.2)).at2
end
end Sep
end Go.Proofs.Ytjngnigelkgekaa.Kit

/- An element of a row that is read, cell by cell. -/
namespace Go.Proofs.Ytjngnigelkgekaa.Kit
set_option linter.unusedVariables false
set_option linter.unusedSimpArgs false
open Go.RowKit Go.Proofs.YtjngnigelkgekaaW.PrintWords Go.Proofs.YtjngnigelkgekaaW.PrintLast Go.Proofs.YtjngnigelkgekaaW.PrintMore
theorem elem_ {α : Type} {d : Kd α} {W : World} {A : Option Addr} {n : Nat} {xs : List α} (h : d.C W A n xs) {i : Nat} (hi : i < n) :
    ∃ (hx : i < xs.length) (a : Addr) (cs : List Value), A = some a ∧ d.K W xs[i] cs ∧ (∀ u, cs[0]? = some u → W.cell? (a.add (i * d.sz)) = some u) ∧
      ∀ j u, 0 < j → cs[j]? = some u → W.cell? ⟨(a.add (i * d.sz)).block, (a.add (i * d.sz)).off + j, none⟩ = some u := by
  have hx : i < xs.length := by rw [h.1]; exact hi
  obtain ⟨a, e, hr⟩ := h.2.2 (by omega)
  obtain ⟨cs, hl, hk, hc⟩ := hr i _ (List.getElem?_eq_getElem hx)
  refine ⟨hx, a, cs, e, hk, fun u hu => ?_, fun j u hj hu => ?_⟩
  · have := hc 0 u hu; rwa [Nat.add_zero] at this
  · have := hc j u hu
    rwa [add_field _ _ j hj] at this
/-- A whole number and a row: two cells. -/
theorem elem2_ {k k2 : IntKind} {e : Nat} {W : World} {A : Option Addr} {n : Nat} {xs : List (Int × List Int)} (h : (Kd.pair (Kd.int k) (Kd.slice e (Kd.int k2))).C W A n xs) {i : Nat} (hi : i < n) :
    ∃ (hx : i < xs.length) (a : Addr) (B : Option Addr) (c : Nat), A = some a ∧ W.cell? (a.add (i * 2)) = some (.int k (xs[i]).1) ∧ W.cell? ⟨(a.add (i * 2)).block, (a.add (i * 2)).off + 1, none⟩ = some (.slice B (xs[i]).2.length c) ∧
      (xs[i]).2.length ≤ c ∧ (Kd.int k2).C W B (xs[i]).2.length (xs[i]).2 := by
  obtain ⟨hx, a, cs, e, ⟨c0, c1, e1, h0, B, c, h1, h2, h3⟩, hc0, hcj⟩ := elem_ h hi
  have h0 : c0 = [.int k (xs[i]).1] := h0
  subst h0 h1 e1
  exact ⟨hx, a, B, c, e, hc0 _ rfl, hcj 1 _ (by decide) rfl, h2, h3⟩
end Go.Proofs.Ytjngnigelkgekaa.Kit

/- append(v, make([]T, n)...) on a row of one's own. -/
namespace Go.Proofs.Ytjngnigelkgekaa.Kit
set_option linter.unusedVariables false
set_option linter.unusedSimpArgs false
open Go.RowKit Go.Proofs.YtjngnigelkgekaaW.PrintWords Go.Proofs.YtjngnigelkgekaaW.PrintLast Go.Proofs.YtjngnigelkgekaaW.PrintMore
namespace Sep
variable {w0 W W' : World} {F : List HP}
section
variable {P : Program} {ops : Array Oper} {rest : List Oper} {o : Oper} {a : Act} {Q : Exit → Act → World → Prop} {α : Type} {enc : α → Value} {h1 : ∀ x, (enc x).oneCell' = true}
theorem zerosRow {e : Nat} {v : Value} {xs : List α} (h : Sep w0 W (Row (Kd.scalar enc h1) e v xs :: F)) (z0 : α) (hgd : o.guard = none) (s x : Operand) (t ti : TypeId) (bytes : Nat)
    (ho : o.op = .call { callee := .builtin .append, args := #[s, x], argTypes := #[t, ti] })
    (ht : P.underlying t = some (.slice e)) {k : IntKind} (hti : P.underlying ti = some (.int k)) (hinfo : (P.info? e).map (fun i => (i.zero, i.size, i.bytes)) = some (some (enc z0), 1, bytes)) (hz : (enc z0).cells = #[enc z0]) (hb0 : 0 < bytes)
    {kx : IntKind} (n : Nat) (hs : a.eval s = v) (hx : a.eval x = .int kx (n : Int)) (hl : (xs.length + n) * bytes ≤ 140737488355328)
    (k : ∀ v1 w1, Sep w0 w1 (Row (Kd.scalar enc h1) e v1 (xs ++ List.replicate n z0) :: F) → wpList P ops Q rest (a.put o.dst v1) w1) : wpList P ops Q (o :: rest) a W := by
  obtain ⟨ok, hp, hd, hF⟩ := h.sep
  refine Kd.R_append_zeros (Kd.scalar enc h1) (w0 := W) 0 hgd s x t ti e (enc z0) bytes ho ht hti hinfo (by rw [hz]; rfl) (by show 0 < 1; omega) hb0 v xs z0 (n : Int) (fun k => ok k ∨ W.heap.size ≤ k) hs hx (by rw [hz]; rfl) (fun k hk => .inr hk)
    (Kd.R_mono hp.1 (fun k hk => .inl hk)) (by omega) (Below.refl 0 W) (Nat.zero_le _) (by rw [Int.toNat_natCast]; exact hl) (fun v1 w1 hr hb hg hat => k v1 w1 ?_)
  rw [Int.toNat_natCast] at hr
  exact h.stepOk hd hF ⟨hg.os, hg.tape, hg.output, hg.size⟩ (fun k hlt hn => hg.block k hlt (fun he => hn (hp.1.1 k he.symm))) (ok' := fun k => (ok k ∨ W.heap.size ≤ k) ∧ k < w1.heap.size)
    ⟨Kd.R_mono (Kd.R_bound hr) (fun k hk => ⟨hk.1, hk.2.2.1⟩), fun k hk => hk.2⟩ (fun k hk => hk.1)
theorem zerosStep {Kc : Act → World → Prop} {e : Nat} {v : Value} {xs : List α} (h : Sep w0 W (Row (Kd.scalar enc h1) e v xs :: F)) (z0 : α) (hw : Region.wanted o (yielded ops a.tmps) = true) (s x : Operand) (t ti : TypeId) (bytes : Nat)
    (ho : o.op = .call { callee := .builtin .append, args := #[s, x], argTypes := #[t, ti] })
    (ht : P.underlying t = some (.slice e)) {k : IntKind} (hti : P.underlying ti = some (.int k)) (hinfo : (P.info? e).map (fun i => (i.zero, i.size, i.bytes)) = some (some (enc z0), 1, bytes)) (hz : (enc z0).cells = #[enc z0]) (hb0 : 0 < bytes)
    {kx : IntKind} (n : Nat) (hs : a.eval s = v) (hx : a.eval x = .int kx (n : Int)) (hl : (xs.length + n) * bytes ≤ 140737488355328)
    (k : ∀ v1 w1, Sep w0 w1 (Row (Kd.scalar enc h1) e v1 (xs ++ List.replicate n z0) :: F) → Kc (a.put o.dst v1) w1) : if Region.wanted o (yielded ops a.tmps) = true then Oper.wp P o a W Kc Q else Kc (a.put o.dst undef) W := by
  obtain ⟨ok, hp, hd, hF⟩ := h.sep
  refine Kd.R_append_zeros_step (Kd.scalar enc h1) (w0 := W) 0 hw s x t ti e (enc z0) bytes ho ht hti hinfo (by rw [hz]; rfl) (by show 0 < 1; omega) hb0 v xs z0 (n : Int) (fun k => ok k ∨ W.heap.size ≤ k) hs hx (by rw [hz]; rfl) (fun k hk => .inr hk)
    (Kd.R_mono hp.1 (fun k hk => .inl hk)) (by omega) (Below.refl 0 W) (Nat.zero_le _) (by rw [Int.toNat_natCast]; exact hl) (fun v1 w1 hr hb hg hat => k v1 w1 ?_)
  rw [Int.toNat_natCast] at hr
  exact h.stepOk hd hF ⟨hg.os, hg.tape, hg.output, hg.size⟩ (fun k hlt hn => hg.block k hlt (fun he => hn (hp.1.1 k he.symm))) (ok' := fun k => (ok k ∨ W.heap.size ≤ k) ∧ k < w1.heap.size)
    ⟨Kd.R_mono (Kd.R_bound hr) (fun k hk => ⟨hk.1, hk.2.2.1⟩), fun k hk => hk.2⟩ (fun k hk => hk.1)
end
end Sep
end Go.Proofs.Ytjngnigelkgekaa.Kit

/- Bytes: a row cloned; made. -/
namespace Go.Proofs.Ytjngnigelkgekaa.Base
set_option linter.unusedVariables false
set_option linter.unusedSimpArgs false
open Go.RowKit Go.Proofs.YtjngnigelkgekaaW.PrintWords Go.Proofs.YtjngnigelkgekaaW.PrintLast Go.Proofs.YtjngnigelkgekaaW.PrintMore Go.Proofs.Ytjngnigelkgekaa.Kit
theorem infoB : (Try.prog.info? 5).map (fun i => (i.zero, i.size, i.bytes)) = some (some (.int .u8 0), 1, 1) := by kernel_rfl
abbrev U8 : Kd Int := Kd.int .u8
/-! ### slices_Clone__byte_byte: function 94 -/
def cloneF (l0 : List Int) : Option (List Int) := if l0.length < 140737488355328 then (some l0) else none
set_option maxHeartbeats 8000000 in
set_option maxRecDepth 100000 in
theorem clone0 (A0 : Option Addr) (c0 : Nat) (l0 : List Int) (r : List Int) (w : World) (hr0 : Kd.C (Kd.int .u8) w A0 l0.length l0) (hc0 : l0.length ≤ c0) (h : cloneF l0 = some r) :
    Calls Try.prog 94 #[.slice A0 l0.length c0] w fun e w' => ∃ v0_ : Value, e = .returned (v0_) ∧ Kd.R (Kd.int .u8) 5 w' w.heap.size (fun _ => True) v0_ r ∧ Below w.heap.size w w' := by
  have HR0 := Aside0.mk hr0
  have HC0 := Aside0.mk hc0
  clear hr0 hc0
  have HB := Aside0.mk (Below.refl w.heap.size w)
  have hl : l0.length < 140737488355328 ∧ l0 = r := by
    unfold cloneF at h
    split at h
    · exact ⟨by assumption, Option.some.inj h⟩
    · cases h
  obtain ⟨hl, rfl⟩ := hl
  have LMc3 := Aside0.mk hl
  clear h hl
  cases A0 with
  | none =>
    have hl0 : l0 = [] := by
      have := HR0.out
      cases l0 with
      | nil => rfl
      | cons a t => obtain ⟨ad, e, _⟩ := Kd.at_int HR0.out 0 (by decide) (by simp); cases e
    subst hl0
    have heq : ∀ W : World, Sem.run Try.prog (binOp .eql 30 (.slice none 0 c0) (.slice none 0 0)) W = .ok (.bool true) W := fun W => Lib.run_eql_slice_nil W 30 5 none _ c0 0 0 Try.underlying30
    show Calls Try.prog 94 #[.slice none 0 c0] w _
    go_enter Try.func94, Try.ntmps94
    go_wp2
    go_ret
    exact ⟨_, rfl, Kd.R_nil _ _ _ _ _, HB.out⟩
  | some a0 =>
    have heq : ∀ W : World, Sem.run Try.prog (binOp .eql 30 (.slice (some a0) l0.length c0) (.slice none 0 0)) W = .ok (.bool false) W := fun W => Lib.run_eql_slice_nil W 30 5 (some a0) _ c0 0 0 Try.underlying30
    go_enter Try.func94, Try.ntmps94
    go_wp2_with (first | ((with_reducible refine gate_dst (N := 5) rfl ?_); refine Kd.R_lit (Kd.int .u8) _ 5 ?hg (N := 5) ?hd (xs := ([] : List Int)) (inner := []) (ok := fun _ => True) (okp := fun _ => True) ?hr ?hp (fun _ hk => hk) trivial (Below.refl _ _) (Nat.le_refl _) (by simp) ?_; (case hd => rfl); (case hg => rfl); (case hr => first | (go_simp; done) | (go_simp; rfl)); (case hp => exact (Reps.none _ _)); intro v117 w5 ho6 hb hg_ hnew_; clear hg_ hnew_; have n0_ := Aside0.mk (Kd.R_lower ho6 (below_size (by repeat (first | (with_reducible first | exact HB.out | apply below_alloc | apply pw_below_drewN | apply below_drew1) | exact HB.out)))); have n1_ := Aside0.mk (below_step (by repeat (first | (with_reducible first | exact HB.out | apply below_alloc | apply pw_below_drewN | apply below_drew1) | exact HB.out)) hb); clear HB; have HO118 := n0_; have HB := n1_; clear n0_ n1_; clear hb ho6) | ((with_reducible refine gate_builtin (b := .append) (xs := #[.tmp 5, .tmp 6]) rfl ?_); at_builtin; refine Kd.R_append_rows (Kd.int .u8) (w0 := w) w.heap.size rfl (.tmp 5) (.tmp 6) 30 5 (.int .u8 0) 1 rfl Try.underlying30 infoB rfl (by decide) (by omega) v117 [] l0 _ _ _ (fun _ => True) (fun _ => False) rfl rfl ?aO ?aR (fun _ _ h => h) (fun _ h => h.elim) ?aF ?aB ?aS ?aL ?_; (case aR => repeat (first | exact (Kd.C_below HR0.out HB.out) | (with_reducible refine Kd.C_alloc ?_ _) | (with_reducible refine Kd.C_drewN ?_ _) | (with_reducible refine Kd.C_drew ?_))); (case aB => exact (by repeat (first | (with_reducible first | exact HB.out | apply below_alloc | apply pw_below_drewN | apply below_drew1) | exact HB.out))); (case aF => exact (fun _ _ => trivial)); (case aO => exact (by (with_reducible repeat (first | apply Kd.R_alloc | apply Kd.R_drewN | apply Kd.R_drew)); exact HO118.out)); (case aS => exact (below_size (by repeat (first | (with_reducible first | exact HB.out | apply below_alloc | apply pw_below_drewN | apply below_drew1) | exact HB.out)))); (case aL => have := LMc3.out; simp only [List.length_nil]; omega); intro v120 w7 ho hb hg hat; rw [List.nil_append] at ho; have n0_ := Aside0.mk (hb); have n1_ := Aside0.mk (ho); clear HB; clear HO118; have HB := n0_; have HO121 := n1_; clear n0_ n1_; clear ho hb hg hat))
    go_ret
    exact ⟨_, by first | rfl | (simp; done) | (simp [*]; done), by (with_reducible repeat (first | apply Kd.R_alloc | apply Kd.R_drewN | apply Kd.R_drew)); exact Kd.R_mono HO121.out (fun _ hk => trivial), by repeat (first | (with_reducible first | exact HB.out | apply below_alloc | apply pw_below_drewN | apply below_drew1) | exact HB.out)⟩
/-- slices.Clone of bytes that are read. -/
theorem clone_ {A : Option Addr} {n c : Nat} {l : List Int} {w : World} (hr : U8.C w A n l) (hc : n ≤ c) (hl : n < 140737488355328) :
    Calls Try.prog 94 #[.slice A n c] w fun e w' => ∃ v, e = .returned v ∧ Sep w w' [Row U8 5 v l] := by
  obtain rfl : l.length = n := hr.1
  refine (clone0 A c l l w hr hc (if_pos hl)).mono ?_
  rintro e w' ⟨v, rfl, hR, hB⟩
  exact ⟨v, rfl, (Sep.start w).newRow hR hB⟩
theorem make_ {m : Nat} (hm : m ≤ 100000) : ∀ W : World, (Instr.makeSlice 30 (.int .i64 (m : Int)) (.int .i64 (m : Int))).run Try.prog W = .ok (.slice (some ⟨W.heap.size, 0, none⟩) m m) (W.alloc (.cells (madeCells #[.int .u8 0] m) 5)) :=
  print_make (P := Try.prog) 30 5 .u8 1 Try.underlying30 infoB (by decide) m (by omega)
theorem madeB {w0 W : World} {F : List HP} (m : Nat) (h : Sep w0 W F) (hm : m ≤ 100000) : Sep w0 (W.alloc (.cells (madeCells #[.int .u8 0] m) 5)) (Row U8 5 (.slice (some ⟨W.heap.size, 0, none⟩) m m) (List.replicate m 0) :: F) :=
  h.madeRow (h1 := fun _ => rfl) (e := 5) (enc := Value.int .u8) 0 m (by omega)
end Go.Proofs.Ytjngnigelkgekaa.Base

/- Cuts of rows of any elements; rows told by their cells: append in a region. -/
namespace Go.Proofs.Ytjngnigelkgekaa.Kit
set_option linter.unusedVariables false
set_option linter.unusedSimpArgs false
open Go.RowKit Go.Proofs.YtjngnigelkgekaaW.PrintWords Go.Proofs.YtjngnigelkgekaaW.PrintLast Go.Proofs.YtjngnigelkgekaaW.PrintMore
section
variable {P : Program} {T E : TypeId} {sz bytes : Nat} {z : Value}
theorem elem_of (ht : P.underlying T = some (.slice E)) : P.elem T = E := by simp [Program.elem, ht]
theorem cutHi (ht : P.underlying T = some (.slice E)) (hinfo : (P.info? E).map (fun i => (i.zero, i.size, i.bytes)) = some (some z, sz, bytes)) (A : Option Addr) (n c b : Nat) {K : Int} (hK : K = (b : Int)) (h1 : b ≤ n) (h2 : n ≤ c) (W : World) :
    (Instr.slice T (.slice A n c) none (some (.int .i64 K)) none).run P W = .ok (.slice A b c) W := by
  subst hK
  obtain ⟨t, hi, hz⟩ := Option.map_eq_some_iff.1 hinfo
  simp only [Prod.mk.injEq] at hz
  rw [run_slice_h W T A n c (by rw [elem_of ht]; exact ht) .i64 (b : Int) (by omega) (by omega), elem_of ht]
  have e : (A.map fun x => x.add 0) = A := by
    cases A with
    | none => rfl
    | some a => simp [Addr.add]
  simp [sizeOf, typeInfo, hi, hz.2.1, sliced, Result.andThen, e]
theorem cutLo (ht : P.underlying T = some (.slice E)) (hinfo : (P.info? E).map (fun i => (i.zero, i.size, i.bytes)) = some (some z, sz, bytes)) (A : Option Addr) (n c a : Nat) {J : Int} (hJ : J = (a : Int)) (h1 : a ≤ n) (h2 : n ≤ c) (W : World) :
    (Instr.slice T (.slice A n c) (some (.int .i64 J)) none none).run P W = .ok (.slice (if c = a then A else A.map (·.add (a * sz))) (n - a) (c - a)) W := by
  subst hJ
  obtain ⟨t, hi, hz⟩ := Option.map_eq_some_iff.1 hinfo
  simp only [Prod.mk.injEq] at hz
  rw [run_slice_l W T A n c (by rw [elem_of ht]; exact ht) .i64 (a : Int) (by omega) (by omega), elem_of ht]
  simp [sizeOf, typeInfo, hi, hz.2.1, sliced, Result.andThen]
end
theorem C_hi {α : Type} {d : Kd α} {W : World} {A : Option Addr} {n c b : Nat} {l : List α} (h : d.C W A n l) (hb : b ≤ n) (hc : n ≤ c) : d.C W A b (l.take b) := by
  obtain rfl : l.length = n := h.1
  have := Kd.C_take h hb
  rwa [List.length_take, Nat.min_eq_left hb] at this
theorem C_lo {α : Type} {d : Kd α} {W : World} {A : Option Addr} {n c a : Nat} {l : List α} (h : d.C W A n l) (ha : a ≤ n) (hc : n ≤ c) : d.C W (if c = a then A else A.map (·.add (a * d.sz))) (n - a) (l.drop a) := by
  obtain rfl : l.length = n := h.1
  have := Kd.C_drop (m := a) (c := c) h ha hc
  rwa [List.length_drop] at this
/-- What is read is read cell by cell. -/
theorem raw_of_C {α : Type} {d : Kd α} {W : World} {A : Option Addr} {n : Nat} {xs : List α} (h : d.C W A n xs) :
    ∃ cs, (Kd.raw d.sz).C W A n cs ∧ Each d xs cs W := by
  obtain rfl : xs.length = n := h.1
  by_cases hp : 0 < xs.length
  · obtain ⟨ad, e, hr⟩ := h.2.2 hp
    have hex : ∀ i : Fin xs.length, ∃ cs : List Value, cs.length = d.sz ∧ d.K W xs[i] cs ∧ ∀ j u, cs[j]? = some u → W.cell? (ad.add (i * d.sz + j)) = some u := fun i => hr i _ (List.getElem?_eq_getElem i.2)
    have hf := fun i => Classical.choose_spec (hex i)
    refine ⟨List.ofFn (fun i => Classical.choose (hex i)), ⟨by simp, h.2.1, fun _ => ⟨ad, e, fun i x hx => ?_⟩⟩, by simp, fun j x c hx hc => ?_⟩
    · rw [List.getElem?_ofFn] at hx
      split at hx
      · rename_i hi
        cases hx
        obtain ⟨g1, g2, g3⟩ := hf ⟨i, hi⟩
        exact ⟨_, g1, ⟨rfl, g1, (d.K_one g2)⟩, g3⟩
      · cases hx
    · rw [List.getElem?_ofFn] at hc
      split at hc
      · rename_i hi
        cases hc
        rw [List.getElem?_eq_getElem hi] at hx
        cases hx
        exact (hf ⟨j, hi⟩).2.1
      · cases hc
  · have h0 : xs = [] := List.eq_nil_of_length_eq_zero (by omega)
    subst h0
    exact ⟨[], ⟨rfl, h.2.1, fun hp => absurd hp (by simp)⟩, Each.nil _ _⟩
namespace Sep
section
variable {w0 W W' : World} {F : List HP} {P : Program} {ops : Array Oper} {rest : List Oper} {o : Oper} {a : Act} {Q : Exit → Act → World → Prop} {sz : Nat}
theorem appendRawStep {Kc : Act → World → Prop} {e : Nat} {v : Value} {xs ys : List (List Value)} (h : Sep w0 W (Row (Kd.raw sz) e v xs :: F)) (hw : Region.wanted o (yielded ops a.tmps) = true) (s x : Operand) (t : TypeId) (z : Value) (bytes : Nat)
    (ho : o.op = .call { callee := .builtin .append, args := #[s, x], argTypes := #[t, t] })
    (ht : P.underlying t = some (.slice e)) (hinfo : (P.info? e).map (fun i => (i.zero, i.size, i.bytes)) = some (some z, sz, bytes)) (hz : z.cells.size = sz) (hs0 : 0 < sz) (hb0 : 0 < bytes)
    (A : Option Addr) (m c : Nat) (hs : a.eval s = v) (hx : a.eval x = .slice A m c) (hC : (Kd.raw sz).C W A m ys) (hl : (xs.length + ys.length) * bytes ≤ 140737488355328)
    (k : ∀ v1 w1, Sep w0 w1 (Row (Kd.raw sz) e v1 (xs ++ ys) :: F) → Kc (a.put o.dst v1) w1) : if Region.wanted o (yielded ops a.tmps) = true then Oper.wp P o a W Kc Q else Kc (a.put o.dst undef) W := by
  obtain ⟨ok, hp, hd, hF⟩ := h.sep
  refine Kd.R_append_rows_step (Kd.raw sz) (Rr := (Kd.raw sz).K W) (w0 := W) 0 hw s x t e z bytes ho ht hinfo hz hs0 hb0 v xs ys A m c (fun k => ok k ∨ W.heap.size ≤ k) (fun _ => False) hs hx
    (Kd.R_mono hp.1 (fun k hk => .inl hk)) hC (fun x cs h => h) (fun _ h => h.elim) (fun k hk => .inr hk) (Below.refl 0 W) (Nat.zero_le _) (by rw [← hC.1]; exact hl) (fun v1 w1 hr hb hg hat => k v1 w1 ?_)
  exact h.stepOk hd hF ⟨hg.os, hg.tape, hg.output, hg.size⟩ (fun k hlt hn => hg.block k hlt (fun he => hn (hp.1.1 k he.symm))) (ok' := fun k => (ok k ∨ W.heap.size ≤ k) ∧ k < w1.heap.size)
    ⟨Kd.R_mono (Kd.R_bound hr) (fun k hk => ⟨hk.1, hk.2.2.1⟩), fun k hk => hk.2⟩ (fun k hk => hk.1)
theorem rowC' {α : Type} {d : Kd α} {e n c : Nat} {A : Option Addr} {xs : List α} (h : Sep w0 W (Row d e (.slice A n c) xs :: F)) : d.C W A n xs := by
  have h1 := h.rowC
  have := h1.2.2
  rwa [← h1.1] at this
/-- A literal: its cells are one's own. -/
theorem newLit {α : Type} {d : Kd α} {xs : List α} {inner : List Value} {e : Nat} (h : Sep w0 W F) (hrep : Reps (d.M W W.heap.size (fun _ => False)) d.sz xs inner) (hm : xs.length ≤ 9223372036854775807) :
    Sep w0 (W.alloc (.cells inner.toArray e)) (Row d e (.slice (some ⟨W.heap.size, 0, none⟩) xs.length xs.length) xs :: F) := by
  refine h.newRow (ok := fun _ => True) ⟨fun _ _ => trivial, inner, ?_, ?_⟩ (below_alloc (Below.refl _ _) _)
  · have h2 := World.ownsRow_lit (base := W.heap.size) (e := e) (size := d.sz) W inner.toArray xs.length (Nat.le_refl _) (by simpa [maxLen] using hm) (by simpa using hrep.1)
    simpa using h2
  · exact hrep.imp_ (fun p c hp => d.M_mono (fun k hk => hk.1.elim) (Kd.M_below (d.M_bound hp) (below_alloc (Below.refl _ _) _)))
theorem rawLit0 (h : Sep w0 W F) (sz e : Nat) : Sep w0 (W.alloc (.cells #[] e)) (Row (Kd.raw sz) e (.slice (some ⟨W.heap.size, 0, none⟩) 0 0) [] :: F) := h.newLit (d := Kd.raw sz) (xs := []) (inner := []) (Reps.none _ _) (by simp)
end
end Sep
end Go.Proofs.Ytjngnigelkgekaa.Kit

/- Cuts of rows of bytes. -/
namespace Go.Proofs.Ytjngnigelkgekaa.Base
set_option linter.unusedVariables false
set_option linter.unusedSimpArgs false
open Go.RowKit Go.Proofs.YtjngnigelkgekaaW.PrintWords Go.Proofs.YtjngnigelkgekaaW.PrintLast Go.Proofs.YtjngnigelkgekaaW.PrintMore Go.Proofs.Ytjngnigelkgekaa.Kit
theorem C_of8 {W : World} {A : Option Addr} {n : Nat} {l : List Int} (h : ReadsOf (Value.int .u8) (0 : Int) W A n l) : U8.C W A n l := Kd.C_of_reads (d := (0 : Int)) (h1 := fun _ => rfl) h
theorem of_C8 {W : World} {A : Option Addr} {n : Nat} {l : List Int} (h : U8.C W A n l) : ReadsOf (Value.int .u8) (0 : Int) W A n l := Kd.reads_of_C (d := (0 : Int)) h
/-- A cut 'x[a:b]' of bytes. -/
theorem mid8 {A : Option Addr} {n c a b : Nat} {l : List Int} {J K : Int} (hJ : J = (a : Int)) (hK : K = (b : Int)) (hl : l.length = n) (hab : a ≤ b) (hb : b ≤ n) (hc : n ≤ c) :
    ∃ A', (∀ W : World, (Instr.slice 30 (.slice A n c) (some (.int .i64 J)) (some (.int .i64 K)) none).run Try.prog W = .ok (.slice A' (b - a) (c - a)) W) ∧ ∀ W : World, U8.C W A n l → U8.C W A' (b - a) ((l.take b).drop a) := by
  subst hJ hK hl
  obtain ⟨i, hi, hz⟩ := Option.map_eq_some_iff.1 infoB
  simp only [Prod.mk.injEq] at hz
  obtain ⟨A', h1, h2, _⟩ := print_mid_of (P := Try.prog) (Value.int .u8) (0 : Int) 30 5 .i64 .i64 Try.underlying30 hi hz.2.1 A c l (a : Int) (b : Int) (by omega) (by omega) (by omega) hc
  have hlen : ((l.take b).drop a).length = b - a := by rw [List.length_drop, List.length_take]; omega
  simp only [Int.toNat_natCast, hlen] at h1 h2
  exact ⟨A', h1, fun W h => C_of8 (h2 W (of_C8 h))⟩
/-- A cut 'x[a:]' of bytes. -/
theorem drop8 {A : Option Addr} {n c a : Nat} {l : List Int} {J : Int} (hJ : J = (a : Int)) (hl : l.length = n) (ha : a ≤ n) (hc : n ≤ c) :
    ∃ A', (∀ W : World, (Instr.slice 30 (.slice A n c) (some (.int .i64 J)) none none).run Try.prog W = .ok (.slice A' (n - a) (c - a)) W) ∧ ∀ W : World, U8.C W A n l → U8.C W A' (n - a) (l.drop a) := by
  subst hJ hl
  obtain ⟨i, hi, hz⟩ := Option.map_eq_some_iff.1 infoB
  simp only [Prod.mk.injEq] at hz
  obtain ⟨A', h1, h2, _⟩ := print_drop_of (P := Try.prog) (Value.int .u8) (0 : Int) 30 5 .i64 Try.underlying30 hi hz.2.1 A c l (a : Int) (by omega) (by omega) hc
  simp only [Int.toNat_natCast, List.length_drop] at h1 h2
  exact ⟨A', h1, fun W h => C_of8 (h2 W (of_C8 h))⟩
/-- A cut 'x[:b]' of bytes. -/
theorem take8 {A : Option Addr} {n c b : Nat} {l : List Int} {K : Int} (hK : K = (b : Int)) (hl : l.length = n) (hb : b ≤ n) (hc : n ≤ c) :
    (∀ W : World, (Instr.slice 30 (.slice A n c) none (some (.int .i64 K)) none).run Try.prog W = .ok (.slice A b c) W) ∧ ∀ W : World, U8.C W A n l → U8.C W A b (l.take b) := by
  subst hK hl
  obtain ⟨i, hi, hz⟩ := Option.map_eq_some_iff.1 infoB
  simp only [Prod.mk.injEq] at hz
  obtain ⟨h1, h2, _⟩ := print_take_of (P := Try.prog) (Value.int .u8) (0 : Int) 30 5 .i64 Try.underlying30 hi hz.2.1 A c l (b : Int) (by omega) (by omega) hc
  have hlen : (l.take b).length = b := by rw [List.length_take]; omega
  simp only [Int.toNat_natCast, hlen] at h1 h2
  exact ⟨h1, fun W h => C_of8 (h2 W (of_C8 h))⟩
/-- A cut 'x[a:b:c]'. -/
theorem cut3 (A : Option Addr) (n c i j k : Nat) (h1 : i ≤ j) (h2 : j ≤ k) (h3 : i < k) (h4 : k ≤ c) :
    ∀ W : World, (Instr.slice 30 (.slice A n c) (some (.int .i64 (i : Int))) (some (.int .i64 (j : Int))) (some (.int .i64 (k : Int)))).run Try.prog W = .ok (.slice (A.map (·.add i)) (j - i) (k - i)) W := by
  intro W
  obtain ⟨t, hi, hz⟩ := Option.map_eq_some_iff.1 infoB
  simp only [Prod.mk.injEq] at hz
  have e1 : (k : Int) ≤ c := by omega
  have e2 : (j : Int) ≤ k := by omega
  have e3 : (i : Int) ≤ j := by omega
  have e4 : ¬ k - i = 0 := by omega
  have e5 : k ≠ i := by omega
  simp [Instr.slice, run_underlying Try.underlying30, Instr.sliceBounds, run_sliceBound, sizeOf, typeInfo, hi, hz.2.1, e1, e2, e3, e4, e5, h1, h2, h4]
/-- A cut 'x[a:]', whatever lies there. -/
theorem cut1 (A : Option Addr) (n c i : Nat) (h1 : i ≤ n) (h2 : n ≤ c) :
    ∃ A', ∀ W : World, (Instr.slice 30 (.slice A n c) (some (.int .i64 (i : Int))) none none).run Try.prog W = .ok (.slice A' (n - i) (c - i)) W := by
  refine ⟨if c = i then A else A.map (·.add i), fun W => ?_⟩
  obtain ⟨t, hi, hz⟩ := Option.map_eq_some_iff.1 infoB
  simp only [Prod.mk.injEq] at hz
  have hel : Try.prog.elem 30 = 5 := by simp [Program.elem, Try.underlying30]
  have hu : Try.prog.underlying 30 = some (.slice (Try.prog.elem 30)) := by rw [hel]; exact Try.underlying30
  rw [run_slice_l W 30 A n c hu .i64 (i : Int) (by omega) (by omega), hel]
  simp [sizeOf, typeInfo, hi, hz.2.1, sliced, Result.andThen]
end Go.Proofs.Ytjngnigelkgekaa.Base

/- Rows whose elements' own rows are one's own too. -/
namespace Go.Proofs.Ytjngnigelkgekaa.Kit
set_option linter.unusedVariables false
set_option linter.unusedSimpArgs false
open Go.RowKit Go.Proofs.YtjngnigelkgekaaW.PrintWords Go.Proofs.YtjngnigelkgekaaW.PrintLast Go.Proofs.YtjngnigelkgekaaW.PrintMore
/-- One element of one's own, as its cells. -/
def El {α : Type} (d : Kd α) (x : α) (cs : List Value) : HP where
  P W ok := d.M W 0 ok x cs ∧ ∀ k, ok k → k < W.heap.size
  loc := fun {W W' ok} h hm => ⟨d.M_move hm h.1, fun k hk => by
      have := hm k hk
      rw [Array.getElem?_eq_getElem (h.2 k hk)] at this
      exact (Array.getElem?_eq_some_iff.1 this).1⟩
  bnd := fun h => h.2
namespace Sep
variable {w0 W W' : World} {F : List HP}
theorem elSlice {α : Type} {d : Kd α} {e : Nat} {v : Value} {xs : List α} (h : Sep w0 W (Row d e v xs :: F)) : Sep w0 W (El (Kd.slice e d) xs [v] :: F) := h.imp (fun ok hp => ⟨⟨v, rfl, hp.1⟩, hp.2⟩)
theorem elPair {α β : Type} {a : Kd α} {b : Kd β} {x : α} {y : β} {p q : List Value} (h : Sep w0 W (El b y q :: F)) (hp : ∀ W base ok, a.M W base ok x p) : Sep w0 W (El (Kd.pair a b) (x, y) (p ++ q) :: F) :=
  h.imp (fun ok hq => ⟨⟨p, q, rfl, hp _ _ _, hq.1⟩, hq.2⟩)
section
variable {P : Program} {ops : Array Oper} {rest : List Oper} {o : Oper} {a : Act} {Q : Exit → Act → World → Prop} {α : Type} {d : Kd α}
theorem appendDeep {e : Nat} {v : Value} {xs : List α} {x : α} {cs : List Value} (h : Sep w0 W (Row d e v xs :: El d x cs :: F)) (hgd : o.guard = none) (s y : Operand) (t : TypeId) (z : Value) (bytes : Nat)
    (ho : o.op = .call { callee := .builtin .append, args := #[s, y], argTypes := #[t, t] })
    (ht : P.underlying t = some (.slice e)) (hinfo : (P.info? e).map (fun i => (i.zero, i.size, i.bytes)) = some (some z, d.sz, bytes)) (hz : z.cells.size = d.sz) (hs0 : 0 < d.sz) (hb0 : 0 < bytes)
    (hs : a.eval s = v) (hx : a.eval y = .slice (some ⟨W.heap.size, 0, none⟩) 1 1) (hl : (xs.length + 1) * bytes ≤ 140737488355328)
    (k : ∀ v1 w1, W.heap.size ≤ w1.heap.size → Sep w0 w1 (Row d e v1 (xs ++ [x]) :: F) → wpList P ops Q rest (a.put o.dst v1) w1) : wpList P ops Q (o :: rest) a (W.alloc (.cells cs.toArray e)) := by
  obtain ⟨ok1, hp, hd1, ok2, hq, hd2, hF⟩ := h.sep
  refine Kd.R_append d (w0 := W) 0 hgd s y t e z bytes ho ht hinfo hz hs0 hb0 v xs x cs (fun k => (ok1 k ∨ ok2 k) ∨ W.heap.size ≤ k) ok2 hs hx hq.1 (fun k hk => ⟨.inl (.inr hk), fun he => hd2 k hk (.inr (hp.1.1 k he.symm))⟩) (fun k hk => .inr hk)
    (Kd.R_mono hp.1 (fun k hk => .inl (.inl hk))) (Below.refl 0 W) (Nat.zero_le _) hl (fun v1 w1 hr hb hg hat => k v1 w1 hb.size ?_)
  refine h.stepOk (ok := fun k => ok1 k ∨ ok2 k) (ok' := fun k => ((ok1 k ∨ ok2 k) ∨ W.heap.size ≤ k) ∧ k < w1.heap.size) (fun k hk => hk.elim (hd1 k) (fun h2 h3 => hd2 k h2 (.inl h3))) (hF.weaken (fun k hk => ?_)) ⟨hg.os, hg.tape, hg.output, hg.size⟩ (fun k hlt hn => hg.block k hlt (fun he => hn (.inl (hp.1.1 k he.symm))))
    ⟨Kd.R_mono (Kd.R_bound hr) (fun k hk => ⟨hk.1, hk.2.2.1⟩), fun k hk => hk.2⟩ (fun k hk => hk.1)
  rcases hk with h3 | h3 | h3
  · exact .inl (.inl h3)
  · exact .inl (.inr h3)
  · exact .inr h3
theorem appendDeepStep {Kc : Act → World → Prop} {e : Nat} {v : Value} {xs : List α} {x : α} {cs : List Value} (h : Sep w0 W (Row d e v xs :: El d x cs :: F)) (hw : Region.wanted o (yielded ops a.tmps) = true) (s y : Operand) (t : TypeId) (z : Value) (bytes : Nat)
    (ho : o.op = .call { callee := .builtin .append, args := #[s, y], argTypes := #[t, t] })
    (ht : P.underlying t = some (.slice e)) (hinfo : (P.info? e).map (fun i => (i.zero, i.size, i.bytes)) = some (some z, d.sz, bytes)) (hz : z.cells.size = d.sz) (hs0 : 0 < d.sz) (hb0 : 0 < bytes)
    (hs : a.eval s = v) (hx : a.eval y = .slice (some ⟨W.heap.size, 0, none⟩) 1 1) (hl : (xs.length + 1) * bytes ≤ 140737488355328)
    (k : ∀ v1 w1, W.heap.size ≤ w1.heap.size → Sep w0 w1 (Row d e v1 (xs ++ [x]) :: F) → Kc (a.put o.dst v1) w1) : if Region.wanted o (yielded ops a.tmps) = true then Oper.wp P o a (W.alloc (.cells cs.toArray e)) Kc Q else Kc (a.put o.dst undef) (W.alloc (.cells cs.toArray e)) := by
  obtain ⟨ok1, hp, hd1, ok2, hq, hd2, hF⟩ := h.sep
  refine Kd.R_append_step d (w0 := W) 0 hw s y t e z bytes ho ht hinfo hz hs0 hb0 v xs x cs (fun k => (ok1 k ∨ ok2 k) ∨ W.heap.size ≤ k) ok2 hs hx hq.1 (fun k hk => ⟨.inl (.inr hk), fun he => hd2 k hk (.inr (hp.1.1 k he.symm))⟩) (fun k hk => .inr hk)
    (Kd.R_mono hp.1 (fun k hk => .inl (.inl hk))) (Below.refl 0 W) (Nat.zero_le _) hl (fun v1 w1 hr hb hg hat => k v1 w1 hb.size ?_)
  refine h.stepOk (ok := fun k => ok1 k ∨ ok2 k) (ok' := fun k => ((ok1 k ∨ ok2 k) ∨ W.heap.size ≤ k) ∧ k < w1.heap.size) (fun k hk => hk.elim (hd1 k) (fun h2 h3 => hd2 k h2 (.inl h3))) (hF.weaken (fun k hk => ?_)) ⟨hg.os, hg.tape, hg.output, hg.size⟩ (fun k hlt hn => hg.block k hlt (fun he => hn (.inl (hp.1.1 k he.symm))))
    ⟨Kd.R_mono (Kd.R_bound hr) (fun k hk => ⟨hk.1, hk.2.2.1⟩), fun k hk => hk.2⟩ (fun k hk => hk.1)
  rcases hk with h3 | h3 | h3
  · exact .inl (.inl h3)
  · exact .inl (.inr h3)
  · exact .inr h3
end
end Sep
end Go.Proofs.Ytjngnigelkgekaa.Kit

/- Rows of elements of one cell each: the cells are one's own, what they lead to is read. -/
namespace Go.Proofs.Ytjngnigelkgekaa.Kit
set_option linter.unusedVariables false
set_option linter.unusedSimpArgs false
open Go.RowKit Go.Proofs.YtjngnigelkgekaaW.PrintWords Go.Proofs.YtjngnigelkgekaaW.PrintLast Go.Proofs.YtjngnigelkgekaaW.PrintMore
/-- A value that is one cell. -/
abbrev OV := { v : Value // v.oneCell' = true }
abbrev KV : Kd OV := Kd.scalar (fun x => x.1) (fun x => x.2)
def EachV {α : Type} (d : Kd α) (xs : List α) (cs : List OV) (W : World) : Prop := xs.length = cs.length ∧ ∀ (j : Nat) x c, xs[j]? = some x → cs[j]? = some c → d.K W x [c.1]
theorem EachV.nil {α : Type} (d : Kd α) (W : World) : EachV d [] [] W := ⟨rfl, fun j x c h => by simp at h⟩
theorem EachV.snoc {α : Type} {d : Kd α} {xs : List α} {cs : List OV} {W : World} {x : α} {c : OV} (h : EachV d xs cs W) (hx : d.K W x [c.1]) : EachV d (xs ++ [x]) (cs ++ [c]) W := by
  refine ⟨by simp [h.1], fun j y b hy hb => ?_⟩
  by_cases hj : j < xs.length
  · rw [List.getElem?_append_left hj] at hy
    rw [List.getElem?_append_left (by rw [← h.1]; exact hj)] at hb
    exact h.2 j y b hy hb
  · rw [List.getElem?_append_right (by omega)] at hy
    rw [List.getElem?_append_right (by have := h.1; omega)] at hb
    have : j - xs.length = 0 := by
      rcases Nat.eq_zero_or_pos (j - xs.length) with h0 | h0
      · exact h0
      · rw [List.getElem?_eq_none (by simp; omega)] at hy; cases hy
    rw [this] at hy
    rw [show j - cs.length = 0 by have := h.1; omega] at hb
    simp at hy hb
    subst hy hb
    exact hx
theorem EachV.set {α : Type} {d : Kd α} {xs : List α} {cs : List OV} {W : World} {x : α} {c : OV} (i : Nat) (h : EachV d xs cs W) (hx : d.K W x [c.1]) : EachV d (xs.set i x) (cs.set i c) W := by
  refine ⟨by simp [h.1], fun j y b hy hb => ?_⟩
  by_cases hj : i = j
  · subst hj
    rw [List.getElem?_set] at hy hb
    simp only [if_true] at hy hb
    split at hy
    · split at hb
      · cases hy; cases hb; exact hx
      · cases hb
    · cases hy
  · rw [List.getElem?_set_ne hj] at hy hb
    exact h.2 j y b hy hb
theorem eachV_C {α : Type} {d : Kd α} {W : World} {A : Option Addr} {n : Nat} {xs : List α} {cs : List OV} (hd : d.sz = 1) (hC : KV.C W A n cs) (h : EachV d xs cs W) : d.C W A n xs := by
  refine ⟨h.1.trans hC.1, hC.2.1, fun hp => ?_⟩
  obtain ⟨ad, e, hr⟩ := hC.2.2 hp
  refine ⟨ad, e, fun j x hx => ?_⟩
  have hlt : j < cs.length := by
    rw [← h.1]
    exact (List.getElem?_eq_some_iff.1 hx).1
  obtain ⟨c, hl, hk, hc⟩ := hr j _ (List.getElem?_eq_getElem hlt)
  have hk1 : c = [(cs[j]).1] := hk
  subst hk1
  rw [hd]
  exact ⟨_, rfl, h.2 j x _ hx (List.getElem?_eq_getElem hlt), hc⟩
def RowV {α : Type} (d : Kd α) (e : Nat) (v : Value) (xs : List α) : HP := Ex fun cs : List OV => Star [Row KV e v cs, Fx (EachV d xs cs)]
namespace Sep
variable {w0 W W' : World} {F : List HP} {α : Type} {d : Kd α} {e n c : Nat} {v : Value} {A : Option Addr} {xs : List α}
theorem rowV_open (h : Sep w0 W (RowV d e v xs :: F)) : ∃ cs, Sep w0 W (Row KV e v cs :: Fx (EachV d xs cs) :: F) := by
  obtain ⟨cs, h⟩ := h.ex
  exact ⟨cs, h.star⟩
theorem rowV_shut {cs : List OV} (h : Sep w0 W (Row KV e v cs :: Fx (EachV d xs cs) :: F)) : Sep w0 W (RowV d e v xs :: F) := Sep.unex cs (Sep.unstar (L := [_, _]) h)
theorem rowV_nil (h : Sep w0 W F) (d : Kd α) (e : Nat) : Sep w0 W (RowV d e (.slice none 0 0) [] :: F) := rowV_shut (cs := []) ((h.fxPure (fun W => EachV.nil d W)).nilRow _ _)
theorem rowVN (h : Sep w0 W (RowV d e v xs :: F)) (hn : xs.length = n) : ∃ A c, v = .slice A n c := by
  obtain ⟨cs, h⟩ := h.rowV_open
  exact h.rowN (n := n) (by rw [← h.at2.fx.1]; exact hn)
theorem rowVC (hd : d.sz = 1) (h : Sep w0 W (RowV d e (.slice A n c) xs :: F)) : n = xs.length ∧ n ≤ c ∧ d.C W A n xs := by
  obtain ⟨cs, h⟩ := h.rowV_open
  obtain ⟨h1, h2, h3⟩ := h.rowC
  have hE := h.at2.fx
  rw [← h1] at h3
  exact ⟨by rw [h1, hE.1], h2, eachV_C hd h3 hE⟩
section
variable {P : Program} {ops : Array Oper} {rest : List Oper} {o : Oper} {a : Act} {Q : Exit → Act → World → Prop}
/-- append(v, x): the literal's block holds the element's one cell. -/
theorem appendV {x : α} {cl : OV} (h : Sep w0 W (RowV d e v xs :: Cl d x [cl.1] :: F)) (hgd : o.guard = none) (s y : Operand) (t : TypeId) (z : Value) (bytes : Nat)
    (ho : o.op = .call { callee := .builtin .append, args := #[s, y], argTypes := #[t, t] })
    (ht : P.underlying t = some (.slice e)) (hinfo : (P.info? e).map (fun i => (i.zero, i.size, i.bytes)) = some (some z, 1, bytes)) (hz : z.cells.size = 1) (hb0 : 0 < bytes)
    (hs : a.eval s = v) (hx : a.eval y = .slice (some ⟨W.heap.size, 0, none⟩) 1 1) (hl : (xs.length + 1) * bytes ≤ 140737488355328)
    (k : ∀ v1 w1, Sep w0 w1 (RowV d e v1 (xs ++ [x]) :: F) → wpList P ops Q rest (a.put o.dst v1) w1) : wpList P ops Q (o :: rest) a (W.alloc (.cells #[cl.1] e)) := by
  obtain ⟨cs, h⟩ := h.rowV_open
  have hlen := h.at2.fx.1
  have hL := h.litRow (enc := fun x : OV => x.1) (h1 := fun x => x.2) (e := e) [cl] (by simp)
  have hL2 : Sep w0 (W.alloc (.cells #[cl.1] e)) (Row KV e v cs :: Row KV e (.slice (some ⟨W.heap.size, 0, none⟩) 1 1) [cl] :: Fx (EachV d xs cs) :: Cl d x [cl.1] :: F) := hL.at2
  refine hL2.appendRow hgd s y t z bytes ho ht hinfo hz hb0 (some ⟨W.heap.size, 0, none⟩) 1 1 hs hx hL2.at2.rowC.2.2 (by rw [← hlen]; exact hl) (fun v1 w1 h1 => k v1 w1 ?_)
  refine rowV_shut (cs := cs ++ [cl]) ?_
  have h2 := (h1.drop2.at2.perm (.cons _ (.swap _ _ _))).fxAnd (φ := EachV d xs cs) (ψ := fun W => d.K W x [cl.1])
  exact (h2.fxImp (fun W hW => hW.1.snoc hW.2)).at2
end
theorem rowVForm (h : Sep w0 W (RowV d e (.slice A n c) xs :: F)) (hp : 0 < n) : ∃ g, A = some ⟨g, 0, none⟩ := by
  obtain ⟨cs, h⟩ := h.rowV_open
  obtain ⟨g, cap, he⟩ := h.rowFormN (n := n) h.rowC.1.symm hp
  injection he with h1 h2 h3
  exact ⟨g, h1⟩
theorem rowVFrozen {g cap i : Nat} (h : Sep w0 W (RowV d e (.slice (some ⟨g, 0, none⟩) n cap) xs :: F)) (hi : i < n) : ∃ u, W.cell? ⟨g, i, none⟩ = some u ∧ W.frozen? ⟨g, i, none⟩ = false := by
  obtain ⟨cs, h⟩ := h.rowV_open
  exact ⟨_, h.rowCell (enc := fun x : OV => x.1) ⟨.int .i64 0, rfl⟩ i hi⟩
/-- A cell turned: it leads to another element. -/
theorem putV {g cap i : Nat} {x : α} {cl : OV} (h : Sep w0 W (RowV d e (.slice (some ⟨g, 0, none⟩) n cap) xs :: Cl d x [cl.1] :: F)) : Sep w0 (W.setCell ⟨g, i, none⟩ cl.1) (RowV d e (.slice (some ⟨g, 0, none⟩) n cap) (xs.set i x) :: F) := by
  obtain ⟨cs, h⟩ := h.rowV_open
  have h1 := h.putRow (enc := fun x : OV => x.1) i cl
  refine rowV_shut (cs := cs.set i cl) ?_
  have h2 := (h1.at2.perm (.cons _ (.swap _ _ _))).fxAnd (φ := EachV d xs cs) (ψ := fun W => d.K W x [cl.1])
  exact (h2.fxImp (fun W hW => hW.1.set i hW.2)).at2
end Sep
end Go.Proofs.Ytjngnigelkgekaa.Kit

/- slices.Equal of bytes. -/
namespace Go.Proofs.Ytjngnigelkgekaa.Base
set_option linter.unusedVariables false
set_option linter.unusedSimpArgs false
open Go.RowKit Go.Proofs.YtjngnigelkgekaaW.PrintWords Go.Proofs.YtjngnigelkgekaaW.PrintLast Go.Proofs.YtjngnigelkgekaaW.PrintMore Go.Proofs.Ytjngnigelkgekaa.Kit
theorem rdEq {xs : List Int} {j : Nat} (h : j < xs.length) : rd xs (j : Int) = xs[j] := by
  unfold rd
  rw [Int.toNat_natCast, List.getD_eq_getElem?_getD, List.getElem?_eq_getElem h]
  rfl
set_option maxHeartbeats 800000 in
set_option maxRecDepth 100000 in
theorem equal_ {A B : Option Addr} {n c m d : Nat} {xs ys : List Int} {w : World} (h1 : U8.C w A n xs) (h2 : U8.C w B m ys) :
    Calls Try.prog 92 #[.slice A n c, .slice B m d] w fun e w' => e = .returned (.bool (decide (xs = ys))) ∧ Below w.heap.size w w' := by
  obtain rfl : xs.length = n := h1.1
  obtain rfl : ys.length = m := h2.1
  have hm1 : xs.length ≤ 9223372036854775807 := h1.2.1
  have hm2 : ys.length ≤ 9223372036854775807 := h2.2.1
  have H1 := Aside0.mk h1
  have H2 := Aside0.mk h2
  clear h1 h2
  by_cases hl : xs.length = ys.length
  · have hl' : (xs.length : Int) = (ys.length : Int) := by omega
    go_enter Try.func92, Try.ntmps92
    go_wp2_with fail
    go_loopg [13] xs.length (fun k p wr => ∃ j : Nat, p = .int .i64 (j : Int) ∧ j + k = xs.length ∧ Below w.heap.size w wr ∧ ∀ i, i < j → xs[i]? = ys[i]?)
    case atStart => exact ⟨0, rfl, by omega, Below.refl _ _, fun i hi => by omega⟩
    case round =>
      obtain ⟨j, rfl, hjk, hB, hp⟩ := hrel
      have AB := Aside0.mk hB
      have AP := Aside0.mk hp
      have AK := Aside0.mk hjk
      clear hB hp
      by_cases hj : j < xs.length
      · clear hjk
        obtain ⟨ad, hA, hc⟩ := Kd.at_int (Kd.C_below H1.out AB.out) (j : Int) (by omega) (by omega)
        obtain ⟨bd, hB, hd⟩ := Kd.at_int (Kd.C_below H2.out AB.out) (j : Int) (by omega) (by omega)
        subst hA hB
        rw [Int.toNat_natCast] at hc hd
        have AR : Aside0 (rd xs (j : Int) = xs[j]) := ⟨rdEq hj⟩
        have AS : Aside0 (rd ys (j : Int) = ys[j]) := ⟨rdEq (by omega)⟩
        generalize rd xs (j : Int) = x at *
        generalize rd ys (j : Int) = y at *
        by_cases hxy : x = y
        · go_wp2_with fail
          go_quiet (fail)
          go_wp2_with fail
          go_roundg (gk - 1)
          case measure => have := AK.out; omega
          case rel => exact ⟨j + 1, by go_num, by have := AK.out; omega, pw_below_drewN AB.out _, fun i hi => by
            by_cases hij : i < j
            · exact AP.out i hij
            · obtain rfl : i = j := by omega
              rw [List.getElem?_eq_getElem hj, List.getElem?_eq_getElem (by omega), ← AR.out, ← AS.out, hxy]⟩
        · have hne : xs ≠ ys := fun h => hxy (by rw [AR.out, AS.out]; exact List.getElem_of_eq h hj)
          have ANE := Aside0.mk hne
          have hb : (x != y) = true := by simpa using hxy
          clear hne
          go_wp2_with fail
          go_quiet (fail)
          go_wp2_with fail
          go_ret
          exact ⟨by rw [decide_eq_false ANE.out]; rfl, pw_below_drewN AB.out _⟩
      · have hq : xs = ys := List.ext_getElem? (fun i => by
          by_cases hi : i < j
          · exact AP.out i hi
          · rw [List.getElem?_eq_none (by omega), List.getElem?_eq_none (by omega)])
        have AQ := Aside0.mk hq
        clear hq hjk
        go_wp2_with fail
        go_ret
        exact ⟨by rw [decide_eq_true AQ.out]; rfl, AB.out⟩
  · have hne : xs ≠ ys := fun h => hl (by rw [h])
    have ANE := Aside0.mk hne
    have hl' : ¬ (xs.length : Int) = (ys.length : Int) := by omega
    clear hne
    go_enter Try.func92, Try.ntmps92
    go_wp2_with fail
    go_ret
    exact ⟨by rw [decide_eq_false ANE.out]; rfl, Below.refl _ _⟩
end Go.Proofs.Ytjngnigelkgekaa.Base
