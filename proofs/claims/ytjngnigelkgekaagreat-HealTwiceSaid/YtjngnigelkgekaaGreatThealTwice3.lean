/- Sep, MapInt, Keys, Fx, StSet, RowF, RowV, Elem, Base, Bits: what HealTwice needs. -/
import Derived.Test.YtjngnigelkgekaaGreatThealTwice2
import Derived.WalkKit
import Derived.KernelRfl
import Derived.Carry
import Derived.Test.YtjngnigelkgekaaGreatShelf
import Derived.Maps.Keyed
import Derived.WalkArith
import Derived.Test.YtjngnigelkgekaaGreatProg
import Derived.WalkSpells
import Derived.Deep.QuietTactic
import Derived.BigQuiet
set_option linter.unusedVariables false
set_option linter.unusedSimpArgs false
namespace Go.Proofs.YtjngnigelkgekaaGreat.Kit
open Go.RowKit Go.Proofs.YtjngnigelkgekaaGreatW.PrintWords Go.Proofs.YtjngnigelkgekaaGreatW.PrintLast Go.Proofs.YtjngnigelkgekaaGreatW.PrintMore
structure HP where
  P : World → (Nat → Prop) → Prop
  loc : ∀ {W W' : World} {ok : Nat → Prop}, P W ok → (∀ k, ok k → W'.heap[k]? = W.heap[k]?) → P W' ok
  bnd : ∀ {W : World} {ok : Nat → Prop}, P W ok → ∀ k, ok k → k < W.heap.size
def SepR (W : World) : (Nat → Prop) → List HP → Prop
  | _, [] => True
  | av, p :: L => ∃ ok, p.P W ok ∧ (∀ k, ok k → ¬ av k) ∧ SepR W (fun k => av k ∨ ok k) L
namespace SepR
variable {W W' : World} {av av' : Nat → Prop} {L L' F : List HP} {p q p' : HP}
theorem weaken : ∀ {L : List HP} {av av' : Nat → Prop}, (∀ k, av' k → av k) → SepR W av L → SepR W av' L
  | [], _, _, _, _ => trivial
  | p :: L, _, _, hs, ⟨ok, hp, hd, h⟩ => ⟨ok, hp, fun k hk ha => hd k hk (hs k ha), weaken (fun k hk => hk.imp (hs k) id) h⟩
theorem move : ∀ {L : List HP} {av : Nat → Prop}, SepR W av L → (∀ k, k < W.heap.size → ¬ av k → W'.heap[k]? = W.heap[k]?) → SepR W' av L
  | [], _, _, _ => trivial
  | p :: L, _, ⟨ok, hp, hd, h⟩, hm => ⟨ok, p.loc hp (fun k hk => hm k (p.bnd hp k hk) (hd k hk)), hd, move h (fun k hlt hn => hm k hlt (fun ha => hn (.inl ha)))⟩
theorem swap (h : SepR W av (p :: q :: L)) : SepR W av (q :: p :: L) := by
  obtain ⟨op, hp, dp, oq, hq, dq, h⟩ := h
  exact ⟨oq, hq, fun k hk ha => dq k hk (.inl ha), op, hp, fun k hk ha => ha.elim (dp k hk) (fun ho => dq k ho (.inr hk)), weaken (fun k (hk : (av k ∨ oq k) ∨ op k) => hk.elim (fun h3 => h3.elim (fun h1 => .inl (.inl h1)) .inr) (fun h2 => .inl (.inr h2))) h⟩
theorem perm (hp : L.Perm L') : ∀ {av : Nat → Prop}, SepR W av L → SepR W av L' := by
  induction hp with
  | nil => exact fun h => h
  | cons x _ ih => exact fun ⟨ok, hx, hd, h⟩ => ⟨ok, hx, hd, ih h⟩
  | swap x y l => exact fun h => swap h
  | trans _ _ ih1 ih2 => exact fun h => ih2 (ih1 h)
theorem app_of : ∀ {L : List HP} {av ok : Nat → Prop}, (∀ k, ok k → ¬ av k) → SepR W (fun k => ¬ ok k) L → SepR W (fun k => av k ∨ ok k) F → SepR W av (L ++ F)
  | [], _, _, _, _, h => weaken (fun k hk => .inl hk) h
  | p :: L, av, ok, hd, ⟨op, hp, dp, h⟩, hF => by
    refine ⟨op, hp, fun k hk => hd k (Classical.not_not.1 (dp k hk)), app_of (ok := fun k => ok k ∧ ¬ op k) (fun k hk ha => ha.elim (hd k hk.1) hk.2) (weaken (fun k hk => ?_) h) (weaken (fun k hk => ?_) hF)⟩
    · by_cases h1 : ok k
      · exact .inr (Classical.not_not.1 (fun h2 => hk ⟨h1, h2⟩))
      · exact .inl h1
    · rcases hk with (h1 | h2) | h3
      · exact .inl h1
      · exact .inr (Classical.not_not.1 (dp k h2))
      · exact .inr h3.1
theorem of_app : ∀ {L : List HP} {av : Nat → Prop}, SepR W av (L ++ F) → ∃ ok : Nat → Prop, (∀ k, ok k → k < W.heap.size) ∧ (∀ k, ok k → ¬ av k) ∧ SepR W (fun k => ¬ ok k) L ∧ SepR W (fun k => av k ∨ ok k) F
  | [], _, h => ⟨fun _ => False, fun _ hf => hf.elim, fun _ hf => hf.elim, trivial, weaken (fun k hk => hk.elim id (fun hf => hf.elim)) h⟩
  | p :: L, av, ⟨op, hp, dp, h⟩ => by
    obtain ⟨o1, hb, hd, h1, h2⟩ := of_app h
    refine ⟨fun k => op k ∨ o1 k, fun k hk => hk.elim (p.bnd hp k) (hb k), fun k hk => hk.elim (dp k) (fun ho ha => hd k ho (.inl ha)), ⟨op, hp, fun k hk hn => hn (.inl hk), weaken (fun k hk ho => ?_) h1⟩, weaken (fun k hk => ?_) h2⟩
    · rcases hk with h3 | h3
      · exact h3 (.inr ho)
      · exact hd k ho (.inr h3)
    · rcases hk with h3 | h3 | h3
      · exact .inl (.inl h3)
      · exact .inl (.inr h3)
      · exact .inr h3
theorem fresh : ∀ {L : List HP} {av : Nat → Prop}, SepR W av L → SepR W (fun k => av k ∨ W.heap.size ≤ k) L
  | [], _, _ => trivial
  | p :: L, av, ⟨ok, hp, hd, h⟩ => ⟨ok, hp, fun k hk ha => ha.elim (hd k hk) (fun h2 => by have := p.bnd hp k hk; omega), weaken (fun k (hk : (av k ∨ W.heap.size ≤ k) ∨ ok k) => hk.elim (fun h3 => h3.elim (fun h1 => .inl (.inl h1)) .inr) (fun h1 => .inl (.inr h1))) (fresh h)⟩
end SepR
structure Sep (w0 W : World) (L : List HP) : Prop where
  os : W.os = w0.os
  tape : W.tape = w0.tape
  output : W.output = w0.output
  size : w0.heap.size ≤ W.heap.size
  old : ∀ k, k < w0.heap.size → W.heap[k]? = w0.heap[k]?
  sep : SepR W (fun k => k < w0.heap.size) L
def Star (L : List HP) : HP where
  P W ok := (∀ k, ok k → k < W.heap.size) ∧ SepR W (fun k => ¬ ok k) L
  loc := fun {W W' ok} h hm => ⟨fun k hk => by
      have := hm k hk
      rw [Array.getElem?_eq_getElem (h.1 k hk)] at this
      exact (Array.getElem?_eq_some_iff.1 this).1, h.2.move (fun k _ hk => hm k (Classical.not_not.1 hk))⟩
  bnd := fun h => h.1
def Ex {α : Type} (p : α → HP) : HP where
  P W ok := ∃ x, (p x).P W ok
  loc := fun ⟨x, h⟩ hm => ⟨x, (p x).loc h hm⟩
  bnd := fun ⟨x, h⟩ => (p x).bnd h
def Pu (φ : Prop) : HP where
  P W ok := φ ∧ ∀ k, ¬ ok k
  loc := fun h _ => h
  bnd := fun h k hk => (h.2 k hk).elim
def Blk (g : Nat) (t : TypeId) (cs : Array Value) : HP where
  P W ok := (∀ k, ok k ↔ k = g) ∧ W.heap[g]? = some (.cells cs t (0, 0))
  loc := fun h hm => ⟨h.1, (hm _ ((h.1 _).2 rfl)).trans h.2⟩
  bnd := fun h k hk => by rw [(h.1 k).1 hk]; exact blk_lt h.2
def MapB (g : Nat) (es : Array MapEntry) (clock : Nat) : HP where
  P W ok := (∀ k, ok k ↔ k = g) ∧ W.heap[g]? = some (.map es clock)
  loc := fun h hm => ⟨h.1, (hm _ ((h.1 _).2 rfl)).trans h.2⟩
  bnd := fun h k hk => by rw [(h.1 k).1 hk]; exact blk_lt h.2
def Row {α : Type} (d : Kd α) (e : Nat) (v : Value) (xs : List α) : HP where
  P W ok := d.R e W 0 ok v xs ∧ ∀ k, ok k → k < W.heap.size
  loc := fun {W W' ok} h hm => ⟨Kd.R_move h.1 hm, fun k hk => by
      have := hm k hk
      rw [Array.getElem?_eq_getElem (h.2 k hk)] at this
      exact (Array.getElem?_eq_some_iff.1 this).1⟩
  bnd := fun h => h.2
def Rd {α : Type} (d : Kd α) (A : Option Addr) (n : Nat) (xs : List α) : HP where
  P W ok := (∀ W' : World, (∀ k, ok k → W'.heap[k]? = W.heap[k]?) → d.C W' A n xs) ∧ ∀ k, ok k → k < W.heap.size
  loc := fun {W W' ok} h hm => ⟨fun W2 h2 => h.1 W2 (fun k hk => (h2 k hk).trans (hm k hk)), fun k hk => by
      have := hm k hk
      rw [Array.getElem?_eq_getElem (h.2 k hk)] at this
      exact (Array.getElem?_eq_some_iff.1 this).1⟩
  bnd := fun h => h.2
namespace Sep
variable {w0 W W' W2 : World} {L L' F R : List HP} {p q r s t u : HP}
theorem start (w : World) : Sep w w [] := ⟨rfl, rfl, rfl, Nat.le_refl _, fun _ _ => rfl, trivial⟩
theorem toBelow (h : Sep w0 W L) : Below w0.heap.size w0 W := ⟨h.os, h.tape, h.output, h.size, h.old⟩
theorem perm (h : Sep w0 W L) (hp : L.Perm L') : Sep w0 W L' := ⟨h.os, h.tape, h.output, h.size, h.old, h.sep.perm hp⟩
theorem at2 (h : Sep w0 W (p :: q :: F)) : Sep w0 W (q :: p :: F) := h.perm (.swap _ _ _)
theorem at3 (h : Sep w0 W (p :: q :: r :: F)) : Sep w0 W (r :: p :: q :: F) := h.perm ((List.Perm.cons p (.swap _ _ _)).trans (.swap _ _ _))
theorem sw23 (h : Sep w0 W (p :: q :: r :: F)) : Sep w0 W (p :: r :: q :: F) := h.perm (.cons _ (.swap _ _ _))
theorem to3 (h : Sep w0 W (p :: q :: r :: F)) : Sep w0 W (q :: r :: p :: F) := h.perm ((List.Perm.swap _ _ _).trans (.cons _ (.swap _ _ _)))
theorem at4 (h : Sep w0 W (p :: q :: r :: s :: F)) : Sep w0 W (s :: p :: q :: r :: F) := (h.perm (.cons p ((List.Perm.cons q (.swap _ _ _)).trans (.swap _ _ _)))).at2
theorem to4 (h : Sep w0 W (p :: q :: r :: s :: F)) : Sep w0 W (q :: r :: s :: p :: F) := h.at2.perm (.cons _ ((List.Perm.swap _ _ _).trans (.cons _ (.swap _ _ _))))
theorem at5 (h : Sep w0 W (p :: q :: r :: s :: t :: F)) : Sep w0 W (t :: p :: q :: r :: s :: F) := (h.perm (.cons p (.cons q ((List.Perm.cons r (.swap _ _ _)).trans (.swap _ _ _))))).at3
theorem tail (h : Sep w0 W (p :: F)) : Sep w0 W F := by
  obtain ⟨ok, _, _, h2⟩ := h.sep
  exact ⟨h.os, h.tape, h.output, h.size, h.old, h2.weaken (fun k hk => .inl hk)⟩
theorem drop2 (h : Sep w0 W (p :: q :: F)) : Sep w0 W (p :: F) := h.at2.tail
theorem weak (h : Sep w0 W (L ++ F)) : Sep w0 W F := by
  induction L with
  | nil => exact h
  | cons p L ih => exact ih h.tail
theorem weakR (h : Sep w0 W (L ++ F)) : Sep w0 W L := (h.perm List.perm_append_comm).weak
theorem below (h : Sep w0 W L) (hb : Below W.heap.size W W') : Sep w0 W' L :=
  ⟨hb.os.trans h.os, hb.tape.trans h.tape, hb.output.trans h.output, Nat.le_trans h.size hb.size, fun k hk => (hb.block k (Nat.lt_of_lt_of_le hk h.size)).trans (h.old k hk), h.sep.move (fun k hk _ => hb.block k hk)⟩
theorem drew (h : Sep w0 W L) : Sep w0 W.drew L := h.below (below_drew (Below.refl _ _))
theorem drewN (h : Sep w0 W L) (n : Nat) : Sep w0 (W.drewN n) L := h.below (pw_below_drewN (Below.refl _ _) n)
theorem alloc (h : Sep w0 W L) (o : Obj) : Sep w0 (W.alloc o) L := h.below (below_alloc (Below.refl _ _) o)
theorem stepOk {ok ok' : Nat → Prop} (h : Sep w0 W L) (hd : ∀ k, ok k → ¬ k < w0.heap.size) (hF : SepR W (fun k => k < w0.heap.size ∨ ok k) F) (hg : W'.os = W.os ∧ W'.tape = W.tape ∧ W'.output = W.output ∧ W.heap.size ≤ W'.heap.size)
    (hm : ∀ k, k < W.heap.size → ¬ ok k → W'.heap[k]? = W.heap[k]?) (hq : q.P W' ok') (hk' : ∀ k, ok' k → ok k ∨ W.heap.size ≤ k) : Sep w0 W' (q :: F) := by
  refine ⟨hg.1.trans h.os, hg.2.1.trans h.tape, hg.2.2.1.trans h.output, Nat.le_trans h.size hg.2.2.2, fun k hk => (hm k (Nat.lt_of_lt_of_le hk h.size) (fun ho => hd k ho hk)).trans (h.old k hk), ok', hq, fun k hk ha => ?_, ?_⟩
  · rcases hk' k hk with h1 | h1
    · exact hd k h1 ha
    · have := h.size; omega
  · have h1 := (hF.fresh).move (W' := W') (fun k hlt hn => hm k hlt (fun ho => hn (.inl (.inr ho))))
    exact h1.weaken (fun k hk => hk.elim (fun h3 => .inl (.inl h3)) (fun h3 => (hk' k h3).elim (fun h4 => .inl (.inr h4)) .inr))
theorem step (h : Sep w0 W (p :: F)) (hg : W'.os = W.os ∧ W'.tape = W.tape ∧ W'.output = W.output ∧ W.heap.size ≤ W'.heap.size)
    (hs : ∀ ok, p.P W ok → (∀ k, k < W.heap.size → ¬ ok k → W'.heap[k]? = W.heap[k]?) ∧ ∃ ok', q.P W' ok' ∧ ∀ k, ok' k → ok k ∨ W.heap.size ≤ k) : Sep w0 W' (q :: F) := by
  obtain ⟨ok, hp, hd, hF⟩ := h.sep
  obtain ⟨hm, ok', hq, hk'⟩ := hs ok hp
  exact h.stepOk hd hF hg hm hq hk'
theorem gain (h : Sep w0 W F) (hb : Below W.heap.size W W') {ok : Nat → Prop} (hq : q.P W' ok) (hk : ∀ k, ok k → W.heap.size ≤ k) : Sep w0 W' (q :: F) := by
  have h1 := h.below hb
  refine ⟨h1.os, h1.tape, h1.output, h1.size, h1.old, ok, hq, fun k ho ha => ?_, ?_⟩
  · have := hk k ho; have := h.size; omega
  · have h2 := (h.sep.fresh).move (W' := W') (fun k hlt _ => hb.block k hlt)
    exact h2.weaken (fun k hk2 => hk2.imp id (hk k))
theorem lift (h : Sep w0 W F) (hR : Sep W W' R) : Sep w0 W' (R ++ F) := by
  have h1 := h.below hR.toBelow
  refine ⟨h1.os, h1.tape, h1.output, h1.size, h1.old, SepR.app_of (ok := fun k => W.heap.size ≤ k) (fun k hk ha => by have := h.size; omega) (hR.sep.weaken (fun k hk => by omega)) ?_⟩
  exact (h.sep.fresh).move (W' := W') (fun k hlt _ => hR.toBelow.block k hlt)
theorem lift1 (h : Sep w0 W F) (hR : Sep W W' [p]) : Sep w0 W' (p :: F) := h.lift hR
theorem star (h : Sep w0 W (Star L :: F)) : Sep w0 W (L ++ F) := by
  obtain ⟨ok, hp, hd, hF⟩ := h.sep
  exact ⟨h.os, h.tape, h.output, h.size, h.old, SepR.app_of hd hp.2 hF⟩
theorem unstar (h : Sep w0 W (L ++ F)) : Sep w0 W (Star L :: F) := by
  obtain ⟨ok, hb, hd, h1, h2⟩ := SepR.of_app h.sep
  exact ⟨h.os, h.tape, h.output, h.size, h.old, ok, ⟨hb, h1⟩, hd, h2⟩
theorem ex {α : Type} {p : α → HP} (h : Sep w0 W (Ex p :: F)) : ∃ x, Sep w0 W (p x :: F) := by
  obtain ⟨ok, ⟨x, hp⟩, hd, hF⟩ := h.sep
  exact ⟨x, h.os, h.tape, h.output, h.size, h.old, ok, hp, hd, hF⟩
theorem unex {α : Type} {p : α → HP} (x : α) (h : Sep w0 W (p x :: F)) : Sep w0 W (Ex p :: F) := by
  obtain ⟨ok, hp, hd, hF⟩ := h.sep
  exact ⟨h.os, h.tape, h.output, h.size, h.old, ok, ⟨x, hp⟩, hd, hF⟩
theorem pu {φ : Prop} (h : Sep w0 W (Pu φ :: F)) : φ ∧ Sep w0 W F := by
  obtain ⟨ok, hp, hd, hF⟩ := h.sep
  exact ⟨hp.1, h.tail⟩
theorem unpu {φ : Prop} (hφ : φ) (h : Sep w0 W F) : Sep w0 W (Pu φ :: F) :=
  ⟨h.os, h.tape, h.output, h.size, h.old, fun _ => False, ⟨hφ, fun _ hf => hf⟩, fun _ hf => hf.elim, h.sep.weaken (fun k hk => hk.elim id (fun hf => hf.elim))⟩
theorem imp (h : Sep w0 W (p :: F)) (hi : ∀ ok, p.P W ok → q.P W ok) : Sep w0 W (q :: F) := by
  obtain ⟨ok, hp, hd, hF⟩ := h.sep
  exact ⟨h.os, h.tape, h.output, h.size, h.old, ok, hi ok hp, hd, hF⟩
section
variable {g : Nat} {ty : TypeId} {cs : Array Value} {es : Array MapEntry} {clock : Nat}
theorem blk (h : Sep w0 W (Blk g ty cs :: F)) : W.heap[g]? = some (.cells cs ty (0, 0)) := by
  obtain ⟨ok, hp, _⟩ := h.sep; exact hp.2
theorem cell (h : Sep w0 W (Blk g ty cs :: F)) (i : Nat) : W.cell? ⟨g, i, none⟩ = cs[i]? := cell_of_row W g i cs ty (0, 0) h.blk
theorem frozen (h : Sep w0 W (Blk g ty cs :: F)) (i : Nat) : W.frozen? ⟨g, i, none⟩ = false := by simp [World.frozen?, h.blk]
theorem map (h : Sep w0 W (MapB g es clock :: F)) : W.heap[g]? = some (.map es clock) := by
  obtain ⟨ok, hp, _⟩ := h.sep; exact hp.2
theorem newBlk (h : Sep w0 W F) (t : TypeId) (cs : Array Value) : Sep w0 (W.alloc (.cells cs t)) (Blk W.heap.size t cs :: F) :=
  h.gain (below_alloc (Below.refl _ _) _) (ok := fun k => k = W.heap.size) ⟨fun _ => Iff.rfl, blk_new W _⟩ (fun k hk => by omega)
theorem newMap (h : Sep w0 W F) : Sep w0 (W.alloc (.map #[] 0)) (MapB W.heap.size #[] 0 :: F) :=
  h.gain (below_alloc (Below.refl _ _) _) (ok := fun k => k = W.heap.size) ⟨fun _ => Iff.rfl, blk_new W _⟩ (fun k hk => by omega)
theorem setBlk (h : Sep w0 W (Blk g ty cs :: F)) (i : Nat) (u : Value) : Sep w0 (W.setCell ⟨g, i, none⟩ u) (Blk g ty (cs.setIfInBounds i u) :: F) :=
  h.step ⟨rfl, rfl, rfl, by simp [World.setCell]⟩ (fun ok hp => ⟨fun k _ hn => Below.heap_setCell W _ u k (fun he => hn ((hp.1 k).2 he)), ok, ⟨hp.1, by
    have := hp.2
    simp [World.setCell, Array.getElem?_modify, this]⟩, fun k hk => .inl hk⟩)
theorem setMap (h : Sep w0 W (MapB g es clock :: F)) (es' : Array MapEntry) (clock' : Nat) : Sep w0 { W with heap := W.heap.setIfInBounds g (.map es' clock') } (MapB g es' clock' :: F) :=
  h.step ⟨rfl, rfl, rfl, by simp⟩ (fun ok hp => ⟨fun k _ hn => by
    have hne : g ≠ k := fun he => hn ((hp.1 k).2 he.symm)
    simp [Array.getElem?_setIfInBounds, hne], ok, ⟨hp.1, by
    have hlt := blk_lt hp.2
    simp [Array.getElem?_setIfInBounds, hlt]⟩, fun k hk => .inl hk⟩)
end
section
variable {α : Type} {d : Kd α} {e n c : Nat} {v : Value} {A : Option Addr} {xs : List α}
theorem row (h : Sep w0 W (Row d e v xs :: F)) : ∃ ok, d.R e W 0 ok v xs := by
  obtain ⟨ok, hp, _⟩ := h.sep; exact ⟨ok, hp.1⟩
theorem rowV (h : Sep w0 W (Row d e v xs :: F)) : ∃ A c, v = .slice A xs.length c := by
  obtain ⟨ok, hr⟩ := h.row; exact Kd.R_slice hr
theorem rowN (h : Sep w0 W (Row d e v xs :: F)) (hn : xs.length = n) : ∃ A c, v = .slice A n c := by
  subst hn; exact h.rowV
theorem rowC (h : Sep w0 W (Row d e (.slice A n c) xs :: F)) : n = xs.length ∧ n ≤ c ∧ d.C W A xs.length xs := by
  obtain ⟨ok, hr⟩ := h.row; exact Kd.R_reads' hr
theorem rowForm (h : Sep w0 W (Row d e v xs :: F)) (hp : 0 < xs.length) : ∃ g cap, v = .slice (some ⟨g, 0, none⟩) xs.length cap := by
  obtain ⟨ok, hr⟩ := h.row
  obtain ⟨g, cap, hv, _⟩ := Kd.R_form hr hp
  exact ⟨g, cap, hv⟩
theorem rowFormN (h : Sep w0 W (Row d e v xs :: F)) (hn : xs.length = n) (hp : 0 < n) : ∃ g cap, v = .slice (some ⟨g, 0, none⟩) n cap := by
  subst hn; exact h.rowForm hp
theorem newRow {ok : Nat → Prop} (h : Sep w0 W F) (hr : d.R e W' W.heap.size ok v xs) (hb : Below W.heap.size W W') : Sep w0 W' (Row d e v xs :: F) :=
  h.gain hb (ok := fun k => ok k ∧ W.heap.size ≤ k ∧ k < W'.heap.size) ⟨Kd.R_lower (Kd.R_mono (Kd.R_bound hr) (fun k hk => ⟨hk.1, hk.2.1, hk.2.2.1⟩)) (Nat.zero_le _), fun k hk => hk.2.2⟩ (fun k hk => hk.2.1)
theorem nilRow (h : Sep w0 W F) (d : Kd α) (e : Nat) : Sep w0 W (Row d e (.slice none 0 0) [] :: F) :=
  h.gain (Below.refl _ _) (ok := fun _ => False) ⟨Kd.R_nil _ _ _ _ _, fun _ hf => hf.elim⟩ (fun _ hf => hf.elim)
theorem rowRd (h : Sep w0 W (Row d e (.slice A n c) xs :: F)) : Sep w0 W (Rd d A n xs :: F) := by
  refine h.imp (fun ok hp => ⟨fun W' hm => ?_, hp.2⟩)
  have h2 := Kd.R_reads' (Kd.R_move hp.1 hm)
  rw [h2.1]; exact h2.2.2
theorem rd (h : Sep w0 W (Rd d A n xs :: F)) : d.C W A n xs := by
  obtain ⟨ok, hp, _⟩ := h.sep; exact hp.1 W (fun _ _ => rfl)
end
section
variable {α : Type} {enc : α → Value} {h1 : ∀ x, (enc x).oneCell' = true} {e g n cap : Nat} {xs : List α}
theorem rowCell (d : α) (h : Sep w0 W (Row (Kd.scalar enc h1) e (.slice (some ⟨g, 0, none⟩) n cap) xs :: F)) (i : Nat) (hi : i < n) : W.cell? ⟨g, i, none⟩ = some (enc (xs.getD i d)) ∧ W.frozen? ⟨g, i, none⟩ = false := by
  obtain ⟨ok, hr⟩ := h.row
  have := Kd.R_celln d hr (i : Int) (by omega) (by omega)
  simpa [rdOf] using this
theorem putRow (h : Sep w0 W (Row (Kd.scalar enc h1) e (.slice (some ⟨g, 0, none⟩) n cap) xs :: F)) (i : Nat) (x : α) :
    Sep w0 (W.setCell ⟨g, i, none⟩ (enc x)) (Row (Kd.scalar enc h1) e (.slice (some ⟨g, 0, none⟩) n cap) (xs.set i x) :: F) :=
  h.step ⟨rfl, rfl, rfl, by simp [World.setCell]⟩ (fun ok hp => ⟨fun k _ hn => Below.heap_setCell W _ _ k (fun he => hn (by
      have := hp.1.1 g rfl
      rw [he]; exact this)), ok, ⟨by
    have := (Kd.R_putg hp.1 (i : Int) x).1
    simpa using this, fun k hk => by simpa [World.setCell] using hp.2 k hk⟩, fun k hk => .inl hk⟩)
end
section
variable {P : Program} {ops : Array Oper} {rest : List Oper} {o : Oper} {a : Act} {Q : Exit → Act → World → Prop} {α : Type} {enc : α → Value} {h1 : ∀ x, (enc x).oneCell' = true}
theorem appendRow {e : Nat} {v : Value} {xs ys : List α} (h : Sep w0 W (Row (Kd.scalar enc h1) e v xs :: F)) (hgd : o.guard = none) (s x : Operand) (t : TypeId) (z : Value) (bytes : Nat)
    (ho : o.op = .call { callee := .builtin .append, args := #[s, x], argTypes := #[t, t] })
    (ht : P.underlying t = some (.slice e)) (hinfo : (P.info? e).map (fun i => (i.zero, i.size, i.bytes)) = some (some z, 1, bytes)) (hz : z.cells.size = 1) (hb0 : 0 < bytes)
    (A : Option Addr) (m c : Nat) (hs : a.eval s = v) (hx : a.eval x = .slice A m c) (hC : (Kd.scalar enc h1).C W A m ys) (hl : (xs.length + ys.length) * bytes ≤ 140737488355328)
    (k : ∀ v1 w1, Sep w0 w1 (Row (Kd.scalar enc h1) e v1 (xs ++ ys) :: F) → wpList P ops Q rest (a.put o.dst v1) w1) : wpList P ops Q (o :: rest) a W := by
  obtain ⟨ok, hp, hd, hF⟩ := h.sep
  refine Kd.R_append_rows (Kd.scalar enc h1) (Rr := fun x cs => cs = [enc x]) (w0 := W) 0 hgd s x t e z bytes ho ht hinfo hz (by show 0 < 1; omega) hb0 v xs ys A m c (fun k => ok k ∨ W.heap.size ≤ k) (fun _ => False) hs hx
    (Kd.R_mono hp.1 (fun k hk => .inl hk)) hC (fun x cs h => h) (fun _ h => h.elim) (fun k hk => .inr hk) (Below.refl 0 W) (Nat.zero_le _) (by rw [← hC.1]; exact hl) (fun v1 w1 hr hb hg hat => k v1 w1 ?_)
  exact h.stepOk hd hF ⟨hg.os, hg.tape, hg.output, hg.size⟩ (fun k hlt hn => hg.block k hlt (fun he => hn (hp.1.1 k he.symm))) (ok' := fun k => (ok k ∨ W.heap.size ≤ k) ∧ k < w1.heap.size)
    ⟨Kd.R_mono (Kd.R_bound hr) (fun k hk => ⟨hk.1, hk.2.2.1⟩), fun k hk => hk.2⟩ (fun k hk => hk.1)
theorem appendStep {Kc : Act → World → Prop} {e : Nat} {v : Value} {xs ys : List α} (h : Sep w0 W (Row (Kd.scalar enc h1) e v xs :: F)) (hw : Region.wanted o (yielded ops a.tmps) = true) (s x : Operand) (t : TypeId) (z : Value) (bytes : Nat)
    (ho : o.op = .call { callee := .builtin .append, args := #[s, x], argTypes := #[t, t] })
    (ht : P.underlying t = some (.slice e)) (hinfo : (P.info? e).map (fun i => (i.zero, i.size, i.bytes)) = some (some z, 1, bytes)) (hz : z.cells.size = 1) (hb0 : 0 < bytes)
    (A : Option Addr) (m c : Nat) (hs : a.eval s = v) (hx : a.eval x = .slice A m c) (hC : (Kd.scalar enc h1).C W A m ys) (hl : (xs.length + ys.length) * bytes ≤ 140737488355328)
    (k : ∀ v1 w1, Sep w0 w1 (Row (Kd.scalar enc h1) e v1 (xs ++ ys) :: F) → Kc (a.put o.dst v1) w1) : if Region.wanted o (yielded ops a.tmps) = true then Oper.wp P o a W Kc Q else Kc (a.put o.dst undef) W := by
  obtain ⟨ok, hp, hd, hF⟩ := h.sep
  refine Kd.R_append_rows_step (Kd.scalar enc h1) (Rr := fun x cs => cs = [enc x]) (w0 := W) 0 hw s x t e z bytes ho ht hinfo hz (by show 0 < 1; omega) hb0 v xs ys A m c (fun k => ok k ∨ W.heap.size ≤ k) (fun _ => False) hs hx
    (Kd.R_mono hp.1 (fun k hk => .inl hk)) hC (fun x cs h => h) (fun _ h => h.elim) (fun k hk => .inr hk) (Below.refl 0 W) (Nat.zero_le _) (by rw [← hC.1]; exact hl) (fun v1 w1 hr hb hg hat => k v1 w1 ?_)
  exact h.stepOk hd hF ⟨hg.os, hg.tape, hg.output, hg.size⟩ (fun k hlt hn => hg.block k hlt (fun he => hn (hp.1.1 k he.symm))) (ok' := fun k => (ok k ∨ W.heap.size ≤ k) ∧ k < w1.heap.size)
    ⟨Kd.R_mono (Kd.R_bound hr) (fun k hk => ⟨hk.1, hk.2.2.1⟩), fun k hk => hk.2⟩ (fun k hk => hk.1)
theorem madeRow {e : Nat} (d : α) (m : Nat) (h : Sep w0 W F) (hm : m ≤ 9223372036854775807) : Sep w0 (W.alloc (.cells (madeCells #[enc d] m) e)) (Row (Kd.scalar enc h1) e (.slice (some ⟨W.heap.size, 0, none⟩) m m) (List.replicate m d) :: F) :=
  h.newRow (ok := fun _ => True) (Kd.R_of_own (by rw [List.length_replicate]; exact own_made_of W W.heap.size e m (Nat.le_refl _) hm) (fun _ _ => trivial)) (below_alloc (Below.refl _ _) _)
theorem litRow {e : Nat} (xs : List α) (h : Sep w0 W F) (hm : xs.length ≤ 9223372036854775807) : Sep w0 (W.alloc (.cells (encs enc xs).toArray e)) (Row (Kd.scalar enc h1) e (.slice (some ⟨W.heap.size, 0, none⟩) xs.length xs.length) xs :: F) :=
  h.newRow (ok := fun _ => True) (Kd.R_of_own (own_lit_of W W.heap.size e xs (Nat.le_refl _) hm) (fun _ _ => trivial)) (below_alloc (Below.refl _ _) _)
end
end Sep
end Go.Proofs.YtjngnigelkgekaaGreat.Kit
namespace Go.Proofs.YtjngnigelkgekaaGreat.Kit
open Go.RowKit Go.Proofs.YtjngnigelkgekaaGreatW.PrintWords
structure En where
  k : Int
  v : Value
  born : Nat
def En.toE (e : En) : MapEntry := { key := .int .i64 e.k, val := e.v, born := e.born }
def ens (l : List En) : Array MapEntry := (l.map En.toE).toArray
theorem findNow_none (i : Int) : ∀ (l : List En) (j : Nat), (∀ e ∈ l, e.k ≠ i) → Instr.findNow (.int .i64) (.int .i64 i) (l.map En.toE) j = some none
  | [], _, _ => rfl
  | e :: l, j, h => by
    have h1 : (i == e.k) = false := by have := h e (by simp); simpa using fun he => this he.symm
    show (match Instr.sameNow (.int .i64) (.int .i64 i) (.int .i64 e.k) with | some true => _ | some false => _ | none => _) = _
    simp only [Instr.sameNow, if_true, h1]
    exact findNow_none i l (j + 1) (fun x hx => h x (by simp [hx]))
theorem findNow_some (i : Int) (e : En) (post : List En) (he : e.k = i) : ∀ (pre : List En) (j : Nat), (∀ x ∈ pre, x.k ≠ i) → Instr.findNow (.int .i64) (.int .i64 i) ((pre ++ e :: post).map En.toE) j = some (some (j + pre.length, e.v))
  | [], j, _ => by
    have h1 : (i == e.k) = true := by simp [he]
    simp [Instr.findNow, En.toE, Instr.sameNow, h1]
  | x :: pre, j, h => by
    have h1 : (i == x.k) = false := by have := h x (by simp); simpa using fun he => this he.symm
    have h2 := findNow_some i e post he pre (j + 1) (fun y hy => h y (by simp [hy]))
    show (match Instr.sameNow (.int .i64) (.int .i64 i) (.int .i64 x.k) with | some true => _ | some false => _ | none => _) = _
    simp only [Instr.sameNow, if_true, h1]
    refine h2.trans ?_
    rw [List.length_cons]
    congr 3; omega
theorem modify_mid {α : Type} (f : α → α) (x : α) (post : List α) : ∀ pre : List α, (pre ++ x :: post).modify pre.length f = pre ++ f x :: post
  | [] => rfl
  | y :: pre => by
    have := modify_mid f x post pre
    simpa using this
section
variable {P : Program} {T K E : TypeId} {m clock : Nat} {W : World} {l pre post : List En} {e : En}
theorem get_map {es : Array MapEntry} (hm : W.heap[m]? = some (.map es clock)) : (getObj m).run P W = .ok (.map es clock) W := by simp [getObj, Sem.run, hm]
theorem set_map {es : Array MapEntry} (hm : W.heap[m]? = some (.map es clock)) (o : Obj) : (setObj m o).run P W = .ok () { W with heap := W.heap.setIfInBounds m o } := by simp [setObj, Sem.run, hm]
theorem check_int (hK : P.underlying K = some (.int .i64)) (b : Bool) (i : Int) : (Instr.checkKey b 10000 K (.int .i64 i)).run P W = .ok () W := by
  show (Instr.checkKey b (9999 + 1) K (.int .i64 i)).run P W = _
  unfold Instr.checkKey
  simp [run_underlying hK]
theorem lookup_none (hT : P.underlying T = some (.map K E)) (hK : P.underlying K = some (.int .i64)) {z : Value} (hz : ∀ W : World, (zeroValue E).run P W = .ok z W) (hm : W.heap[m]? = some (.map (ens l) clock)) (i : Int) (h : ∀ e ∈ l, e.k ≠ i) :
    (Instr.lookup T (.map (some m)) (.int .i64 i) true).run P W = .ok (.tuple #[z, .bool false]) W := by
  have h1 := findNow_none i l 0 h
  have hc := fun b => check_int (W := W) hK b i
  simp [Instr.lookup, run_underlying hT, get_map hm, hc, run_underlying hK, Instr.findKey, ens, h1, hz]
theorem lookup_some (hT : P.underlying T = some (.map K E)) (hK : P.underlying K = some (.int .i64)) (hm : W.heap[m]? = some (.map (ens (pre ++ e :: post)) clock)) (h : ∀ x ∈ pre, x.k ≠ e.k) :
    (Instr.lookup T (.map (some m)) (.int .i64 e.k) true).run P W = .ok (.tuple #[e.v, .bool true]) W := by
  have h1 := findNow_some e.k e post rfl pre 0 h
  have hc := fun b => check_int (W := W) hK b e.k
  rw [List.map_append, List.map_cons] at h1
  simp [Instr.lookup, run_underlying hT, get_map hm, hc, run_underlying hK, Instr.findKey, ens, h1]
theorem lookup1_some (hT : P.underlying T = some (.map K E)) (hK : P.underlying K = some (.int .i64)) (hm : W.heap[m]? = some (.map (ens (pre ++ e :: post)) clock)) (h : ∀ x ∈ pre, x.k ≠ e.k) :
    (Instr.lookup T (.map (some m)) (.int .i64 e.k) false).run P W = .ok e.v W := by
  have h1 := findNow_some e.k e post rfl pre 0 h
  have hc := fun b => check_int (W := W) hK b e.k
  rw [List.map_append, List.map_cons] at h1
  simp [Instr.lookup, run_underlying hT, get_map hm, hc, run_underlying hK, Instr.findKey, ens, h1]
def World.putMap (W : World) (m : Nat) (l : List En) (clock : Nat) : World := { W with heap := W.heap.setIfInBounds m (.map (ens l) clock) }
theorem update_new (hT : P.underlying T = some (.map K E)) (hK : P.underlying K = some (.int .i64)) (hm : W.heap[m]? = some (.map (ens l) clock)) (i : Int) (v : Value) (h : ∀ e ∈ l, e.k ≠ i) :
    (Instr.mapUpdate T (.map (some m)) (.int .i64 i) v).run P W = .ok () (World.putMap W m (l ++ [⟨i, v, clock⟩]) (clock + 1)) := by
  have h1 := findNow_none i l 0 h
  have hc := fun b => check_int (W := W) hK b i
  simp [Instr.mapUpdate, run_underlying hT, get_map hm, set_map hm, hc, run_underlying hK, Instr.findKey, ens, h1, World.putMap, En.toE]
theorem update_old (hT : P.underlying T = some (.map K E)) (hK : P.underlying K = some (.int .i64)) (hm : W.heap[m]? = some (.map (ens (pre ++ e :: post)) clock)) (v : Value) (h : ∀ x ∈ pre, x.k ≠ e.k) :
    (Instr.mapUpdate T (.map (some m)) (.int .i64 e.k) v).run P W = .ok () (World.putMap W m (pre ++ ⟨e.k, v, e.born⟩ :: post) clock) := by
  have h1 := findNow_some e.k e post rfl pre 0 h
  have h2 : Instr.sameBits 10000 (.int .i64 e.k) (.int .i64 e.k) = true := by simp [Instr.sameBits]
  have h3 := modify_mid (fun x : MapEntry => ({ key := .int .i64 e.k, val := v, born := x.born } : MapEntry)) e.toE (post.map En.toE) (pre.map En.toE)
  rw [List.length_map] at h3
  have hc := fun b => check_int (W := W) hK b e.k
  rw [List.map_append, List.map_cons] at h1
  simp only [En.toE] at h1 h3
  simp [Instr.mapUpdate, run_underlying hT, get_map hm, set_map hm, hc, run_underlying hK, Instr.findKey, ens, h1, World.putMap, Instr.keyThatStays, En.toE, h2]
  rw [h3]
end
end Go.Proofs.YtjngnigelkgekaaGreat.Kit
namespace Go.Proofs.YtjngnigelkgekaaGreat.Kit
open Go.RowKit Go.Maps Go.Shelf Go.Sort Go.Proofs.YtjngnigelkgekaaGreatW.PrintWords
theorem sortsA (m : Nat) : AnyZI.SortsIn Tryz.prog YtjngnigelkgekaaGreat.sortedA_ren Fence.wide m :=
  ⟨fun blk off cap ss W hH hblk hsz => callsIn_wide.2 (AnyM.slices_Sort_int YtjngnigelkgekaaGreat.sortA blk off cap ss W hH hblk hsz),
   fun p cap W => callsIn_wide.2 (AnyM.slices_Sort_int_none YtjngnigelkgekaaGreat.sortA p cap W)⟩
def anyR : Value → Option (DataW Unit × List MemPlace) := fun _ => some (.nil, [])
structure EnOk (l : List En) (clock : Nat) : Prop where
  keys : (l.map (·.k)).Nodup
  borns : (l.map (·.born)).Nodup
  each : ∀ e ∈ l, e.born < clock ∧ -9223372036854775808 ≤ e.k ∧ e.k ≤ 9223372036854775807
  size : l.length ≤ 1000000
theorem enFit {l : List En} {clock : Nat} (h : EnOk l clock) : WideElems.Fit Tryz.prog 3 anyR (ens l) clock := by
  refine ⟨?_, ⟨?_, ?_, ?_⟩, ?_⟩
  · have := h.size; simp only [ens, List.size_toArray, List.length_map, maxLen]; omega
  · intro x hx
    obtain ⟨e, he, rfl⟩ := List.mem_map.1 (by simpa [ens] using hx)
    exact (h.each e he).1
  · have : (ens l).toList.map (·.born) = l.map (·.born) := by simp [ens, En.toE]
    rw [this]; exact h.borns
  · have : (ens l).toList.map (·.key) = (l.map (·.k)).map (Value.int .i64) := by simp [ens, En.toE]
    rw [this]
    exact List.pairwise_map.2 (h.keys.imp fun hne he => hne (by injection he))
  · intro x hx
    obtain ⟨e, he, rfl⟩ := List.mem_map.1 (by simpa [ens] using hx)
    have hw : (Lit.int .i64 e.k).wf = true := by
      have := h.each e he
      exact WalkArith.wf_i64 ⟨this.2.1, this.2.2⟩
    exact ⟨_, by simp [WideElems.rd, En.toE, keyOf_int_mk Tryz.underlying3 hw, anyR]; rfl⟩
theorem enOwns {l : List En} {clock m : Nat} {W : World} (h : EnOk l clock) (hm : W.heap[m]? = some (.map (ens l) clock)) :
    W.ownsMap Tryz.prog 3 anyR m l.length (.map (((ens l).toList.map (WideElems.rg Tryz.prog 3 anyR)).foldr DataW.insert [])) :=
  ⟨ens l, clock, hm, enFit h, by simp [ens], rfl⟩
theorem enKeys {l : List En} {clock : Nat} (h : EnOk l clock) : (intKeys (DataW.map (((ens l).toList.map (WideElems.rg Tryz.prog 3 anyR)).foldr DataW.insert []))).Perm (l.map (·.k)) := by
  have h1 : (((ens l).toList.map (WideElems.rg Tryz.prog 3 anyR)).foldr DataW.insert []).Perm ((ens l).toList.map (WideElems.rg Tryz.prog 3 anyR)) := WideShapes.sorted_perm _
  have h2 := h1.map (fun p => Go.intOf p.1)
  refine h2.trans ?_
  have : ((ens l).toList.map (WideElems.rg Tryz.prog 3 anyR)).map (fun p => Go.intOf p.1) = l.map (·.k) := by
    simp only [ens, List.map_map]
    refine List.map_congr_left fun e he => ?_
    have hw : (Lit.int .i64 e.k).wf = true := by
      have := h.each e he
      exact WalkArith.wf_i64 ⟨this.2.1, this.2.2⟩
    simp [WideElems.rg, WideElems.rd, En.toE, keyOf_int_mk Tryz.underlying3 hw, anyR, Go.intOf]
  rw [this]
theorem enSize {l : List En} {clock : Nat} (h : EnOk l clock) : Maps.size (DataW.map (((ens l).toList.map (WideElems.rg Tryz.prog 3 anyR)).foldr DataW.insert [])) = l.length := by
  have h1 : (((ens l).toList.map (WideElems.rg Tryz.prog 3 anyR)).foldr DataW.insert []).Perm ((ens l).toList.map (WideElems.rg Tryz.prog 3 anyR)) := WideShapes.sorted_perm _
  have := h1.length_eq
  simp only [ens, List.length_map] at this
  simpa [Maps.size, ens] using this
theorem sort_is {ss ks : List Int} (hp : ss.Perm ks) (hs : ks.Pairwise (· ≤ ·)) : ss.mergeSort (fun x y => decide (x ≤ y)) = ks := by
  have tr : ∀ a b c : Int, (fun x y : Int => decide (x ≤ y)) a b = true → (fun x y : Int => decide (x ≤ y)) b c = true → (fun x y : Int => decide (x ≤ y)) a c = true := fun a b c h1 h2 => by simp only [decide_eq_true_eq] at *; omega
  have tot : ∀ a b : Int, ((fun x y : Int => decide (x ≤ y)) a b || (fun x y : Int => decide (x ≤ y)) b a) = true := fun a b => by simp only [Bool.or_eq_true, decide_eq_true_eq]; omega
  refine List.Perm.eq_of_pairwise (le := fun a b => a ≤ b) (fun a b _ _ h1 h2 => by omega) ?_ hs ((List.mergeSort_perm _ _).trans hp)
  exact (List.pairwise_mergeSort tr tot ss).imp (fun h => by simpa using h)
set_option maxHeartbeats 1000000 in
theorem keysA_ (m : Nat) (w : World) : Calls Tryz.prog 96 #[.map (some m)] w fun e w' => e = .returned (.func (.func 121) #[] #[.pointer (some ⟨w.heap.size, 0, none⟩)]) ∧ w' = w.alloc (.cells #[.map (some m)] 98) :=
  callsIn_wide.1 (AnyZI.keys_in YtjngnigelkgekaaGreat.keysA Fence.wide 5 trivial rfl (some m) w)
set_option maxHeartbeats 1000000 in
theorem sortedA_ {l : List En} {clock m : Nat} {w : World} {ks : List Int} (h : EnOk l clock) (hm : w.heap[m]? = some (.map (ens l) clock)) (hk : (l.map (·.k)).Perm ks) (hs : ks.Pairwise (· ≤ ·)) :
    Calls Tryz.prog 92 #[.func (.func 121) #[] #[.pointer (some ⟨w.heap.size, 0, none⟩)]] (w.alloc (.cells #[.map (some m)] 98)) fun e w' => ∃ v, e = .returned v ∧ Sep w w' [Row (Kd.int .i64) 3 v ks] := by
  have hbl : m < w.heap.size := (Array.getElem?_eq_some_iff.1 hm).1
  have hm1 : (w.alloc (.cells #[.map (some m)] 98)).heap[m]? = some (.map (ens l) clock) := (Below.heap_alloc _ _ m hbl).trans hm
  have hseq : SeqGives Fence.wide 2 Tryz.prog 121 #[.pointer (some ⟨w.heap.size, 0, none⟩)] encZ (fun ss => ss.Perm (intKeys (DataW.map (((ens l).toList.map (WideElems.rg Tryz.prog 3 anyR)).foldr DataW.insert [])))) (Maps.size (DataW.map (((ens l).toList.map (WideElems.rg Tryz.prog 3 anyR)).foldr DataW.insert []))) (w.alloc (.cells #[.map (some m)] 98)) :=
    AnyZI.keys_gives (ρ := YtjngnigelkgekaaGreat.keysA_ren) { YtjngnigelkgekaaGreat.keysA with } Fence.wide _ trivial rfl (by omega) w.heap.size m l.length _ _ (by simp) (by simp) (enOwns h hm1)
  rw [enSize h] at hseq
  have cS := AnyZI.sorted_in YtjngnigelkgekaaGreat.sortedA Fence.wide 5 trivial trivial trivial trivial rfl (by omega) (sortsA _) (enters_of Tryz.func117 (by kernel_rfl) rfl) 121 #[.pointer (some ⟨w.heap.size, 0, none⟩)] trivial (enters_of Tryz.func121 (by kernel_rfl) rfl) _ _ (by have := h.size; simp only [maxLen]; omega) (by have := h.size; omega) _ hseq
  refine (callsIn_wide.1 cS).mono ?_
  rintro e w' ⟨v, ss, rfl, hS, hrow, hnil, hb⟩
  refine ⟨v, rfl, ?_⟩
  have hss := sort_is ((hS.trans (enKeys h)).trans hk) hs
  rw [hss] at hrow
  have hl : ss.length = ks.length := ((hS.trans (enKeys h)).trans hk).length_eq
  rw [hl] at hrow
  refine ((Sep.start w).alloc (.cells #[.map (some m)] 98)).newRow (ok := fun _ => True) ?_ hb
  exact Kd.R_of_own hrow (fun _ _ => trivial)
end Go.Proofs.YtjngnigelkgekaaGreat.Kit
namespace Go.Proofs.YtjngnigelkgekaaGreat.Kit
open Go.RowKit Go.Proofs.YtjngnigelkgekaaGreatW.PrintWords Go.Proofs.YtjngnigelkgekaaGreatW.PrintLast Go.Proofs.YtjngnigelkgekaaGreatW.PrintMore
def Fx (φ : World → Prop) : HP where
  P W ok := (∀ W' : World, (∀ k, ok k → W'.heap[k]? = W.heap[k]?) → φ W') ∧ ∀ k, ok k → k < W.heap.size
  loc := fun {W W' ok} h hm => ⟨fun W2 h2 => h.1 W2 (fun k hk => (h2 k hk).trans (hm k hk)), fun k hk => by
      have := hm k hk
      rw [Array.getElem?_eq_getElem (h.2 k hk)] at this
      exact (Array.getElem?_eq_some_iff.1 this).1⟩
  bnd := fun h => h.2
namespace Sep
variable {w0 W W' : World} {F : List HP} {φ ψ : World → Prop}
theorem fx (h : Sep w0 W (Fx φ :: F)) : φ W := by
  obtain ⟨ok, hp, _⟩ := h.sep; exact hp.1 W (fun _ _ => rfl)
theorem fxTrue (h : Sep w0 W F) : Sep w0 W (Fx (fun _ => True) :: F) :=
  h.gain (Below.refl _ _) (ok := fun _ => False) ⟨fun _ _ => trivial, fun _ hf => hf.elim⟩ (fun _ hf => hf.elim)
theorem fxImp (h : Sep w0 W (Fx φ :: F)) (hi : ∀ W, φ W → ψ W) : Sep w0 W (Fx ψ :: F) := h.imp (fun ok hp => ⟨fun W' hm => hi W' (hp.1 W' hm), hp.2⟩)
theorem fxRow {α : Type} {d : Kd α} {e n c : Nat} {A : Option Addr} {xs : List α} (h : Sep w0 W (Row d e (.slice A n c) xs :: F)) : Sep w0 W (Fx (fun W => d.C W A n xs) :: F) := by
  refine h.imp (fun ok hp => ⟨fun W' hm => ?_, hp.2⟩)
  have h2 := Kd.R_reads' (Kd.R_move hp.1 hm)
  rw [h2.1]; exact h2.2.2
theorem fxAnd (h : Sep w0 W (Fx φ :: Fx ψ :: F)) : Sep w0 W (Fx (fun W => φ W ∧ ψ W) :: F) := by
  obtain ⟨o1, h1, d1, o2, h2, d2, hF⟩ := h.sep
  refine ⟨h.os, h.tape, h.output, h.size, h.old, fun k => o1 k ∨ o2 k, ⟨fun W' hm => ⟨h1.1 W' (fun k hk => hm k (.inl hk)), h2.1 W' (fun k hk => hm k (.inr hk))⟩, fun k hk => hk.elim (h1.2 k) (h2.2 k)⟩, fun k hk ha => hk.elim (fun ho => d1 k ho ha) (fun ho => d2 k ho (.inl ha)), hF.weaken (fun k hk => ?_)⟩
  rcases hk with h3 | h3 | h3
  · exact .inl (.inl h3)
  · exact .inl (.inr h3)
  · exact .inr h3
end Sep
end Go.Proofs.YtjngnigelkgekaaGreat.Kit
namespace Go.Proofs.YtjngnigelkgekaaGreat.Store
open Go.RowKit Go.Maps Go.Shelf Go.Sort Go.Proofs.YtjngnigelkgekaaGreatW.PrintWords Go.Proofs.YtjngnigelkgekaaGreat.Kit
def SetM (m : Nat) (ks : List Int) : HP := Ex fun x : List En × Nat => Star [Pu (EnOk x.1 x.2 ∧ x.1.map (·.k) = ks), MapB m (ens x.1) x.2]
def insK (ks : List Int) (k : Int) : List Int := if k ∈ ks then ks else ks ++ [k]
def sortK (ks : List Int) : List Int := ks.mergeSort (fun x y => decide (x ≤ y))
theorem sortK_perm (ks : List Int) : ks.Perm (sortK ks) := (List.mergeSort_perm _ _).symm
theorem sortK_sorted (ks : List Int) : (sortK ks).Pairwise (· ≤ ·) := by
  have tr : ∀ a b c : Int, (fun x y : Int => decide (x ≤ y)) a b = true → (fun x y : Int => decide (x ≤ y)) b c = true → (fun x y : Int => decide (x ≤ y)) a c = true := fun a b c h1 h2 => by simp only [decide_eq_true_eq] at *; omega
  have tot : ∀ a b : Int, ((fun x y : Int => decide (x ≤ y)) a b || (fun x y : Int => decide (x ≤ y)) b a) = true := fun a b => by simp only [Bool.or_eq_true, decide_eq_true_eq]; omega
  exact (List.pairwise_mergeSort tr tot ks).imp (fun h => by simpa using h)
section
variable {w0 W : World} {F : List HP} {m : Nat} {ks : List Int}
theorem set_open (h : Sep w0 W (SetM m ks :: F)) : ∃ l clock, EnOk l clock ∧ l.map (·.k) = ks ∧ Sep w0 W (MapB m (ens l) clock :: F) := by
  obtain ⟨⟨l, clock⟩, h1⟩ := h.ex
  obtain ⟨⟨h2, h3⟩, h4⟩ := h1.star.pu
  exact ⟨l, clock, h2, h3, h4⟩
theorem set_shut {l : List En} {clock : Nat} (h1 : EnOk l clock) (h2 : l.map (·.k) = ks) (h : Sep w0 W (MapB m (ens l) clock :: F)) : Sep w0 W (SetM m ks :: F) :=
  Sep.unex (l, clock) (Sep.unstar (L := [_, _]) (h.unpu ⟨h1, h2⟩))
theorem enOk_nil (clock : Nat) : EnOk [] clock := ⟨List.nodup_nil, List.nodup_nil, fun e he => (by cases he), by simp⟩
theorem set_new (h : Sep w0 W F) : Sep w0 (W.alloc (.map #[] 0)) (SetM W.heap.size [] :: F) := set_shut (l := []) (enOk_nil 0) rfl h.newMap
theorem putMap_sep {l l' : List En} {clock clock' : Nat} (h : Sep w0 W (MapB m (ens l) clock :: F)) : Sep w0 (World.putMap W m l' clock') (MapB m (ens l') clock' :: F) := h.setMap _ _
theorem set_put {v : Value} (h : Sep w0 W (SetM m ks :: F)) (k : Int) (hk : -9223372036854775808 ≤ k ∧ k ≤ 9223372036854775807) (hs : ks.length < 1000000) :
    ∃ W', (Instr.mapUpdate 106 (.map (some m)) (.int .i64 k) v).run Tryz.prog W = .ok () W' ∧ Sep w0 W' (SetM m (insK ks k) :: F) := by
  obtain ⟨l, clock, hok, hl, hS⟩ := set_open h
  by_cases hin : k ∈ ks
  · have hin2 := hin
    rw [← hl] at hin2
    obtain ⟨e, he, hek⟩ := List.mem_map.1 hin2
    obtain ⟨pre, post, hsp⟩ := List.append_of_mem he
    subst hsp
    have hnd := hok.keys
    rw [List.map_append, List.map_cons, List.nodup_append] at hnd
    have hp : ∀ x ∈ pre, x.k ≠ e.k := fun x hx => hnd.2.2 _ (List.mem_map_of_mem hx) _ (List.mem_cons_self ..)
    rw [← hek]
    refine ⟨_, update_old Tryz.underlying106 Tryz.underlying3 hS.map v hp, ?_⟩
    refine set_shut ?_ ?_ (putMap_sep hS)
    · refine ⟨by have := hok.keys; simpa using this, by have := hok.borns; simpa using this, fun x hx => ?_, by have := hok.size; simpa using this⟩
      rcases List.mem_append.1 hx with h1 | h1
      · exact hok.each x (by simp [h1])
      · rcases List.mem_cons.1 h1 with rfl | h1
        · exact hok.each e (by simp)
        · exact hok.each x (by simp [h1])
    · rw [insK, if_pos (by rw [hek]; exact hin), ← hl]
      simp
  · have hne : ∀ e ∈ l, e.k ≠ k := fun e he h1 => hin (by rw [← hl, ← h1]; exact List.mem_map_of_mem he)
    refine ⟨_, update_new Tryz.underlying106 Tryz.underlying3 hS.map k v hne, ?_⟩
    refine set_shut ?_ ?_ (putMap_sep hS)
    · refine ⟨?_, ?_, fun x hx => ?_, ?_⟩
      · rw [List.map_append, List.nodup_append]
        refine ⟨hok.keys, by simp, fun a ha b hb => ?_⟩
        obtain rfl : b = k := by simpa using hb
        obtain ⟨e, he, rfl⟩ := List.mem_map.1 ha
        exact hne e he
      · rw [List.map_append, List.nodup_append]
        refine ⟨hok.borns, by simp, fun a ha b hb => ?_⟩
        obtain rfl : b = clock := by simpa using hb
        obtain ⟨e, he, rfl⟩ := List.mem_map.1 ha
        have := (hok.each e he).1
        omega
      · rcases List.mem_append.1 hx with h1 | h1
        · have := hok.each x h1
          exact ⟨by omega, this.2⟩
        · obtain rfl := List.mem_singleton.1 h1
          exact ⟨by simp, hk⟩
      · have : l.length = ks.length := by rw [← hl, List.length_map]
        simp; omega
    · rw [insK, if_neg hin, List.map_append, hl]; rfl
theorem set_clear (h : Sep w0 W (SetM m ks :: F)) (ty : TypeId) : ∃ W', (Builtin.clear_ #[106] ty #[.map (some m)]).run Tryz.prog W = .ok (.tuple #[]) W' ∧ Sep w0 W' (SetM m [] :: F) := by
  obtain ⟨l, clock, hok, hl, hS⟩ := set_open h
  refine ⟨_, ?_, set_shut (l := []) (enOk_nil clock) rfl (hS.setMap (ens []) clock)⟩
  simp [Builtin.clear_, run_underlying Tryz.underlying106, get_map hS.map, set_map hS.map, ens]
end
set_option maxHeartbeats 1000000 in
theorem keysB_ (m : Nat) (w : World) : Calls Tryz.prog 93 #[.map (some m)] w fun e w' => e = .returned (.func (.func 118) #[] #[.pointer (some ⟨w.heap.size, 0, none⟩)]) ∧ w' = w.alloc (.cells #[.map (some m)] 106) :=
  callsIn_wide.1 (AnyZI.keys_in YtjngnigelkgekaaGreat.keysB Fence.wide 5 trivial rfl (some m) w)
set_option maxHeartbeats 1000000 in
theorem sortedB_ {l : List En} {clock m : Nat} {w : World} {ks : List Int} (h : EnOk l clock) (hm : w.heap[m]? = some (.map (ens l) clock)) (hk : (l.map (·.k)).Perm ks) (hs : ks.Pairwise (· ≤ ·)) :
    Calls Tryz.prog 92 #[.func (.func 118) #[] #[.pointer (some ⟨w.heap.size, 0, none⟩)]] (w.alloc (.cells #[.map (some m)] 106)) fun e w' => ∃ v, e = .returned v ∧ Sep w w' [Row (Kd.int .i64) 3 v ks] := by
  have hbl : m < w.heap.size := (Array.getElem?_eq_some_iff.1 hm).1
  have hm1 : (w.alloc (.cells #[.map (some m)] 106)).heap[m]? = some (.map (ens l) clock) := (Below.heap_alloc _ _ m hbl).trans hm
  have hseq : SeqGives Fence.wide 2 Tryz.prog 118 #[.pointer (some ⟨w.heap.size, 0, none⟩)] encZ (fun ss => ss.Perm (intKeys (DataW.map (((ens l).toList.map (WideElems.rg Tryz.prog 3 anyR)).foldr DataW.insert [])))) (Maps.size (DataW.map (((ens l).toList.map (WideElems.rg Tryz.prog 3 anyR)).foldr DataW.insert []))) (w.alloc (.cells #[.map (some m)] 106)) :=
    AnyZI.keys_gives (ρ := YtjngnigelkgekaaGreat.keysB_ren) { YtjngnigelkgekaaGreat.keysB with } Fence.wide _ trivial rfl (by omega) w.heap.size m l.length _ _ (by simp) (by simp) (enOwns h hm1)
  rw [enSize h] at hseq
  have cS := AnyZI.sorted_in YtjngnigelkgekaaGreat.sortedA Fence.wide 5 trivial trivial trivial trivial rfl (by omega) (sortsA _) (enters_of Tryz.func117 (by kernel_rfl) rfl) 118 #[.pointer (some ⟨w.heap.size, 0, none⟩)] trivial (enters_of Tryz.func118 (by kernel_rfl) rfl) _ _ (by have := h.size; simp only [maxLen]; omega) (by have := h.size; omega) _ hseq
  refine (callsIn_wide.1 cS).mono ?_
  rintro e w' ⟨v, ss, rfl, hS, hrow, hnil, hb⟩
  refine ⟨v, rfl, ?_⟩
  have hss := sort_is ((hS.trans (enKeys h)).trans hk) hs
  rw [hss] at hrow
  have hl : ss.length = ks.length := ((hS.trans (enKeys h)).trans hk).length_eq
  rw [hl] at hrow
  refine ((Sep.start w).alloc (.cells #[.map (some m)] 106)).newRow (ok := fun _ => True) ?_ hb
  exact Kd.R_of_own hrow (fun _ _ => trivial)
end Go.Proofs.YtjngnigelkgekaaGreat.Store
namespace Go.Proofs.YtjngnigelkgekaaGreat.Kit
open Go.RowKit Go.Proofs.YtjngnigelkgekaaGreatW.PrintWords Go.Proofs.YtjngnigelkgekaaGreatW.PrintLast Go.Proofs.YtjngnigelkgekaaGreatW.PrintMore
def Cl {α : Type} (d : Kd α) (x : α) (c : List Value) : HP := Fx (fun W => d.K W x c)
namespace Sep
variable {w0 W W' : World} {F : List HP} {α : Type} {d : Kd α} {e n c : Nat} {v : Value} {A : Option Addr} {xs : List α} {φ ψ : World → Prop}
theorem fxPure (h : Sep w0 W F) (hp : ∀ W, φ W) : Sep w0 W (Fx φ :: F) := h.fxTrue.fxImp (fun W _ => hp W)
theorem clSlice {β : Type} {d : Kd β} {e n c : Nat} {A : Option Addr} {xs : List β} (h : Sep w0 W (Row d e (.slice A n c) xs :: F)) : Sep w0 W (Cl (Kd.slice e d) xs [.slice A n c] :: F) := by
  have h1 := h.rowC
  exact h.fxRow.fxImp (fun W hC => ⟨A, c, by rw [h1.1], by rw [← h1.1]; exact h1.2.1, by rw [← h1.1]; exact hC⟩)
end Sep
end Go.Proofs.YtjngnigelkgekaaGreat.Kit
namespace Go.Proofs.YtjngnigelkgekaaGreat.Kit
open Go.RowKit Go.Proofs.YtjngnigelkgekaaGreatW.PrintWords Go.Proofs.YtjngnigelkgekaaGreatW.PrintLast Go.Proofs.YtjngnigelkgekaaGreatW.PrintMore
abbrev OV := { v : Value // v.oneCell' = true }
abbrev KV : Kd OV := Kd.scalar (fun x => x.1) (fun x => x.2)
def EachV {α : Type} (d : Kd α) (xs : List α) (cs : List OV) (W : World) : Prop := xs.length = cs.length ∧ ∀ (j : Nat) x c, xs[j]? = some x → cs[j]? = some c → d.K W x [c.1]
theorem EachV.nil {α : Type} (d : Kd α) (W : World) : EachV d [] [] W := ⟨rfl, fun j x c h => by simp at h⟩
theorem EachV.snoc {α : Type} {d : Kd α} {xs : List α} {cs : List OV} {W : World} {x : α} {c : OV} (h : EachV d xs cs W) (hx : d.K W x [c.1]) : EachV d (xs ++ [x]) (cs ++ [c]) W := by
  refine ⟨by simp [h.1], fun j y b hy hb => ?_⟩
  by_cases hj : j < xs.length
  · rw [List.getElem?_append_left hj] at hy
    rw [List.getElem?_append_left (by rw [← h.1]; exact hj)] at hb
    exact h.2 j y b hy hb
  · rw [List.getElem?_append_right (by omega)] at hy
    rw [List.getElem?_append_right (by have := h.1; omega)] at hb
    have : j - xs.length = 0 := by
      rcases Nat.eq_zero_or_pos (j - xs.length) with h0 | h0
      · exact h0
      · rw [List.getElem?_eq_none (by simp; omega)] at hy; cases hy
    rw [this] at hy
    rw [show j - cs.length = 0 by have := h.1; omega] at hb
    simp at hy hb
    subst hy hb
    exact hx
theorem EachV.set {α : Type} {d : Kd α} {xs : List α} {cs : List OV} {W : World} {x : α} {c : OV} (i : Nat) (h : EachV d xs cs W) (hx : d.K W x [c.1]) : EachV d (xs.set i x) (cs.set i c) W := by
  refine ⟨by simp [h.1], fun j y b hy hb => ?_⟩
  by_cases hj : i = j
  · subst hj
    rw [List.getElem?_set] at hy hb
    simp only [if_true] at hy hb
    split at hy
    · split at hb
      · cases hy; cases hb; exact hx
      · cases hb
    · cases hy
  · rw [List.getElem?_set_ne hj] at hy hb
    exact h.2 j y b hy hb
theorem eachV_C {α : Type} {d : Kd α} {W : World} {A : Option Addr} {n : Nat} {xs : List α} {cs : List OV} (hd : d.sz = 1) (hC : KV.C W A n cs) (h : EachV d xs cs W) : d.C W A n xs := by
  refine ⟨h.1.trans hC.1, hC.2.1, fun hp => ?_⟩
  obtain ⟨ad, e, hr⟩ := hC.2.2 hp
  refine ⟨ad, e, fun j x hx => ?_⟩
  have hlt : j < cs.length := by
    rw [← h.1]
    exact (List.getElem?_eq_some_iff.1 hx).1
  obtain ⟨c, hl, hk, hc⟩ := hr j _ (List.getElem?_eq_getElem hlt)
  have hk1 : c = [(cs[j]).1] := hk
  subst hk1
  rw [hd]
  exact ⟨_, rfl, h.2 j x _ hx (List.getElem?_eq_getElem hlt), hc⟩
def RowV {α : Type} (d : Kd α) (e : Nat) (v : Value) (xs : List α) : HP := Ex fun cs : List OV => Star [Row KV e v cs, Fx (EachV d xs cs)]
namespace Sep
variable {w0 W W' : World} {F : List HP} {α : Type} {d : Kd α} {e n c : Nat} {v : Value} {A : Option Addr} {xs : List α}
theorem rowV_open (h : Sep w0 W (RowV d e v xs :: F)) : ∃ cs, Sep w0 W (Row KV e v cs :: Fx (EachV d xs cs) :: F) := by
  obtain ⟨cs, h⟩ := h.ex
  exact ⟨cs, h.star⟩
theorem rowV_shut {cs : List OV} (h : Sep w0 W (Row KV e v cs :: Fx (EachV d xs cs) :: F)) : Sep w0 W (RowV d e v xs :: F) := Sep.unex cs (Sep.unstar (L := [_, _]) h)
theorem rowV_nil (h : Sep w0 W F) (d : Kd α) (e : Nat) : Sep w0 W (RowV d e (.slice none 0 0) [] :: F) := rowV_shut (cs := []) ((h.fxPure (fun W => EachV.nil d W)).nilRow _ _)
theorem rowVN (h : Sep w0 W (RowV d e v xs :: F)) (hn : xs.length = n) : ∃ A c, v = .slice A n c := by
  obtain ⟨cs, h⟩ := h.rowV_open
  exact h.rowN (n := n) (by rw [← h.at2.fx.1]; exact hn)
theorem rowVC (hd : d.sz = 1) (h : Sep w0 W (RowV d e (.slice A n c) xs :: F)) : n = xs.length ∧ n ≤ c ∧ d.C W A n xs := by
  obtain ⟨cs, h⟩ := h.rowV_open
  obtain ⟨h1, h2, h3⟩ := h.rowC
  have hE := h.at2.fx
  rw [← h1] at h3
  exact ⟨by rw [h1, hE.1], h2, eachV_C hd h3 hE⟩
section
variable {P : Program} {ops : Array Oper} {rest : List Oper} {o : Oper} {a : Act} {Q : Exit → Act → World → Prop}
theorem appendV {x : α} {cl : OV} (h : Sep w0 W (RowV d e v xs :: Cl d x [cl.1] :: F)) (hgd : o.guard = none) (s y : Operand) (t : TypeId) (z : Value) (bytes : Nat)
    (ho : o.op = .call { callee := .builtin .append, args := #[s, y], argTypes := #[t, t] })
    (ht : P.underlying t = some (.slice e)) (hinfo : (P.info? e).map (fun i => (i.zero, i.size, i.bytes)) = some (some z, 1, bytes)) (hz : z.cells.size = 1) (hb0 : 0 < bytes)
    (hs : a.eval s = v) (hx : a.eval y = .slice (some ⟨W.heap.size, 0, none⟩) 1 1) (hl : (xs.length + 1) * bytes ≤ 140737488355328)
    (k : ∀ v1 w1, Sep w0 w1 (RowV d e v1 (xs ++ [x]) :: F) → wpList P ops Q rest (a.put o.dst v1) w1) : wpList P ops Q (o :: rest) a (W.alloc (.cells #[cl.1] e)) := by
  obtain ⟨cs, h⟩ := h.rowV_open
  have hlen := h.at2.fx.1
  have hL := h.litRow (enc := fun x : OV => x.1) (h1 := fun x => x.2) (e := e) [cl] (by simp)
  have hL2 : Sep w0 (W.alloc (.cells #[cl.1] e)) (Row KV e v cs :: Row KV e (.slice (some ⟨W.heap.size, 0, none⟩) 1 1) [cl] :: Fx (EachV d xs cs) :: Cl d x [cl.1] :: F) := hL.at2
  refine hL2.appendRow hgd s y t z bytes ho ht hinfo hz hb0 (some ⟨W.heap.size, 0, none⟩) 1 1 hs hx hL2.at2.rowC.2.2 (by rw [← hlen]; exact hl) (fun v1 w1 h1 => k v1 w1 ?_)
  refine rowV_shut (cs := cs ++ [cl]) ?_
  have h2 := (h1.drop2.at2.perm (.cons _ (.swap _ _ _))).fxAnd (φ := EachV d xs cs) (ψ := fun W => d.K W x [cl.1])
  exact (h2.fxImp (fun W hW => hW.1.snoc hW.2)).at2
end
theorem rowVForm (h : Sep w0 W (RowV d e (.slice A n c) xs :: F)) (hp : 0 < n) : ∃ g, A = some ⟨g, 0, none⟩ := by
  obtain ⟨cs, h⟩ := h.rowV_open
  obtain ⟨g, cap, he⟩ := h.rowFormN (n := n) h.rowC.1.symm hp
  injection he with h1 h2 h3
  exact ⟨g, h1⟩
theorem rowVFrozen {g cap i : Nat} (h : Sep w0 W (RowV d e (.slice (some ⟨g, 0, none⟩) n cap) xs :: F)) (hi : i < n) : ∃ u, W.cell? ⟨g, i, none⟩ = some u ∧ W.frozen? ⟨g, i, none⟩ = false := by
  obtain ⟨cs, h⟩ := h.rowV_open
  exact ⟨_, h.rowCell (enc := fun x : OV => x.1) ⟨.int .i64 0, rfl⟩ i hi⟩
theorem putV {g cap i : Nat} {x : α} {cl : OV} (h : Sep w0 W (RowV d e (.slice (some ⟨g, 0, none⟩) n cap) xs :: Cl d x [cl.1] :: F)) : Sep w0 (W.setCell ⟨g, i, none⟩ cl.1) (RowV d e (.slice (some ⟨g, 0, none⟩) n cap) (xs.set i x) :: F) := by
  obtain ⟨cs, h⟩ := h.rowV_open
  have h1 := h.putRow (enc := fun x : OV => x.1) i cl
  refine rowV_shut (cs := cs.set i cl) ?_
  have h2 := (h1.at2.perm (.cons _ (.swap _ _ _))).fxAnd (φ := EachV d xs cs) (ψ := fun W => d.K W x [cl.1])
  exact (h2.fxImp (fun W hW => hW.1.set i hW.2)).at2
end Sep
end Go.Proofs.YtjngnigelkgekaaGreat.Kit
namespace Go.Proofs.YtjngnigelkgekaaGreat.Kit
open Go.RowKit Go.Proofs.YtjngnigelkgekaaGreatW.PrintWords Go.Proofs.YtjngnigelkgekaaGreatW.PrintLast Go.Proofs.YtjngnigelkgekaaGreatW.PrintMore
theorem elem_ {α : Type} {d : Kd α} {W : World} {A : Option Addr} {n : Nat} {xs : List α} (h : d.C W A n xs) {i : Nat} (hi : i < n) :
    ∃ (hx : i < xs.length) (a : Addr) (cs : List Value), A = some a ∧ d.K W xs[i] cs ∧ (∀ u, cs[0]? = some u → W.cell? (a.add (i * d.sz)) = some u) ∧
      ∀ j u, 0 < j → cs[j]? = some u → W.cell? ⟨(a.add (i * d.sz)).block, (a.add (i * d.sz)).off + j, none⟩ = some u := by
  have hx : i < xs.length := by rw [h.1]; exact hi
  obtain ⟨a, e, hr⟩ := h.2.2 (by omega)
  obtain ⟨cs, hl, hk, hc⟩ := hr i _ (List.getElem?_eq_getElem hx)
  refine ⟨hx, a, cs, e, hk, fun u hu => ?_, fun j u hj hu => ?_⟩
  · have := hc 0 u hu; rwa [Nat.add_zero] at this
  · have := hc j u hu
    rwa [add_field _ _ j hj] at this
theorem elem2_ {k k2 : IntKind} {e : Nat} {W : World} {A : Option Addr} {n : Nat} {xs : List (Int × List Int)} (h : (Kd.pair (Kd.int k) (Kd.slice e (Kd.int k2))).C W A n xs) {i : Nat} (hi : i < n) :
    ∃ (hx : i < xs.length) (a : Addr) (B : Option Addr) (c : Nat), A = some a ∧ W.cell? (a.add (i * 2)) = some (.int k (xs[i]).1) ∧ W.cell? ⟨(a.add (i * 2)).block, (a.add (i * 2)).off + 1, none⟩ = some (.slice B (xs[i]).2.length c) ∧
      (xs[i]).2.length ≤ c ∧ (Kd.int k2).C W B (xs[i]).2.length (xs[i]).2 := by
  obtain ⟨hx, a, cs, e, ⟨c0, c1, e1, h0, B, c, h1, h2, h3⟩, hc0, hcj⟩ := elem_ h hi
  have h0 : c0 = [.int k (xs[i]).1] := h0
  subst h0 h1 e1
  exact ⟨hx, a, B, c, e, hc0 _ rfl, hcj 1 _ (by decide) rfl, h2, h3⟩
end Go.Proofs.YtjngnigelkgekaaGreat.Kit
namespace Go.Proofs.YtjngnigelkgekaaGreat.Base
open Go.RowKit Go.Proofs.YtjngnigelkgekaaGreatW.PrintWords Go.Proofs.YtjngnigelkgekaaGreatW.PrintLast Go.Proofs.YtjngnigelkgekaaGreatW.PrintMore Go.Proofs.YtjngnigelkgekaaGreat.Kit
theorem infoB : (Tryz.prog.info? 5).map (fun i => (i.zero, i.size, i.bytes)) = some (some (.int .u8 0), 1, 1) := by kernel_rfl
abbrev U8 : Kd Int := Kd.int .u8
def cloneF (l0 : List Int) : Option (List Int) := if l0.length < 140737488355328 then (some l0) else none
set_option maxHeartbeats 8000000 in
set_option maxRecDepth 100000 in
theorem clone0 (A0 : Option Addr) (c0 : Nat) (l0 : List Int) (r : List Int) (w : World) (hr0 : Kd.C (Kd.int .u8) w A0 l0.length l0) (hc0 : l0.length ≤ c0) (h : cloneF l0 = some r) :
    Calls Tryz.prog 60 #[.slice A0 l0.length c0] w fun e w' => ∃ v0_ : Value, e = .returned (v0_) ∧ Kd.R (Kd.int .u8) 5 w' w.heap.size (fun _ => True) v0_ r ∧ Below w.heap.size w w' := by
  have HR0 := Aside0.mk hr0
  have HC0 := Aside0.mk hc0
  clear hr0 hc0
  have HB := Aside0.mk (Below.refl w.heap.size w)
  have hl : l0.length < 140737488355328 ∧ l0 = r := by
    unfold cloneF at h
    split at h
    · exact ⟨by assumption, Option.some.inj h⟩
    · cases h
  obtain ⟨hl, rfl⟩ := hl
  have LMc3 := Aside0.mk hl
  clear h hl
  cases A0 with
  | none =>
    have hl0 : l0 = [] := by
      have := HR0.out
      cases l0 with
      | nil => rfl
      | cons a t => obtain ⟨ad, e, _⟩ := Kd.at_int HR0.out 0 (by decide) (by simp); cases e
    subst hl0
    have heq : ∀ W : World, Sem.run Tryz.prog (binOp .eql 24 (.slice none 0 c0) (.slice none 0 0)) W = .ok (.bool true) W := fun W => Lib.run_eql_slice_nil W 24 5 none _ c0 0 0 Tryz.underlying24
    show Calls Tryz.prog 60 #[.slice none 0 c0] w _
    go_enter Tryz.func60, Tryz.ntmps60
    go_wp2
    go_ret
    exact ⟨_, rfl, Kd.R_nil _ _ _ _ _, HB.out⟩
  | some a0 =>
    have heq : ∀ W : World, Sem.run Tryz.prog (binOp .eql 24 (.slice (some a0) l0.length c0) (.slice none 0 0)) W = .ok (.bool false) W := fun W => Lib.run_eql_slice_nil W 24 5 (some a0) _ c0 0 0 Tryz.underlying24
    go_enter Tryz.func60, Tryz.ntmps60
    go_wp2_with (first | ((with_reducible refine gate_dst (N := 5) rfl ?_); refine Kd.R_lit (Kd.int .u8) _ 5 ?hg (N := 5) ?hd (xs := ([] : List Int)) (inner := []) (ok := fun _ => True) (okp := fun _ => True) ?hr ?hp (fun _ hk => hk) trivial (Below.refl _ _) (Nat.le_refl _) (by simp) ?_; (case hd => rfl); (case hg => rfl); (case hr => first | (go_simp; done) | (go_simp; rfl)); (case hp => exact (Reps.none _ _)); intro v117 w5 ho6 hb hg_ hnew_; clear hg_ hnew_; have n0_ := Aside0.mk (Kd.R_lower ho6 (below_size (by repeat (first | (with_reducible first | exact HB.out | apply below_alloc | apply pw_below_drewN | apply below_drew1) | exact HB.out)))); have n1_ := Aside0.mk (below_step (by repeat (first | (with_reducible first | exact HB.out | apply below_alloc | apply pw_below_drewN | apply below_drew1) | exact HB.out)) hb); clear HB; have HO118 := n0_; have HB := n1_; clear n0_ n1_; clear hb ho6) | ((with_reducible refine gate_builtin (b := .append) (xs := #[.tmp 5, .tmp 6]) rfl ?_); at_builtin; refine Kd.R_append_rows (Kd.int .u8) (w0 := w) w.heap.size rfl (.tmp 5) (.tmp 6) 24 5 (.int .u8 0) 1 rfl Tryz.underlying24 infoB rfl (by decide) (by omega) v117 [] l0 _ _ _ (fun _ => True) (fun _ => False) rfl rfl ?aO ?aR (fun _ _ h => h) (fun _ h => h.elim) ?aF ?aB ?aS ?aL ?_; (case aR => repeat (first | exact (Kd.C_below HR0.out HB.out) | (with_reducible refine Kd.C_alloc ?_ _) | (with_reducible refine Kd.C_drewN ?_ _) | (with_reducible refine Kd.C_drew ?_))); (case aB => exact (by repeat (first | (with_reducible first | exact HB.out | apply below_alloc | apply pw_below_drewN | apply below_drew1) | exact HB.out))); (case aF => exact (fun _ _ => trivial)); (case aO => exact (by (with_reducible repeat (first | apply Kd.R_alloc | apply Kd.R_drewN | apply Kd.R_drew)); exact HO118.out)); (case aS => exact (below_size (by repeat (first | (with_reducible first | exact HB.out | apply below_alloc | apply pw_below_drewN | apply below_drew1) | exact HB.out)))); (case aL => have := LMc3.out; simp only [List.length_nil]; omega); intro v120 w7 ho hb hg hat; rw [List.nil_append] at ho; have n0_ := Aside0.mk (hb); have n1_ := Aside0.mk (ho); clear HB; clear HO118; have HB := n0_; have HO121 := n1_; clear n0_ n1_; clear ho hb hg hat))
    go_ret
    exact ⟨_, by first | rfl | (simp; done) | (simp [*]; done), by (with_reducible repeat (first | apply Kd.R_alloc | apply Kd.R_drewN | apply Kd.R_drew)); exact Kd.R_mono HO121.out (fun _ hk => trivial), by repeat (first | (with_reducible first | exact HB.out | apply below_alloc | apply pw_below_drewN | apply below_drew1) | exact HB.out)⟩
theorem clone_ {A : Option Addr} {n c : Nat} {l : List Int} {w : World} (hr : U8.C w A n l) (hc : n ≤ c) (hl : n < 140737488355328) :
    Calls Tryz.prog 60 #[.slice A n c] w fun e w' => ∃ v, e = .returned v ∧ Sep w w' [Row U8 5 v l] := by
  obtain rfl : l.length = n := hr.1
  refine (clone0 A c l l w hr hc (if_pos hl)).mono ?_
  rintro e w' ⟨v, rfl, hR, hB⟩
  exact ⟨v, rfl, (Sep.start w).newRow hR hB⟩
theorem make_ {m : Nat} (hm : m ≤ 100000) : ∀ W : World, (Instr.makeSlice 24 (.int .i64 (m : Int)) (.int .i64 (m : Int))).run Tryz.prog W = .ok (.slice (some ⟨W.heap.size, 0, none⟩) m m) (W.alloc (.cells (madeCells #[.int .u8 0] m) 5)) :=
  print_make (P := Tryz.prog) 24 5 .u8 1 Tryz.underlying24 infoB (by decide) m (by omega)
end Go.Proofs.YtjngnigelkgekaaGreat.Base
namespace Go.Proofs.YtjngnigelkgekaaGreat.Plain
end Go.Proofs.YtjngnigelkgekaaGreat.Plain
