/- Sep, Fx, RowF, RowV, Elem, Base, Bits, Bytes, Delta1, StApply: what StoreNumbers needs. -/
import Derived.Test.YtjngnigelkgekaaGreatTstoreNumbers2
import Derived.Test.YtjngnigelkgekaaGreatProg
import Derived.WalkKit
import Derived.KernelRfl
import Derived.WalkSpells
import Derived.Deep.QuietTactic
import Derived.BigQuiet
import Derived.Deep.RegionWith
import Derived.Deep.LoopGhost
set_option linter.unusedVariables false
set_option linter.unusedSimpArgs false
namespace Go.Proofs.YtjngnigelkgekaaGreat.Kit
open Go.RowKit Go.Proofs.YtjngnigelkgekaaGreatW.PrintWords Go.Proofs.YtjngnigelkgekaaGreatW.PrintLast Go.Proofs.YtjngnigelkgekaaGreatW.PrintMore
structure HP where
  P : World → (Nat → Prop) → Prop
  loc : ∀ {W W' : World} {ok : Nat → Prop}, P W ok → (∀ k, ok k → W'.heap[k]? = W.heap[k]?) → P W' ok
  bnd : ∀ {W : World} {ok : Nat → Prop}, P W ok → ∀ k, ok k → k < W.heap.size
def SepR (W : World) : (Nat → Prop) → List HP → Prop
  | _, [] => True
  | av, p :: L => ∃ ok, p.P W ok ∧ (∀ k, ok k → ¬ av k) ∧ SepR W (fun k => av k ∨ ok k) L
namespace SepR
variable {W W' : World} {av av' : Nat → Prop} {L L' F : List HP} {p q p' : HP}
theorem weaken : ∀ {L : List HP} {av av' : Nat → Prop}, (∀ k, av' k → av k) → SepR W av L → SepR W av' L
  | [], _, _, _, _ => trivial
  | p :: L, _, _, hs, ⟨ok, hp, hd, h⟩ => ⟨ok, hp, fun k hk ha => hd k hk (hs k ha), weaken (fun k hk => hk.imp (hs k) id) h⟩
theorem move : ∀ {L : List HP} {av : Nat → Prop}, SepR W av L → (∀ k, k < W.heap.size → ¬ av k → W'.heap[k]? = W.heap[k]?) → SepR W' av L
  | [], _, _, _ => trivial
  | p :: L, _, ⟨ok, hp, hd, h⟩, hm => ⟨ok, p.loc hp (fun k hk => hm k (p.bnd hp k hk) (hd k hk)), hd, move h (fun k hlt hn => hm k hlt (fun ha => hn (.inl ha)))⟩
theorem swap (h : SepR W av (p :: q :: L)) : SepR W av (q :: p :: L) := by
  obtain ⟨op, hp, dp, oq, hq, dq, h⟩ := h
  exact ⟨oq, hq, fun k hk ha => dq k hk (.inl ha), op, hp, fun k hk ha => ha.elim (dp k hk) (fun ho => dq k ho (.inr hk)), weaken (fun k (hk : (av k ∨ oq k) ∨ op k) => hk.elim (fun h3 => h3.elim (fun h1 => .inl (.inl h1)) .inr) (fun h2 => .inl (.inr h2))) h⟩
theorem perm (hp : L.Perm L') : ∀ {av : Nat → Prop}, SepR W av L → SepR W av L' := by
  induction hp with
  | nil => exact fun h => h
  | cons x _ ih => exact fun ⟨ok, hx, hd, h⟩ => ⟨ok, hx, hd, ih h⟩
  | swap x y l => exact fun h => swap h
  | trans _ _ ih1 ih2 => exact fun h => ih2 (ih1 h)
theorem app_of : ∀ {L : List HP} {av ok : Nat → Prop}, (∀ k, ok k → ¬ av k) → SepR W (fun k => ¬ ok k) L → SepR W (fun k => av k ∨ ok k) F → SepR W av (L ++ F)
  | [], _, _, _, _, h => weaken (fun k hk => .inl hk) h
  | p :: L, av, ok, hd, ⟨op, hp, dp, h⟩, hF => by
    refine ⟨op, hp, fun k hk => hd k (Classical.not_not.1 (dp k hk)), app_of (ok := fun k => ok k ∧ ¬ op k) (fun k hk ha => ha.elim (hd k hk.1) hk.2) (weaken (fun k hk => ?_) h) (weaken (fun k hk => ?_) hF)⟩
    · by_cases h1 : ok k
      · exact .inr (Classical.not_not.1 (fun h2 => hk ⟨h1, h2⟩))
      · exact .inl h1
    · rcases hk with (h1 | h2) | h3
      · exact .inl h1
      · exact .inr (Classical.not_not.1 (dp k h2))
      · exact .inr h3.1
theorem of_app : ∀ {L : List HP} {av : Nat → Prop}, SepR W av (L ++ F) → ∃ ok : Nat → Prop, (∀ k, ok k → k < W.heap.size) ∧ (∀ k, ok k → ¬ av k) ∧ SepR W (fun k => ¬ ok k) L ∧ SepR W (fun k => av k ∨ ok k) F
  | [], _, h => ⟨fun _ => False, fun _ hf => hf.elim, fun _ hf => hf.elim, trivial, weaken (fun k hk => hk.elim id (fun hf => hf.elim)) h⟩
  | p :: L, av, ⟨op, hp, dp, h⟩ => by
    obtain ⟨o1, hb, hd, h1, h2⟩ := of_app h
    refine ⟨fun k => op k ∨ o1 k, fun k hk => hk.elim (p.bnd hp k) (hb k), fun k hk => hk.elim (dp k) (fun ho ha => hd k ho (.inl ha)), ⟨op, hp, fun k hk hn => hn (.inl hk), weaken (fun k hk ho => ?_) h1⟩, weaken (fun k hk => ?_) h2⟩
    · rcases hk with h3 | h3
      · exact h3 (.inr ho)
      · exact hd k ho (.inr h3)
    · rcases hk with h3 | h3 | h3
      · exact .inl (.inl h3)
      · exact .inl (.inr h3)
      · exact .inr h3
theorem fresh : ∀ {L : List HP} {av : Nat → Prop}, SepR W av L → SepR W (fun k => av k ∨ W.heap.size ≤ k) L
  | [], _, _ => trivial
  | p :: L, av, ⟨ok, hp, hd, h⟩ => ⟨ok, hp, fun k hk ha => ha.elim (hd k hk) (fun h2 => by have := p.bnd hp k hk; omega), weaken (fun k (hk : (av k ∨ W.heap.size ≤ k) ∨ ok k) => hk.elim (fun h3 => h3.elim (fun h1 => .inl (.inl h1)) .inr) (fun h1 => .inl (.inr h1))) (fresh h)⟩
end SepR
structure Sep (w0 W : World) (L : List HP) : Prop where
  os : W.os = w0.os
  tape : W.tape = w0.tape
  output : W.output = w0.output
  size : w0.heap.size ≤ W.heap.size
  old : ∀ k, k < w0.heap.size → W.heap[k]? = w0.heap[k]?
  sep : SepR W (fun k => k < w0.heap.size) L
def Star (L : List HP) : HP where
  P W ok := (∀ k, ok k → k < W.heap.size) ∧ SepR W (fun k => ¬ ok k) L
  loc := fun {W W' ok} h hm => ⟨fun k hk => by
      have := hm k hk
      rw [Array.getElem?_eq_getElem (h.1 k hk)] at this
      exact (Array.getElem?_eq_some_iff.1 this).1, h.2.move (fun k _ hk => hm k (Classical.not_not.1 hk))⟩
  bnd := fun h => h.1
def Ex {α : Type} (p : α → HP) : HP where
  P W ok := ∃ x, (p x).P W ok
  loc := fun ⟨x, h⟩ hm => ⟨x, (p x).loc h hm⟩
  bnd := fun ⟨x, h⟩ => (p x).bnd h
def Pu (φ : Prop) : HP where
  P W ok := φ ∧ ∀ k, ¬ ok k
  loc := fun h _ => h
  bnd := fun h k hk => (h.2 k hk).elim
def Blk (g : Nat) (t : TypeId) (cs : Array Value) : HP where
  P W ok := (∀ k, ok k ↔ k = g) ∧ W.heap[g]? = some (.cells cs t (0, 0))
  loc := fun h hm => ⟨h.1, (hm _ ((h.1 _).2 rfl)).trans h.2⟩
  bnd := fun h k hk => by rw [(h.1 k).1 hk]; exact blk_lt h.2
def MapB (g : Nat) (es : Array MapEntry) (clock : Nat) : HP where
  P W ok := (∀ k, ok k ↔ k = g) ∧ W.heap[g]? = some (.map es clock)
  loc := fun h hm => ⟨h.1, (hm _ ((h.1 _).2 rfl)).trans h.2⟩
  bnd := fun h k hk => by rw [(h.1 k).1 hk]; exact blk_lt h.2
def Row {α : Type} (d : Kd α) (e : Nat) (v : Value) (xs : List α) : HP where
  P W ok := d.R e W 0 ok v xs ∧ ∀ k, ok k → k < W.heap.size
  loc := fun {W W' ok} h hm => ⟨Kd.R_move h.1 hm, fun k hk => by
      have := hm k hk
      rw [Array.getElem?_eq_getElem (h.2 k hk)] at this
      exact (Array.getElem?_eq_some_iff.1 this).1⟩
  bnd := fun h => h.2
def Rd {α : Type} (d : Kd α) (A : Option Addr) (n : Nat) (xs : List α) : HP where
  P W ok := (∀ W' : World, (∀ k, ok k → W'.heap[k]? = W.heap[k]?) → d.C W' A n xs) ∧ ∀ k, ok k → k < W.heap.size
  loc := fun {W W' ok} h hm => ⟨fun W2 h2 => h.1 W2 (fun k hk => (h2 k hk).trans (hm k hk)), fun k hk => by
      have := hm k hk
      rw [Array.getElem?_eq_getElem (h.2 k hk)] at this
      exact (Array.getElem?_eq_some_iff.1 this).1⟩
  bnd := fun h => h.2
namespace Sep
variable {w0 W W' W2 : World} {L L' F R : List HP} {p q r s t u : HP}
theorem start (w : World) : Sep w w [] := ⟨rfl, rfl, rfl, Nat.le_refl _, fun _ _ => rfl, trivial⟩
theorem toBelow (h : Sep w0 W L) : Below w0.heap.size w0 W := ⟨h.os, h.tape, h.output, h.size, h.old⟩
theorem perm (h : Sep w0 W L) (hp : L.Perm L') : Sep w0 W L' := ⟨h.os, h.tape, h.output, h.size, h.old, h.sep.perm hp⟩
theorem at2 (h : Sep w0 W (p :: q :: F)) : Sep w0 W (q :: p :: F) := h.perm (.swap _ _ _)
theorem at3 (h : Sep w0 W (p :: q :: r :: F)) : Sep w0 W (r :: p :: q :: F) := h.perm ((List.Perm.cons p (.swap _ _ _)).trans (.swap _ _ _))
theorem sw23 (h : Sep w0 W (p :: q :: r :: F)) : Sep w0 W (p :: r :: q :: F) := h.perm (.cons _ (.swap _ _ _))
theorem to3 (h : Sep w0 W (p :: q :: r :: F)) : Sep w0 W (q :: r :: p :: F) := h.perm ((List.Perm.swap _ _ _).trans (.cons _ (.swap _ _ _)))
theorem at4 (h : Sep w0 W (p :: q :: r :: s :: F)) : Sep w0 W (s :: p :: q :: r :: F) := (h.perm (.cons p ((List.Perm.cons q (.swap _ _ _)).trans (.swap _ _ _)))).at2
theorem to4 (h : Sep w0 W (p :: q :: r :: s :: F)) : Sep w0 W (q :: r :: s :: p :: F) := h.at2.perm (.cons _ ((List.Perm.swap _ _ _).trans (.cons _ (.swap _ _ _))))
theorem at5 (h : Sep w0 W (p :: q :: r :: s :: t :: F)) : Sep w0 W (t :: p :: q :: r :: s :: F) := (h.perm (.cons p (.cons q ((List.Perm.cons r (.swap _ _ _)).trans (.swap _ _ _))))).at3
theorem tail (h : Sep w0 W (p :: F)) : Sep w0 W F := by
  obtain ⟨ok, _, _, h2⟩ := h.sep
  exact ⟨h.os, h.tape, h.output, h.size, h.old, h2.weaken (fun k hk => .inl hk)⟩
theorem drop2 (h : Sep w0 W (p :: q :: F)) : Sep w0 W (p :: F) := h.at2.tail
theorem weak (h : Sep w0 W (L ++ F)) : Sep w0 W F := by
  induction L with
  | nil => exact h
  | cons p L ih => exact ih h.tail
theorem weakR (h : Sep w0 W (L ++ F)) : Sep w0 W L := (h.perm List.perm_append_comm).weak
theorem below (h : Sep w0 W L) (hb : Below W.heap.size W W') : Sep w0 W' L :=
  ⟨hb.os.trans h.os, hb.tape.trans h.tape, hb.output.trans h.output, Nat.le_trans h.size hb.size, fun k hk => (hb.block k (Nat.lt_of_lt_of_le hk h.size)).trans (h.old k hk), h.sep.move (fun k hk _ => hb.block k hk)⟩
theorem drew (h : Sep w0 W L) : Sep w0 W.drew L := h.below (below_drew (Below.refl _ _))
theorem drewN (h : Sep w0 W L) (n : Nat) : Sep w0 (W.drewN n) L := h.below (pw_below_drewN (Below.refl _ _) n)
theorem alloc (h : Sep w0 W L) (o : Obj) : Sep w0 (W.alloc o) L := h.below (below_alloc (Below.refl _ _) o)
theorem stepOk {ok ok' : Nat → Prop} (h : Sep w0 W L) (hd : ∀ k, ok k → ¬ k < w0.heap.size) (hF : SepR W (fun k => k < w0.heap.size ∨ ok k) F) (hg : W'.os = W.os ∧ W'.tape = W.tape ∧ W'.output = W.output ∧ W.heap.size ≤ W'.heap.size)
    (hm : ∀ k, k < W.heap.size → ¬ ok k → W'.heap[k]? = W.heap[k]?) (hq : q.P W' ok') (hk' : ∀ k, ok' k → ok k ∨ W.heap.size ≤ k) : Sep w0 W' (q :: F) := by
  refine ⟨hg.1.trans h.os, hg.2.1.trans h.tape, hg.2.2.1.trans h.output, Nat.le_trans h.size hg.2.2.2, fun k hk => (hm k (Nat.lt_of_lt_of_le hk h.size) (fun ho => hd k ho hk)).trans (h.old k hk), ok', hq, fun k hk ha => ?_, ?_⟩
  · rcases hk' k hk with h1 | h1
    · exact hd k h1 ha
    · have := h.size; omega
  · have h1 := (hF.fresh).move (W' := W') (fun k hlt hn => hm k hlt (fun ho => hn (.inl (.inr ho))))
    exact h1.weaken (fun k hk => hk.elim (fun h3 => .inl (.inl h3)) (fun h3 => (hk' k h3).elim (fun h4 => .inl (.inr h4)) .inr))
theorem step (h : Sep w0 W (p :: F)) (hg : W'.os = W.os ∧ W'.tape = W.tape ∧ W'.output = W.output ∧ W.heap.size ≤ W'.heap.size)
    (hs : ∀ ok, p.P W ok → (∀ k, k < W.heap.size → ¬ ok k → W'.heap[k]? = W.heap[k]?) ∧ ∃ ok', q.P W' ok' ∧ ∀ k, ok' k → ok k ∨ W.heap.size ≤ k) : Sep w0 W' (q :: F) := by
  obtain ⟨ok, hp, hd, hF⟩ := h.sep
  obtain ⟨hm, ok', hq, hk'⟩ := hs ok hp
  exact h.stepOk hd hF hg hm hq hk'
theorem gain (h : Sep w0 W F) (hb : Below W.heap.size W W') {ok : Nat → Prop} (hq : q.P W' ok) (hk : ∀ k, ok k → W.heap.size ≤ k) : Sep w0 W' (q :: F) := by
  have h1 := h.below hb
  refine ⟨h1.os, h1.tape, h1.output, h1.size, h1.old, ok, hq, fun k ho ha => ?_, ?_⟩
  · have := hk k ho; have := h.size; omega
  · have h2 := (h.sep.fresh).move (W' := W') (fun k hlt _ => hb.block k hlt)
    exact h2.weaken (fun k hk2 => hk2.imp id (hk k))
theorem lift (h : Sep w0 W F) (hR : Sep W W' R) : Sep w0 W' (R ++ F) := by
  have h1 := h.below hR.toBelow
  refine ⟨h1.os, h1.tape, h1.output, h1.size, h1.old, SepR.app_of (ok := fun k => W.heap.size ≤ k) (fun k hk ha => by have := h.size; omega) (hR.sep.weaken (fun k hk => by omega)) ?_⟩
  exact (h.sep.fresh).move (W' := W') (fun k hlt _ => hR.toBelow.block k hlt)
theorem lift1 (h : Sep w0 W F) (hR : Sep W W' [p]) : Sep w0 W' (p :: F) := h.lift hR
theorem star (h : Sep w0 W (Star L :: F)) : Sep w0 W (L ++ F) := by
  obtain ⟨ok, hp, hd, hF⟩ := h.sep
  exact ⟨h.os, h.tape, h.output, h.size, h.old, SepR.app_of hd hp.2 hF⟩
theorem unstar (h : Sep w0 W (L ++ F)) : Sep w0 W (Star L :: F) := by
  obtain ⟨ok, hb, hd, h1, h2⟩ := SepR.of_app h.sep
  exact ⟨h.os, h.tape, h.output, h.size, h.old, ok, ⟨hb, h1⟩, hd, h2⟩
theorem ex {α : Type} {p : α → HP} (h : Sep w0 W (Ex p :: F)) : ∃ x, Sep w0 W (p x :: F) := by
  obtain ⟨ok, ⟨x, hp⟩, hd, hF⟩ := h.sep
  exact ⟨x, h.os, h.tape, h.output, h.size, h.old, ok, hp, hd, hF⟩
theorem unex {α : Type} {p : α → HP} (x : α) (h : Sep w0 W (p x :: F)) : Sep w0 W (Ex p :: F) := by
  obtain ⟨ok, hp, hd, hF⟩ := h.sep
  exact ⟨h.os, h.tape, h.output, h.size, h.old, ok, ⟨x, hp⟩, hd, hF⟩
theorem pu {φ : Prop} (h : Sep w0 W (Pu φ :: F)) : φ ∧ Sep w0 W F := by
  obtain ⟨ok, hp, hd, hF⟩ := h.sep
  exact ⟨hp.1, h.tail⟩
theorem unpu {φ : Prop} (hφ : φ) (h : Sep w0 W F) : Sep w0 W (Pu φ :: F) :=
  ⟨h.os, h.tape, h.output, h.size, h.old, fun _ => False, ⟨hφ, fun _ hf => hf⟩, fun _ hf => hf.elim, h.sep.weaken (fun k hk => hk.elim id (fun hf => hf.elim))⟩
theorem imp (h : Sep w0 W (p :: F)) (hi : ∀ ok, p.P W ok → q.P W ok) : Sep w0 W (q :: F) := by
  obtain ⟨ok, hp, hd, hF⟩ := h.sep
  exact ⟨h.os, h.tape, h.output, h.size, h.old, ok, hi ok hp, hd, hF⟩
section
variable {g : Nat} {ty : TypeId} {cs : Array Value} {es : Array MapEntry} {clock : Nat}
theorem blk (h : Sep w0 W (Blk g ty cs :: F)) : W.heap[g]? = some (.cells cs ty (0, 0)) := by
  obtain ⟨ok, hp, _⟩ := h.sep; exact hp.2
theorem cell (h : Sep w0 W (Blk g ty cs :: F)) (i : Nat) : W.cell? ⟨g, i, none⟩ = cs[i]? := cell_of_row W g i cs ty (0, 0) h.blk
theorem frozen (h : Sep w0 W (Blk g ty cs :: F)) (i : Nat) : W.frozen? ⟨g, i, none⟩ = false := by simp [World.frozen?, h.blk]
theorem map (h : Sep w0 W (MapB g es clock :: F)) : W.heap[g]? = some (.map es clock) := by
  obtain ⟨ok, hp, _⟩ := h.sep; exact hp.2
theorem newBlk (h : Sep w0 W F) (t : TypeId) (cs : Array Value) : Sep w0 (W.alloc (.cells cs t)) (Blk W.heap.size t cs :: F) :=
  h.gain (below_alloc (Below.refl _ _) _) (ok := fun k => k = W.heap.size) ⟨fun _ => Iff.rfl, blk_new W _⟩ (fun k hk => by omega)
theorem newMap (h : Sep w0 W F) : Sep w0 (W.alloc (.map #[] 0)) (MapB W.heap.size #[] 0 :: F) :=
  h.gain (below_alloc (Below.refl _ _) _) (ok := fun k => k = W.heap.size) ⟨fun _ => Iff.rfl, blk_new W _⟩ (fun k hk => by omega)
theorem setBlk (h : Sep w0 W (Blk g ty cs :: F)) (i : Nat) (u : Value) : Sep w0 (W.setCell ⟨g, i, none⟩ u) (Blk g ty (cs.setIfInBounds i u) :: F) :=
  h.step ⟨rfl, rfl, rfl, by simp [World.setCell]⟩ (fun ok hp => ⟨fun k _ hn => Below.heap_setCell W _ u k (fun he => hn ((hp.1 k).2 he)), ok, ⟨hp.1, by
    have := hp.2
    simp [World.setCell, Array.getElem?_modify, this]⟩, fun k hk => .inl hk⟩)
theorem setMap (h : Sep w0 W (MapB g es clock :: F)) (es' : Array MapEntry) (clock' : Nat) : Sep w0 { W with heap := W.heap.setIfInBounds g (.map es' clock') } (MapB g es' clock' :: F) :=
  h.step ⟨rfl, rfl, rfl, by simp⟩ (fun ok hp => ⟨fun k _ hn => by
    have hne : g ≠ k := fun he => hn ((hp.1 k).2 he.symm)
    simp [Array.getElem?_setIfInBounds, hne], ok, ⟨hp.1, by
    have hlt := blk_lt hp.2
    simp [Array.getElem?_setIfInBounds, hlt]⟩, fun k hk => .inl hk⟩)
end
section
variable {α : Type} {d : Kd α} {e n c : Nat} {v : Value} {A : Option Addr} {xs : List α}
theorem row (h : Sep w0 W (Row d e v xs :: F)) : ∃ ok, d.R e W 0 ok v xs := by
  obtain ⟨ok, hp, _⟩ := h.sep; exact ⟨ok, hp.1⟩
theorem rowV (h : Sep w0 W (Row d e v xs :: F)) : ∃ A c, v = .slice A xs.length c := by
  obtain ⟨ok, hr⟩ := h.row; exact Kd.R_slice hr
theorem rowN (h : Sep w0 W (Row d e v xs :: F)) (hn : xs.length = n) : ∃ A c, v = .slice A n c := by
  subst hn; exact h.rowV
theorem rowC (h : Sep w0 W (Row d e (.slice A n c) xs :: F)) : n = xs.length ∧ n ≤ c ∧ d.C W A xs.length xs := by
  obtain ⟨ok, hr⟩ := h.row; exact Kd.R_reads' hr
theorem rowForm (h : Sep w0 W (Row d e v xs :: F)) (hp : 0 < xs.length) : ∃ g cap, v = .slice (some ⟨g, 0, none⟩) xs.length cap := by
  obtain ⟨ok, hr⟩ := h.row
  obtain ⟨g, cap, hv, _⟩ := Kd.R_form hr hp
  exact ⟨g, cap, hv⟩
theorem rowFormN (h : Sep w0 W (Row d e v xs :: F)) (hn : xs.length = n) (hp : 0 < n) : ∃ g cap, v = .slice (some ⟨g, 0, none⟩) n cap := by
  subst hn; exact h.rowForm hp
theorem newRow {ok : Nat → Prop} (h : Sep w0 W F) (hr : d.R e W' W.heap.size ok v xs) (hb : Below W.heap.size W W') : Sep w0 W' (Row d e v xs :: F) :=
  h.gain hb (ok := fun k => ok k ∧ W.heap.size ≤ k ∧ k < W'.heap.size) ⟨Kd.R_lower (Kd.R_mono (Kd.R_bound hr) (fun k hk => ⟨hk.1, hk.2.1, hk.2.2.1⟩)) (Nat.zero_le _), fun k hk => hk.2.2⟩ (fun k hk => hk.2.1)
theorem nilRow (h : Sep w0 W F) (d : Kd α) (e : Nat) : Sep w0 W (Row d e (.slice none 0 0) [] :: F) :=
  h.gain (Below.refl _ _) (ok := fun _ => False) ⟨Kd.R_nil _ _ _ _ _, fun _ hf => hf.elim⟩ (fun _ hf => hf.elim)
theorem rowRd (h : Sep w0 W (Row d e (.slice A n c) xs :: F)) : Sep w0 W (Rd d A n xs :: F) := by
  refine h.imp (fun ok hp => ⟨fun W' hm => ?_, hp.2⟩)
  have h2 := Kd.R_reads' (Kd.R_move hp.1 hm)
  rw [h2.1]; exact h2.2.2
theorem rd (h : Sep w0 W (Rd d A n xs :: F)) : d.C W A n xs := by
  obtain ⟨ok, hp, _⟩ := h.sep; exact hp.1 W (fun _ _ => rfl)
end
section
variable {α : Type} {enc : α → Value} {h1 : ∀ x, (enc x).oneCell' = true} {e g n cap : Nat} {xs : List α}
theorem rowCell (d : α) (h : Sep w0 W (Row (Kd.scalar enc h1) e (.slice (some ⟨g, 0, none⟩) n cap) xs :: F)) (i : Nat) (hi : i < n) : W.cell? ⟨g, i, none⟩ = some (enc (xs.getD i d)) ∧ W.frozen? ⟨g, i, none⟩ = false := by
  obtain ⟨ok, hr⟩ := h.row
  have := Kd.R_celln d hr (i : Int) (by omega) (by omega)
  simpa [rdOf] using this
theorem putRow (h : Sep w0 W (Row (Kd.scalar enc h1) e (.slice (some ⟨g, 0, none⟩) n cap) xs :: F)) (i : Nat) (x : α) :
    Sep w0 (W.setCell ⟨g, i, none⟩ (enc x)) (Row (Kd.scalar enc h1) e (.slice (some ⟨g, 0, none⟩) n cap) (xs.set i x) :: F) :=
  h.step ⟨rfl, rfl, rfl, by simp [World.setCell]⟩ (fun ok hp => ⟨fun k _ hn => Below.heap_setCell W _ _ k (fun he => hn (by
      have := hp.1.1 g rfl
      rw [he]; exact this)), ok, ⟨by
    have := (Kd.R_putg hp.1 (i : Int) x).1
    simpa using this, fun k hk => by simpa [World.setCell] using hp.2 k hk⟩, fun k hk => .inl hk⟩)
end
section
variable {P : Program} {ops : Array Oper} {rest : List Oper} {o : Oper} {a : Act} {Q : Exit → Act → World → Prop} {α : Type} {enc : α → Value} {h1 : ∀ x, (enc x).oneCell' = true}
theorem appendRow {e : Nat} {v : Value} {xs ys : List α} (h : Sep w0 W (Row (Kd.scalar enc h1) e v xs :: F)) (hgd : o.guard = none) (s x : Operand) (t : TypeId) (z : Value) (bytes : Nat)
    (ho : o.op = .call { callee := .builtin .append, args := #[s, x], argTypes := #[t, t] })
    (ht : P.underlying t = some (.slice e)) (hinfo : (P.info? e).map (fun i => (i.zero, i.size, i.bytes)) = some (some z, 1, bytes)) (hz : z.cells.size = 1) (hb0 : 0 < bytes)
    (A : Option Addr) (m c : Nat) (hs : a.eval s = v) (hx : a.eval x = .slice A m c) (hC : (Kd.scalar enc h1).C W A m ys) (hl : (xs.length + ys.length) * bytes ≤ 140737488355328)
    (k : ∀ v1 w1, Sep w0 w1 (Row (Kd.scalar enc h1) e v1 (xs ++ ys) :: F) → wpList P ops Q rest (a.put o.dst v1) w1) : wpList P ops Q (o :: rest) a W := by
  obtain ⟨ok, hp, hd, hF⟩ := h.sep
  refine Kd.R_append_rows (Kd.scalar enc h1) (Rr := fun x cs => cs = [enc x]) (w0 := W) 0 hgd s x t e z bytes ho ht hinfo hz (by show 0 < 1; omega) hb0 v xs ys A m c (fun k => ok k ∨ W.heap.size ≤ k) (fun _ => False) hs hx
    (Kd.R_mono hp.1 (fun k hk => .inl hk)) hC (fun x cs h => h) (fun _ h => h.elim) (fun k hk => .inr hk) (Below.refl 0 W) (Nat.zero_le _) (by rw [← hC.1]; exact hl) (fun v1 w1 hr hb hg hat => k v1 w1 ?_)
  exact h.stepOk hd hF ⟨hg.os, hg.tape, hg.output, hg.size⟩ (fun k hlt hn => hg.block k hlt (fun he => hn (hp.1.1 k he.symm))) (ok' := fun k => (ok k ∨ W.heap.size ≤ k) ∧ k < w1.heap.size)
    ⟨Kd.R_mono (Kd.R_bound hr) (fun k hk => ⟨hk.1, hk.2.2.1⟩), fun k hk => hk.2⟩ (fun k hk => hk.1)
theorem appendStep {Kc : Act → World → Prop} {e : Nat} {v : Value} {xs ys : List α} (h : Sep w0 W (Row (Kd.scalar enc h1) e v xs :: F)) (hw : Region.wanted o (yielded ops a.tmps) = true) (s x : Operand) (t : TypeId) (z : Value) (bytes : Nat)
    (ho : o.op = .call { callee := .builtin .append, args := #[s, x], argTypes := #[t, t] })
    (ht : P.underlying t = some (.slice e)) (hinfo : (P.info? e).map (fun i => (i.zero, i.size, i.bytes)) = some (some z, 1, bytes)) (hz : z.cells.size = 1) (hb0 : 0 < bytes)
    (A : Option Addr) (m c : Nat) (hs : a.eval s = v) (hx : a.eval x = .slice A m c) (hC : (Kd.scalar enc h1).C W A m ys) (hl : (xs.length + ys.length) * bytes ≤ 140737488355328)
    (k : ∀ v1 w1, Sep w0 w1 (Row (Kd.scalar enc h1) e v1 (xs ++ ys) :: F) → Kc (a.put o.dst v1) w1) : if Region.wanted o (yielded ops a.tmps) = true then Oper.wp P o a W Kc Q else Kc (a.put o.dst undef) W := by
  obtain ⟨ok, hp, hd, hF⟩ := h.sep
  refine Kd.R_append_rows_step (Kd.scalar enc h1) (Rr := fun x cs => cs = [enc x]) (w0 := W) 0 hw s x t e z bytes ho ht hinfo hz (by show 0 < 1; omega) hb0 v xs ys A m c (fun k => ok k ∨ W.heap.size ≤ k) (fun _ => False) hs hx
    (Kd.R_mono hp.1 (fun k hk => .inl hk)) hC (fun x cs h => h) (fun _ h => h.elim) (fun k hk => .inr hk) (Below.refl 0 W) (Nat.zero_le _) (by rw [← hC.1]; exact hl) (fun v1 w1 hr hb hg hat => k v1 w1 ?_)
  exact h.stepOk hd hF ⟨hg.os, hg.tape, hg.output, hg.size⟩ (fun k hlt hn => hg.block k hlt (fun he => hn (hp.1.1 k he.symm))) (ok' := fun k => (ok k ∨ W.heap.size ≤ k) ∧ k < w1.heap.size)
    ⟨Kd.R_mono (Kd.R_bound hr) (fun k hk => ⟨hk.1, hk.2.2.1⟩), fun k hk => hk.2⟩ (fun k hk => hk.1)
theorem madeRow {e : Nat} (d : α) (m : Nat) (h : Sep w0 W F) (hm : m ≤ 9223372036854775807) : Sep w0 (W.alloc (.cells (madeCells #[enc d] m) e)) (Row (Kd.scalar enc h1) e (.slice (some ⟨W.heap.size, 0, none⟩) m m) (List.replicate m d) :: F) :=
  h.newRow (ok := fun _ => True) (Kd.R_of_own (by rw [List.length_replicate]; exact own_made_of W W.heap.size e m (Nat.le_refl _) hm) (fun _ _ => trivial)) (below_alloc (Below.refl _ _) _)
theorem litRow {e : Nat} (xs : List α) (h : Sep w0 W F) (hm : xs.length ≤ 9223372036854775807) : Sep w0 (W.alloc (.cells (encs enc xs).toArray e)) (Row (Kd.scalar enc h1) e (.slice (some ⟨W.heap.size, 0, none⟩) xs.length xs.length) xs :: F) :=
  h.newRow (ok := fun _ => True) (Kd.R_of_own (own_lit_of W W.heap.size e xs (Nat.le_refl _) hm) (fun _ _ => trivial)) (below_alloc (Below.refl _ _) _)
end
end Sep
end Go.Proofs.YtjngnigelkgekaaGreat.Kit
namespace Go.Proofs.YtjngnigelkgekaaGreat.Kit
open Go.RowKit Go.Proofs.YtjngnigelkgekaaGreatW.PrintWords Go.Proofs.YtjngnigelkgekaaGreatW.PrintLast Go.Proofs.YtjngnigelkgekaaGreatW.PrintMore
def Fx (φ : World → Prop) : HP where
  P W ok := (∀ W' : World, (∀ k, ok k → W'.heap[k]? = W.heap[k]?) → φ W') ∧ ∀ k, ok k → k < W.heap.size
  loc := fun {W W' ok} h hm => ⟨fun W2 h2 => h.1 W2 (fun k hk => (h2 k hk).trans (hm k hk)), fun k hk => by
      have := hm k hk
      rw [Array.getElem?_eq_getElem (h.2 k hk)] at this
      exact (Array.getElem?_eq_some_iff.1 this).1⟩
  bnd := fun h => h.2
namespace Sep
variable {w0 W W' : World} {F : List HP} {φ ψ : World → Prop}
theorem fx (h : Sep w0 W (Fx φ :: F)) : φ W := by
  obtain ⟨ok, hp, _⟩ := h.sep; exact hp.1 W (fun _ _ => rfl)
theorem fxTrue (h : Sep w0 W F) : Sep w0 W (Fx (fun _ => True) :: F) :=
  h.gain (Below.refl _ _) (ok := fun _ => False) ⟨fun _ _ => trivial, fun _ hf => hf.elim⟩ (fun _ hf => hf.elim)
theorem fxImp (h : Sep w0 W (Fx φ :: F)) (hi : ∀ W, φ W → ψ W) : Sep w0 W (Fx ψ :: F) := h.imp (fun ok hp => ⟨fun W' hm => hi W' (hp.1 W' hm), hp.2⟩)
theorem fxRow {α : Type} {d : Kd α} {e n c : Nat} {A : Option Addr} {xs : List α} (h : Sep w0 W (Row d e (.slice A n c) xs :: F)) : Sep w0 W (Fx (fun W => d.C W A n xs) :: F) := by
  refine h.imp (fun ok hp => ⟨fun W' hm => ?_, hp.2⟩)
  have h2 := Kd.R_reads' (Kd.R_move hp.1 hm)
  rw [h2.1]; exact h2.2.2
theorem fxAnd (h : Sep w0 W (Fx φ :: Fx ψ :: F)) : Sep w0 W (Fx (fun W => φ W ∧ ψ W) :: F) := by
  obtain ⟨o1, h1, d1, o2, h2, d2, hF⟩ := h.sep
  refine ⟨h.os, h.tape, h.output, h.size, h.old, fun k => o1 k ∨ o2 k, ⟨fun W' hm => ⟨h1.1 W' (fun k hk => hm k (.inl hk)), h2.1 W' (fun k hk => hm k (.inr hk))⟩, fun k hk => hk.elim (h1.2 k) (h2.2 k)⟩, fun k hk ha => hk.elim (fun ho => d1 k ho ha) (fun ho => d2 k ho (.inl ha)), hF.weaken (fun k hk => ?_)⟩
  rcases hk with h3 | h3 | h3
  · exact .inl (.inl h3)
  · exact .inl (.inr h3)
  · exact .inr h3
end Sep
end Go.Proofs.YtjngnigelkgekaaGreat.Kit
namespace Go.Proofs.YtjngnigelkgekaaGreat.Kit
open Go.RowKit Go.Proofs.YtjngnigelkgekaaGreatW.PrintWords Go.Proofs.YtjngnigelkgekaaGreatW.PrintLast Go.Proofs.YtjngnigelkgekaaGreatW.PrintMore
def Each {α : Type} (d : Kd α) (xs : List α) (cs : List (List Value)) (W : World) : Prop := xs.length = cs.length ∧ ∀ (j : Nat) x c, xs[j]? = some x → cs[j]? = some c → d.K W x c
theorem Each.nil {α : Type} (d : Kd α) (W : World) : Each d [] [] W := ⟨rfl, fun j x c h => by simp at h⟩
theorem Each.snoc {α : Type} {d : Kd α} {xs : List α} {cs : List (List Value)} {W : World} {x : α} {c : List Value} (h : Each d xs cs W) (hx : d.K W x c) : Each d (xs ++ [x]) (cs ++ [c]) W := by
  refine ⟨by simp [h.1], fun j y b hy hb => ?_⟩
  by_cases hj : j < xs.length
  · rw [List.getElem?_append_left hj] at hy
    rw [List.getElem?_append_left (by rw [← h.1]; exact hj)] at hb
    exact h.2 j y b hy hb
  · rw [List.getElem?_append_right (by omega)] at hy
    rw [List.getElem?_append_right (by have := h.1; omega)] at hb
    have : j - xs.length = 0 := by
      rcases Nat.eq_zero_or_pos (j - xs.length) with h0 | h0
      · exact h0
      · rw [List.getElem?_eq_none (by simp; omega)] at hy; cases hy
    rw [this] at hy
    rw [show j - cs.length = 0 by have := h.1; omega] at hb
    simp at hy hb
    subst hy hb
    exact hx
def Cl {α : Type} (d : Kd α) (x : α) (c : List Value) : HP := Fx (fun W => d.K W x c)
namespace Sep
variable {w0 W W' : World} {F : List HP} {α : Type} {d : Kd α} {e n c : Nat} {v : Value} {A : Option Addr} {xs : List α} {φ ψ : World → Prop}
theorem fxPure (h : Sep w0 W F) (hp : ∀ W, φ W) : Sep w0 W (Fx φ :: F) := h.fxTrue.fxImp (fun W _ => hp W)
theorem clSlice {β : Type} {d : Kd β} {e n c : Nat} {A : Option Addr} {xs : List β} (h : Sep w0 W (Row d e (.slice A n c) xs :: F)) : Sep w0 W (Cl (Kd.slice e d) xs [.slice A n c] :: F) := by
  have h1 := h.rowC
  exact h.fxRow.fxImp (fun W hC => ⟨A, c, by rw [h1.1], by rw [← h1.1]; exact h1.2.1, by rw [← h1.1]; exact hC⟩)
end Sep
end Go.Proofs.YtjngnigelkgekaaGreat.Kit
namespace Go.Proofs.YtjngnigelkgekaaGreat.Kit
open Go.RowKit Go.Proofs.YtjngnigelkgekaaGreatW.PrintWords Go.Proofs.YtjngnigelkgekaaGreatW.PrintLast Go.Proofs.YtjngnigelkgekaaGreatW.PrintMore
abbrev OV := { v : Value // v.oneCell' = true }
abbrev KV : Kd OV := Kd.scalar (fun x => x.1) (fun x => x.2)
def EachV {α : Type} (d : Kd α) (xs : List α) (cs : List OV) (W : World) : Prop := xs.length = cs.length ∧ ∀ (j : Nat) x c, xs[j]? = some x → cs[j]? = some c → d.K W x [c.1]
theorem EachV.nil {α : Type} (d : Kd α) (W : World) : EachV d [] [] W := ⟨rfl, fun j x c h => by simp at h⟩
theorem EachV.snoc {α : Type} {d : Kd α} {xs : List α} {cs : List OV} {W : World} {x : α} {c : OV} (h : EachV d xs cs W) (hx : d.K W x [c.1]) : EachV d (xs ++ [x]) (cs ++ [c]) W := by
  refine ⟨by simp [h.1], fun j y b hy hb => ?_⟩
  by_cases hj : j < xs.length
  · rw [List.getElem?_append_left hj] at hy
    rw [List.getElem?_append_left (by rw [← h.1]; exact hj)] at hb
    exact h.2 j y b hy hb
  · rw [List.getElem?_append_right (by omega)] at hy
    rw [List.getElem?_append_right (by have := h.1; omega)] at hb
    have : j - xs.length = 0 := by
      rcases Nat.eq_zero_or_pos (j - xs.length) with h0 | h0
      · exact h0
      · rw [List.getElem?_eq_none (by simp; omega)] at hy; cases hy
    rw [this] at hy
    rw [show j - cs.length = 0 by have := h.1; omega] at hb
    simp at hy hb
    subst hy hb
    exact hx
theorem EachV.set {α : Type} {d : Kd α} {xs : List α} {cs : List OV} {W : World} {x : α} {c : OV} (i : Nat) (h : EachV d xs cs W) (hx : d.K W x [c.1]) : EachV d (xs.set i x) (cs.set i c) W := by
  refine ⟨by simp [h.1], fun j y b hy hb => ?_⟩
  by_cases hj : i = j
  · subst hj
    rw [List.getElem?_set] at hy hb
    simp only [if_true] at hy hb
    split at hy
    · split at hb
      · cases hy; cases hb; exact hx
      · cases hb
    · cases hy
  · rw [List.getElem?_set_ne hj] at hy hb
    exact h.2 j y b hy hb
theorem eachV_C {α : Type} {d : Kd α} {W : World} {A : Option Addr} {n : Nat} {xs : List α} {cs : List OV} (hd : d.sz = 1) (hC : KV.C W A n cs) (h : EachV d xs cs W) : d.C W A n xs := by
  refine ⟨h.1.trans hC.1, hC.2.1, fun hp => ?_⟩
  obtain ⟨ad, e, hr⟩ := hC.2.2 hp
  refine ⟨ad, e, fun j x hx => ?_⟩
  have hlt : j < cs.length := by
    rw [← h.1]
    exact (List.getElem?_eq_some_iff.1 hx).1
  obtain ⟨c, hl, hk, hc⟩ := hr j _ (List.getElem?_eq_getElem hlt)
  have hk1 : c = [(cs[j]).1] := hk
  subst hk1
  rw [hd]
  exact ⟨_, rfl, h.2 j x _ hx (List.getElem?_eq_getElem hlt), hc⟩
def RowV {α : Type} (d : Kd α) (e : Nat) (v : Value) (xs : List α) : HP := Ex fun cs : List OV => Star [Row KV e v cs, Fx (EachV d xs cs)]
namespace Sep
variable {w0 W W' : World} {F : List HP} {α : Type} {d : Kd α} {e n c : Nat} {v : Value} {A : Option Addr} {xs : List α}
theorem rowV_open (h : Sep w0 W (RowV d e v xs :: F)) : ∃ cs, Sep w0 W (Row KV e v cs :: Fx (EachV d xs cs) :: F) := by
  obtain ⟨cs, h⟩ := h.ex
  exact ⟨cs, h.star⟩
theorem rowV_shut {cs : List OV} (h : Sep w0 W (Row KV e v cs :: Fx (EachV d xs cs) :: F)) : Sep w0 W (RowV d e v xs :: F) := Sep.unex cs (Sep.unstar (L := [_, _]) h)
theorem rowV_nil (h : Sep w0 W F) (d : Kd α) (e : Nat) : Sep w0 W (RowV d e (.slice none 0 0) [] :: F) := rowV_shut (cs := []) ((h.fxPure (fun W => EachV.nil d W)).nilRow _ _)
theorem rowVN (h : Sep w0 W (RowV d e v xs :: F)) (hn : xs.length = n) : ∃ A c, v = .slice A n c := by
  obtain ⟨cs, h⟩ := h.rowV_open
  exact h.rowN (n := n) (by rw [← h.at2.fx.1]; exact hn)
theorem rowVC (hd : d.sz = 1) (h : Sep w0 W (RowV d e (.slice A n c) xs :: F)) : n = xs.length ∧ n ≤ c ∧ d.C W A n xs := by
  obtain ⟨cs, h⟩ := h.rowV_open
  obtain ⟨h1, h2, h3⟩ := h.rowC
  have hE := h.at2.fx
  rw [← h1] at h3
  exact ⟨by rw [h1, hE.1], h2, eachV_C hd h3 hE⟩
section
variable {P : Program} {ops : Array Oper} {rest : List Oper} {o : Oper} {a : Act} {Q : Exit → Act → World → Prop}
theorem appendV {x : α} {cl : OV} (h : Sep w0 W (RowV d e v xs :: Cl d x [cl.1] :: F)) (hgd : o.guard = none) (s y : Operand) (t : TypeId) (z : Value) (bytes : Nat)
    (ho : o.op = .call { callee := .builtin .append, args := #[s, y], argTypes := #[t, t] })
    (ht : P.underlying t = some (.slice e)) (hinfo : (P.info? e).map (fun i => (i.zero, i.size, i.bytes)) = some (some z, 1, bytes)) (hz : z.cells.size = 1) (hb0 : 0 < bytes)
    (hs : a.eval s = v) (hx : a.eval y = .slice (some ⟨W.heap.size, 0, none⟩) 1 1) (hl : (xs.length + 1) * bytes ≤ 140737488355328)
    (k : ∀ v1 w1, Sep w0 w1 (RowV d e v1 (xs ++ [x]) :: F) → wpList P ops Q rest (a.put o.dst v1) w1) : wpList P ops Q (o :: rest) a (W.alloc (.cells #[cl.1] e)) := by
  obtain ⟨cs, h⟩ := h.rowV_open
  have hlen := h.at2.fx.1
  have hL := h.litRow (enc := fun x : OV => x.1) (h1 := fun x => x.2) (e := e) [cl] (by simp)
  have hL2 : Sep w0 (W.alloc (.cells #[cl.1] e)) (Row KV e v cs :: Row KV e (.slice (some ⟨W.heap.size, 0, none⟩) 1 1) [cl] :: Fx (EachV d xs cs) :: Cl d x [cl.1] :: F) := hL.at2
  refine hL2.appendRow hgd s y t z bytes ho ht hinfo hz hb0 (some ⟨W.heap.size, 0, none⟩) 1 1 hs hx hL2.at2.rowC.2.2 (by rw [← hlen]; exact hl) (fun v1 w1 h1 => k v1 w1 ?_)
  refine rowV_shut (cs := cs ++ [cl]) ?_
  have h2 := (h1.drop2.at2.perm (.cons _ (.swap _ _ _))).fxAnd (φ := EachV d xs cs) (ψ := fun W => d.K W x [cl.1])
  exact (h2.fxImp (fun W hW => hW.1.snoc hW.2)).at2
end
theorem rowVForm (h : Sep w0 W (RowV d e (.slice A n c) xs :: F)) (hp : 0 < n) : ∃ g, A = some ⟨g, 0, none⟩ := by
  obtain ⟨cs, h⟩ := h.rowV_open
  obtain ⟨g, cap, he⟩ := h.rowFormN (n := n) h.rowC.1.symm hp
  injection he with h1 h2 h3
  exact ⟨g, h1⟩
theorem rowVFrozen {g cap i : Nat} (h : Sep w0 W (RowV d e (.slice (some ⟨g, 0, none⟩) n cap) xs :: F)) (hi : i < n) : ∃ u, W.cell? ⟨g, i, none⟩ = some u ∧ W.frozen? ⟨g, i, none⟩ = false := by
  obtain ⟨cs, h⟩ := h.rowV_open
  exact ⟨_, h.rowCell (enc := fun x : OV => x.1) ⟨.int .i64 0, rfl⟩ i hi⟩
theorem putV {g cap i : Nat} {x : α} {cl : OV} (h : Sep w0 W (RowV d e (.slice (some ⟨g, 0, none⟩) n cap) xs :: Cl d x [cl.1] :: F)) : Sep w0 (W.setCell ⟨g, i, none⟩ cl.1) (RowV d e (.slice (some ⟨g, 0, none⟩) n cap) (xs.set i x) :: F) := by
  obtain ⟨cs, h⟩ := h.rowV_open
  have h1 := h.putRow (enc := fun x : OV => x.1) i cl
  refine rowV_shut (cs := cs.set i cl) ?_
  have h2 := (h1.at2.perm (.cons _ (.swap _ _ _))).fxAnd (φ := EachV d xs cs) (ψ := fun W => d.K W x [cl.1])
  exact (h2.fxImp (fun W hW => hW.1.set i hW.2)).at2
end Sep
end Go.Proofs.YtjngnigelkgekaaGreat.Kit
namespace Go.Proofs.YtjngnigelkgekaaGreat.Kit
open Go.RowKit Go.Proofs.YtjngnigelkgekaaGreatW.PrintWords Go.Proofs.YtjngnigelkgekaaGreatW.PrintLast Go.Proofs.YtjngnigelkgekaaGreatW.PrintMore
theorem elem_ {α : Type} {d : Kd α} {W : World} {A : Option Addr} {n : Nat} {xs : List α} (h : d.C W A n xs) {i : Nat} (hi : i < n) :
    ∃ (hx : i < xs.length) (a : Addr) (cs : List Value), A = some a ∧ d.K W xs[i] cs ∧ (∀ u, cs[0]? = some u → W.cell? (a.add (i * d.sz)) = some u) ∧
      ∀ j u, 0 < j → cs[j]? = some u → W.cell? ⟨(a.add (i * d.sz)).block, (a.add (i * d.sz)).off + j, none⟩ = some u := by
  have hx : i < xs.length := by rw [h.1]; exact hi
  obtain ⟨a, e, hr⟩ := h.2.2 (by omega)
  obtain ⟨cs, hl, hk, hc⟩ := hr i _ (List.getElem?_eq_getElem hx)
  refine ⟨hx, a, cs, e, hk, fun u hu => ?_, fun j u hj hu => ?_⟩
  · have := hc 0 u hu; rwa [Nat.add_zero] at this
  · have := hc j u hu
    rwa [add_field _ _ j hj] at this
theorem elem2_ {k k2 : IntKind} {e : Nat} {W : World} {A : Option Addr} {n : Nat} {xs : List (Int × List Int)} (h : (Kd.pair (Kd.int k) (Kd.slice e (Kd.int k2))).C W A n xs) {i : Nat} (hi : i < n) :
    ∃ (hx : i < xs.length) (a : Addr) (B : Option Addr) (c : Nat), A = some a ∧ W.cell? (a.add (i * 2)) = some (.int k (xs[i]).1) ∧ W.cell? ⟨(a.add (i * 2)).block, (a.add (i * 2)).off + 1, none⟩ = some (.slice B (xs[i]).2.length c) ∧
      (xs[i]).2.length ≤ c ∧ (Kd.int k2).C W B (xs[i]).2.length (xs[i]).2 := by
  obtain ⟨hx, a, cs, e, ⟨c0, c1, e1, h0, B, c, h1, h2, h3⟩, hc0, hcj⟩ := elem_ h hi
  have h0 : c0 = [.int k (xs[i]).1] := h0
  subst h0 h1 e1
  exact ⟨hx, a, B, c, e, hc0 _ rfl, hcj 1 _ (by decide) rfl, h2, h3⟩
end Go.Proofs.YtjngnigelkgekaaGreat.Kit
namespace Go.Proofs.YtjngnigelkgekaaGreat.Base
open Go.RowKit Go.Proofs.YtjngnigelkgekaaGreatW.PrintWords Go.Proofs.YtjngnigelkgekaaGreatW.PrintLast Go.Proofs.YtjngnigelkgekaaGreatW.PrintMore Go.Proofs.YtjngnigelkgekaaGreat.Kit
theorem infoB : (Tryz.prog.info? 5).map (fun i => (i.zero, i.size, i.bytes)) = some (some (.int .u8 0), 1, 1) := by kernel_rfl
abbrev U8 : Kd Int := Kd.int .u8
def cloneF (l0 : List Int) : Option (List Int) := if l0.length < 140737488355328 then (some l0) else none
set_option maxHeartbeats 8000000 in
set_option maxRecDepth 100000 in
theorem clone0 (A0 : Option Addr) (c0 : Nat) (l0 : List Int) (r : List Int) (w : World) (hr0 : Kd.C (Kd.int .u8) w A0 l0.length l0) (hc0 : l0.length ≤ c0) (h : cloneF l0 = some r) :
    Calls Tryz.prog 60 #[.slice A0 l0.length c0] w fun e w' => ∃ v0_ : Value, e = .returned (v0_) ∧ Kd.R (Kd.int .u8) 5 w' w.heap.size (fun _ => True) v0_ r ∧ Below w.heap.size w w' := by
  have HR0 := Aside0.mk hr0
  have HC0 := Aside0.mk hc0
  clear hr0 hc0
  have HB := Aside0.mk (Below.refl w.heap.size w)
  have hl : l0.length < 140737488355328 ∧ l0 = r := by
    unfold cloneF at h
    split at h
    · exact ⟨by assumption, Option.some.inj h⟩
    · cases h
  obtain ⟨hl, rfl⟩ := hl
  have LMc3 := Aside0.mk hl
  clear h hl
  cases A0 with
  | none =>
    have hl0 : l0 = [] := by
      have := HR0.out
      cases l0 with
      | nil => rfl
      | cons a t => obtain ⟨ad, e, _⟩ := Kd.at_int HR0.out 0 (by decide) (by simp); cases e
    subst hl0
    have heq : ∀ W : World, Sem.run Tryz.prog (binOp .eql 24 (.slice none 0 c0) (.slice none 0 0)) W = .ok (.bool true) W := fun W => Lib.run_eql_slice_nil W 24 5 none _ c0 0 0 Tryz.underlying24
    show Calls Tryz.prog 60 #[.slice none 0 c0] w _
    go_enter Tryz.func60, Tryz.ntmps60
    go_wp2
    go_ret
    exact ⟨_, rfl, Kd.R_nil _ _ _ _ _, HB.out⟩
  | some a0 =>
    have heq : ∀ W : World, Sem.run Tryz.prog (binOp .eql 24 (.slice (some a0) l0.length c0) (.slice none 0 0)) W = .ok (.bool false) W := fun W => Lib.run_eql_slice_nil W 24 5 (some a0) _ c0 0 0 Tryz.underlying24
    go_enter Tryz.func60, Tryz.ntmps60
    go_wp2_with (first | ((with_reducible refine gate_dst (N := 5) rfl ?_); refine Kd.R_lit (Kd.int .u8) _ 5 ?hg (N := 5) ?hd (xs := ([] : List Int)) (inner := []) (ok := fun _ => True) (okp := fun _ => True) ?hr ?hp (fun _ hk => hk) trivial (Below.refl _ _) (Nat.le_refl _) (by simp) ?_; (case hd => rfl); (case hg => rfl); (case hr => first | (go_simp; done) | (go_simp; rfl)); (case hp => exact (Reps.none _ _)); intro v117 w5 ho6 hb hg_ hnew_; clear hg_ hnew_; have n0_ := Aside0.mk (Kd.R_lower ho6 (below_size (by repeat (first | (with_reducible first | exact HB.out | apply below_alloc | apply pw_below_drewN | apply below_drew1) | exact HB.out)))); have n1_ := Aside0.mk (below_step (by repeat (first | (with_reducible first | exact HB.out | apply below_alloc | apply pw_below_drewN | apply below_drew1) | exact HB.out)) hb); clear HB; have HO118 := n0_; have HB := n1_; clear n0_ n1_; clear hb ho6) | ((with_reducible refine gate_builtin (b := .append) (xs := #[.tmp 5, .tmp 6]) rfl ?_); at_builtin; refine Kd.R_append_rows (Kd.int .u8) (w0 := w) w.heap.size rfl (.tmp 5) (.tmp 6) 24 5 (.int .u8 0) 1 rfl Tryz.underlying24 infoB rfl (by decide) (by omega) v117 [] l0 _ _ _ (fun _ => True) (fun _ => False) rfl rfl ?aO ?aR (fun _ _ h => h) (fun _ h => h.elim) ?aF ?aB ?aS ?aL ?_; (case aR => repeat (first | exact (Kd.C_below HR0.out HB.out) | (with_reducible refine Kd.C_alloc ?_ _) | (with_reducible refine Kd.C_drewN ?_ _) | (with_reducible refine Kd.C_drew ?_))); (case aB => exact (by repeat (first | (with_reducible first | exact HB.out | apply below_alloc | apply pw_below_drewN | apply below_drew1) | exact HB.out))); (case aF => exact (fun _ _ => trivial)); (case aO => exact (by (with_reducible repeat (first | apply Kd.R_alloc | apply Kd.R_drewN | apply Kd.R_drew)); exact HO118.out)); (case aS => exact (below_size (by repeat (first | (with_reducible first | exact HB.out | apply below_alloc | apply pw_below_drewN | apply below_drew1) | exact HB.out)))); (case aL => have := LMc3.out; simp only [List.length_nil]; omega); intro v120 w7 ho hb hg hat; rw [List.nil_append] at ho; have n0_ := Aside0.mk (hb); have n1_ := Aside0.mk (ho); clear HB; clear HO118; have HB := n0_; have HO121 := n1_; clear n0_ n1_; clear ho hb hg hat))
    go_ret
    exact ⟨_, by first | rfl | (simp; done) | (simp [*]; done), by (with_reducible repeat (first | apply Kd.R_alloc | apply Kd.R_drewN | apply Kd.R_drew)); exact Kd.R_mono HO121.out (fun _ hk => trivial), by repeat (first | (with_reducible first | exact HB.out | apply below_alloc | apply pw_below_drewN | apply below_drew1) | exact HB.out)⟩
theorem clone_ {A : Option Addr} {n c : Nat} {l : List Int} {w : World} (hr : U8.C w A n l) (hc : n ≤ c) (hl : n < 140737488355328) :
    Calls Tryz.prog 60 #[.slice A n c] w fun e w' => ∃ v, e = .returned v ∧ Sep w w' [Row U8 5 v l] := by
  obtain rfl : l.length = n := hr.1
  refine (clone0 A c l l w hr hc (if_pos hl)).mono ?_
  rintro e w' ⟨v, rfl, hR, hB⟩
  exact ⟨v, rfl, (Sep.start w).newRow hR hB⟩
theorem make_ {m : Nat} (hm : m ≤ 100000) : ∀ W : World, (Instr.makeSlice 24 (.int .i64 (m : Int)) (.int .i64 (m : Int))).run Tryz.prog W = .ok (.slice (some ⟨W.heap.size, 0, none⟩) m m) (W.alloc (.cells (madeCells #[.int .u8 0] m) 5)) :=
  print_make (P := Tryz.prog) 24 5 .u8 1 Tryz.underlying24 infoB (by decide) m (by omega)
end Go.Proofs.YtjngnigelkgekaaGreat.Base
namespace Go.Proofs.YtjngnigelkgekaaGreat.Plain
end Go.Proofs.YtjngnigelkgekaaGreat.Plain
namespace Go.Proofs.YtjngnigelkgekaaGreat.Plain
open Go Go.RowKit Go.Proofs.YtjngnigelkgekaaGreatW.PrintWords Go.Proofs.YtjngnigelkgekaaGreatW.PrintLast Go.Proofs.YtjngnigelkgekaaGreatW.PrintMore

def Bytes (l : List Int) : Prop := ∀ x ∈ l, 0 ≤ x ∧ x ≤ 255
theorem Bytes.app {a b : List Int} (h : Bytes a) (k : Bytes b) : Bytes (a ++ b) := fun x hx => by
  rcases List.mem_append.mp hx with h1 | h1
  · exact h x h1
  · exact k x h1
theorem Bytes.nil : Bytes [] := fun x hx => by cases hx
theorem Bytes.take {l : List Int} (h : Bytes l) (n : Nat) : Bytes (l.take n) := fun x hx => h x (List.mem_of_mem_take hx)
theorem Bytes.drop {l : List Int} (h : Bytes l) (n : Nat) : Bytes (l.drop n) := fun x hx => h x (List.mem_of_mem_drop hx)
theorem Bytes.at {l : List Int} (h : Bytes l) (i : Int) : 0 ≤ rd l i ∧ rd l i ≤ 255 := by
  by_cases hi : i.toNat < l.length
  · unfold rd
    rw [List.getD_eq_getElem?_getD, List.getElem?_eq_getElem hi]
    exact h _ (List.getElem_mem _)
  · unfold rd
    rw [List.getD_eq_getElem?_getD, List.getElem?_eq_none (by omega)]
    decide
def stepF (h b : Int) : Int := (Go.bits .xor .u32 h (b % 4294967296) * 16777619) % 4294967296
def sumF (l : List Int) : Int := l.foldl stepF 2166136261
def put4 (n : Int) : List Int := [n / 16777216 % 256, n / 65536 % 256, n / 256 % 256, n % 256]
theorem put4_length (n : Int) : (put4 n).length = 4 := rfl
theorem put4_bytes (n : Int) : Bytes (put4 n) := fun x hx => by
  simp only [put4, List.mem_cons, List.not_mem_nil, or_false] at hx
  omega
def getF (l : List Int) (a : Int) : Int := if a < 0 ∨ (l.length : Int) - 4 < a then 0 else ((rd l a * 256 + rd l (a + 1)) * 256 + rd l (a + 2)) * 256 + rd l (a + 3)
theorem u32_mod (n : Int) : IntKind.u32.wrap n = n % 4294967296 := IntKind.wrap_u32 n
theorem wraps_u32 (n : Int) (h₀ : 0 ≤ n) (h₁ : n < 2 ^ 32) : IntKind.u32.wrap n = n := by rw [IntKind.wrap_u32]; omega
theorem or32 {i : Nat} {x y : Int} (hx₀ : 0 ≤ x) (hx : x % 2 ^ i = 0) (hx₁ : x < 4294967296) (hy₀ : 0 ≤ y) (hy : y < 2 ^ i) (hy₁ : y < 4294967296) : Go.bits .or .u32 x y = x + y :=
  bits_join .u32 32 (by decide) wraps_u32 i x y hx₀ hx (by simpa using hx₁) hy₀ hy (by simpa using hy₁)
theorem shift_in {x c : Int} (h0 : 0 ≤ x) (h1 : x < 16777216) (c0 : 0 ≤ c) (c1 : c ≤ 255) : Go.bits .or .u32 ((x * 256) % 4294967296) (c % 4294967296) = x * 256 + c := by
  have e1 : (x * 256) % 4294967296 = x * 256 := by omega
  have e2 : c % 4294967296 = c := by omega
  rw [e1, e2]
  exact or32 (i := 8) (by omega) (by omega) (by omega) c0 (by omega) (by omega)
theorem four_or {a b c d : Int} (a0 : 0 ≤ a) (a1 : a ≤ 255) (b0 : 0 ≤ b) (b1 : b ≤ 255) (c0 : 0 ≤ c) (c1 : c ≤ 255) (d0 : 0 ≤ d) (d1 : d ≤ 255) :
    Go.bits .or .u32 (Go.bits .or .u32 (Go.bits .or .u32 (((a % 4294967296) * 16777216) % 4294967296) (((b % 4294967296) * 65536) % 4294967296)) (((c % 4294967296) * 256) % 4294967296)) (d % 4294967296) = ((a * 256 + b) * 256 + c) * 256 + d := by
  have e1 : ((a % 4294967296) * 16777216) % 4294967296 = a * 16777216 := by omega
  have e2 : ((b % 4294967296) * 65536) % 4294967296 = b * 65536 := by omega
  have e3 : ((c % 4294967296) * 256) % 4294967296 = c * 256 := by omega
  have e4 : d % 4294967296 = d := by omega
  rw [e1, e2, e3, e4, or32 (i := 24) (x := a * 16777216) (y := b * 65536) (by omega) (by omega) (by omega) (by omega) (by omega) (by omega),
    or32 (i := 16) (x := a * 16777216 + b * 65536) (y := c * 256) (by omega) (by omega) (by omega) (by omega) (by omega) (by omega),
    or32 (i := 8) (x := a * 16777216 + b * 65536 + c * 256) (y := d) (by omega) (by omega) (by omega) (by omega) (by omega) (by omega)]
  omega
theorem shr32 (n : Int) (j : Nat) (hj : j ≤ 32) : shr .u32 n (j : Int) = n / 2 ^ j := by
  unfold shr
  rw [show min ((j : Int).toNat) IntKind.u32.bits = j from by simp [IntKind.bits]; omega]
end Go.Proofs.YtjngnigelkgekaaGreat.Plain
namespace Go.Proofs.YtjngnigelkgekaaGreat.Delta
open Go.RowKit Go.Proofs.YtjngnigelkgekaaGreatW.PrintWords Go.Proofs.YtjngnigelkgekaaGreatW.PrintLast Go.Proofs.YtjngnigelkgekaaGreatW.PrintMore Go.Proofs.YtjngnigelkgekaaGreat.Kit Go.Proofs.YtjngnigelkgekaaGreat.Base Go.Proofs.YtjngnigelkgekaaGreat.Plain
abbrev Chg := Int × List Int
abbrev KC : Kd Chg := Kd.pair (Kd.int .i64) (Kd.slice 5 (Kd.int .u8))
def two (n : Int) : List Int := [n / 256 % 256, n % 256]
def oneF (c : Chg) : List Int := two c.1 ++ c.2
def deltaF (l : List Chg) : List Int := two (l.length : Int) ++ l.flatMap oneF
def okF (pages : Int) : Int → List Chg → Bool
  | _, [] => true
  | last, c :: r => decide (¬ c.1 ≤ last ∧ ¬ pages ≤ c.1 ∧ c.2.length = 64) && okF pages c.1 r
def rightF (l : List Chg) (pages : Int) : Bool := decide (pages ≤ 64) && okF pages (-1) l
def needF (n : Int) : Int := if n < 0 ∨ 64 < n then 0 else 18 + n * 66
theorem flat_snoc (l : List Chg) (c : Chg) : (l ++ [c]).flatMap oneF = l.flatMap oneF ++ (two c.1 ++ c.2) := by rw [List.flatMap_append]; simp [oneF]
theorem flat_take_le (l : List Chg) (j : Nat) : ((l.take j).flatMap oneF).length ≤ (l.flatMap oneF).length := by
  conv => rhs; rw [← List.take_append_drop j l, List.flatMap_append, List.length_append]
  omega
theorem take_get {α : Type} {l : List α} {j : Nat} (h : j < l.length) : l.take (j + 1) = l.take j ++ [l[j]] := by
  rw [List.take_add_one, List.getElem?_eq_getElem h]; rfl
section
variable {w0 W : World} {F : List HP}
set_option maxHeartbeats 400000 in
theorem small_ {v : Value} {xs : List Int} (h : Sep w0 W (Row U8 5 v xs :: F)) (n : Int) (hl : xs.length ≤ 1000000) :
    Calls Tryz.prog 106 #[v, .int .i64 n] W fun e w' => ∃ v', e = .returned v' ∧ Sep w0 w' (Row U8 5 v' (xs ++ two n) :: F) := by
  obtain ⟨A, c, rfl⟩ := h.rowV
  have L0 := Aside0.mk (h.litRow (enc := Value.int .u8) (h1 := fun _ => rfl) (e := 5) (two n) (by simp [two])).at2
  clear h
  go_enter Tryz.func106, Tryz.ntmps106
  go_wp2_with (first | (refine gate_builtin (b := .append) (xs := #[.tmp 5, .tmp 11]) rfl ?_; go_loud (refine L0.out.appendRow rfl (.tmp 5) (.tmp 11) 24 (.int .u8 0) 1 rfl Tryz.underlying24 infoB rfl (by decide) (some ⟨W.heap.size, 0, none⟩) 2 2 rfl rfl L0.out.at2.rowC.2.2 (by simp [two]; omega) ?_; intro v1 w1 hS1; have A1 := Aside0.mk hS1; clear hS1)))
  go_ret
  exact ⟨_, by first | rfl | (simp; done), A1.out.drop2⟩
theorem need_ (n : Int) (W : World) : Calls Tryz.prog 104 #[.int .i64 n] W fun e w' => e = .returned (.int .i64 (needF n)) ∧ W = w' := by
  by_cases h0 : n < 0
  · go_enter Tryz.func104, Tryz.ntmps104
    go_wp2
    go_ret
    exact ⟨by rw [show needF n = 0 from if_pos (.inl h0)]; first | rfl | (simp; done), rfl⟩
  · by_cases h1 : 64 < n
    · go_enter Tryz.func104, Tryz.ntmps104
      go_wp2
      go_ret
      exact ⟨by rw [show needF n = 0 from if_pos (.inr h1)]; first | rfl | (simp; done), rfl⟩
    · have h2 : n ≤ 64 := by omega
      have h3 : 0 ≤ n := by omega
      go_enter Tryz.func104, Tryz.ntmps104
      go_wp2
      go_ret
      exact ⟨by rw [show needF n = 18 + n * 66 from if_neg (by omega)]; first | rfl | (simp; done), rfl⟩
end
end Go.Proofs.YtjngnigelkgekaaGreat.Delta
namespace Go.Proofs.YtjngnigelkgekaaGreat.Store
open Go.RowKit Go.Proofs.YtjngnigelkgekaaGreatW.PrintWords Go.Proofs.YtjngnigelkgekaaGreatW.PrintLast Go.Proofs.YtjngnigelkgekaaGreatW.PrintMore Go.Proofs.YtjngnigelkgekaaGreat.Kit Go.Proofs.YtjngnigelkgekaaGreat.Base Go.Proofs.YtjngnigelkgekaaGreat.Plain
open Go.Proofs.YtjngnigelkgekaaGreat.Delta (Chg KC)
abbrev KP : Kd (List Int) := Kd.slice 5 (Kd.int .u8)
theorem infoS : (Tryz.prog.info? 24).map (fun i => (i.zero, i.size, i.bytes)) = some (some (.slice none 0 0), 1, 24) := by kernel_rfl
def applyOne (ps : List (List Int)) (c : Chg) : List (List Int) := if 0 ≤ c.1 ∧ c.1 < (ps.length : Int) then ps.set c.1.toNat c.2 else ps
def applyF (ps : List (List Int)) (l : List Chg) : List (List Int) := l.foldl applyOne ps
theorem applyOne_len (ps : List (List Int)) (c : Chg) : (applyOne ps c).length = ps.length := by unfold applyOne; split <;> simp
theorem applyF_len (l : List Chg) : ∀ ps : List (List Int), (applyF ps l).length = ps.length := by
  induction l with
  | nil => intro ps; rfl
  | cons c r ih => intro ps; exact (ih _).trans (applyOne_len ps c)
theorem applyF_snoc (ps : List (List Int)) (l : List Chg) (c : Chg) : applyF ps (l ++ [c]) = applyOne (applyF ps l) c := by unfold applyF; rw [List.foldl_append]; rfl
theorem take_one {α : Type} {l : List α} {j : Nat} (h : j < l.length) : l.take (j + 1) = l.take j ++ [l[j]] := by
  rw [List.take_add_one, List.getElem?_eq_getElem h]; rfl
theorem elemP {W : World} {A : Option Addr} {n : Nat} {xs : List (List Int)} (h : KP.C W A n xs) {i : Nat} (hi : i < n) :
    ∃ (hx : i < xs.length) (a : Addr) (B : Option Addr) (c : Nat), A = some a ∧ W.cell? (a.add i) = some (.slice B (xs[i]).length c) ∧ (xs[i]).length ≤ c ∧ U8.C W B (xs[i]).length xs[i] := by
  obtain ⟨hx, a, cs, e, ⟨B, c, h1, h2, h3⟩, hc0, _⟩ := elem_ h hi
  subst h1
  have := hc0 _ rfl
  rw [show i * KP.sz = i from Nat.mul_one i] at this
  exact ⟨hx, a, B, c, e, this, h2, h3⟩
set_option maxHeartbeats 3200000 in
set_option maxRecDepth 100000 in
theorem apply_ {A A2 : Option Addr} {n c n2 c2 : Nat} {ps : List (List Int)} {l : List Chg} {w : World} (h1 : KP.C w A n ps) (h2 : KC.C w A2 n2 l) (hn : n ≤ 100000) (hp : ∀ p ∈ ps, p.length ≤ 1000000) (hl : ∀ x ∈ l, x.2.length ≤ 1000000) :
    Calls Tryz.prog 63 #[.slice A n c, .slice A2 n2 c2] w fun e w' => ∃ v, e = .returned v ∧ Sep w w' [RowV KP 24 v (applyF ps l)] := by
  obtain rfl : ps.length = n := h1.1
  obtain rfl : l.length = n2 := h2.1
  have hm2 : l.length ≤ 9223372036854775807 := h2.2.1
  have H1 := Aside0.mk h1
  have H2 := Aside0.mk h2
  have HP := Aside0.mk (And.intro hp hl)
  have A0 := Aside0.mk ((Sep.start w).rowV_nil KP 24)
  clear h1 h2 hp hl
  go_enter Tryz.func63, Tryz.ntmps63
  go_wp2_with fail
  go_loopg [5, 12] ps.length (fun m v s wr => ∃ j : Nat, s = .int .i64 (j : Int) ∧ j + m = ps.length ∧ Sep w wr [RowV KP 24 v (ps.take j)])
  case atStart => exact ⟨0, rfl, by omega, A0.out⟩
  case round =>
    obtain ⟨j, rfl, hjm, hS⟩ := hrel
    have AK := Aside0.mk hjm
    by_cases hj : j < ps.length
    · obtain ⟨A3, c3, rfl⟩ := hS.rowVN (n := j) (by rw [List.length_take]; omega)
      obtain ⟨hx, ad, B, cB, rfl, e0, e1, e2⟩ := elemP H1.out hj
      have hbl := HP.out.1 _ (List.getElem_mem hx)
      have htk := take_one hj
      have AS := Aside0.mk hS
      have z0 := cell_later hS.toBelow e0
      have HE := Aside0.mk (And.intro e1 e2)
      have HT := Aside0.mk htk
      obtain ⟨xs, hxs⟩ : ∃ xs, ps[j] = xs := ⟨_, rfl⟩
      rw [hxs] at z0 hbl HE HT
      obtain ⟨bn, hbn⟩ : ∃ bn, xs.length = bn := ⟨_, rfl⟩
      rw [hbn] at z0 hbl HE
      have HBN := Aside0.mk hbn
      have hjl : (j : Int) < (ps.length : Int) := by omega
      clear hS e0 e1 e2 htk hxs hbn hjm
      go_wp2_with fail
      refine (clone_ (l := xs) (Kd.C_below HE.out.2 AS.out.toBelow) HE.out.1 (by omega)).mono ?_
      rintro e w5 ⟨v5, rfl, hS5⟩
      obtain ⟨A5, c5, rfl⟩ := hS5.rowN HBN.out
      have L5 := Aside0.mk ((AS.out.lift1 hS5).clSlice.at2)
      clear hS5
      go_wp2_with (first | (refine gate_builtin (b := .append) (xs := #[.tmp 16, .tmp 19]) rfl ?_; go_loud (refine L5.out.appendV (cl := ⟨.slice A5 bn c5, rfl⟩) rfl (.tmp 16) (.tmp 19) 49 _ 24 rfl Tryz.underlying49 infoS rfl (by decide) rfl rfl (by rw [List.length_take]; omega) ?_; intro v6 w6 hS6; have A6 := Aside0.mk hS6; clear hS6)))
      go_roundg (gk - 1)
      case measure => have := AK.out; omega
      case rel => exact ⟨j + 1, by go_num, by have := AK.out; omega, by rw [HT.out]; exact A6.out⟩
    · have hjn : j = ps.length := by omega
      rw [hjn, List.take_length] at hS
      obtain ⟨A3, c3, rfl⟩ := hS.rowVN (n := ps.length) rfl
      have AS := Aside0.mk hS
      subst hjn
      clear hS hjm AK hj
      go_wp2_with fail
      go_loopg [24] l.length (fun m s wr => ∃ j : Nat, s = .int .i64 (j : Int) ∧ j + m = l.length ∧ Sep w wr [RowV KP 24 (.slice A3 ps.length c3) (applyF ps (l.take j))])
      case atStart => exact ⟨0, rfl, by omega, AS.out⟩
      case round =>
        obtain ⟨j, rfl, hjm, hS⟩ := hrel
        have AK := Aside0.mk hjm
        by_cases hj : j < l.length
        · obtain ⟨hx, ad, B, cB, rfl, e0, e1, e2, e3⟩ := elem2_ H2.out hj
          have hbl := HP.out.2 _ (List.getElem_mem hx)
          have HT : Aside0 (applyF ps (l.take (j + 1)) = applyOne (applyF ps (l.take j)) l[j]) := ⟨by rw [take_one hj, applyF_snoc]⟩
          have HLN := Aside0.mk (applyF_len (l.take j) ps)
          have z0 := cell_later hS.toBelow e0
          have z1 := cell_later hS.toBelow e1
          have HE := Aside0.mk (And.intro e2 e3)
          obtain ⟨pg, bs, hx2⟩ : ∃ pg bs, l[j] = (pg, bs) := ⟨_, _, rfl⟩
          rw [hx2] at z0 z1 hbl HE HT
          obtain ⟨bn, hbn⟩ : ∃ bn, bs.length = bn := ⟨_, rfl⟩
          replace hbl : bn ≤ 1000000 := by rw [← hbn]; exact hbl
          replace z0 : wr.cell? (ad.add (j * 2)) = some (.int .i64 pg) := z0
          replace z1 : wr.cell? ⟨(ad.add (j * 2)).block, (ad.add (j * 2)).off + 1, none⟩ = some (.slice B bn cB) := by rw [← hbn]; exact z1
          have HE' : Aside0 (bn ≤ cB ∧ U8.C w B bn bs) := ⟨by rw [← hbn]; exact HE.out⟩
          have HBN := Aside0.mk hbn
          obtain ⟨qs, hqs⟩ : ∃ qs, applyF ps (l.take j) = qs := ⟨_, rfl⟩
          rw [hqs] at hS HT HLN
          have AS := Aside0.mk hS
          have BK := Aside0.mk (hS.newBlk 75 #[.int .i64 pg, .slice B bn cB])
          have hjl : (j : Int) < (l.length : Int) := by omega
          have y0 : (wr.alloc (.cells #[.int .i64 pg, .slice B bn cB] 75)).cell? ⟨wr.heap.size, 0, none⟩ = some (.int .i64 pg) := (BK.out.cell 0).trans rfl
          clear hS e0 e1 e2 e3 hx2 hbn hjm HE hqs
          by_cases h1 : 0 ≤ pg
          · have h1' : decide (0 ≤ pg) = true := decide_eq_true h1
            by_cases h2 : pg < (ps.length : Int)
            · have h2' : decide (pg < (ps.length : Int)) = true := decide_eq_true h2
              obtain ⟨p, rfl⟩ := Int.eq_ofNat_of_zero_le h1
              have HO : Aside0 (applyOne qs ((p : Int), bs) = qs.set p bs) := ⟨by unfold applyOne; rw [if_pos ⟨h1, by rw [HLN.out]; exact h2⟩, Int.toNat_natCast]⟩
              obtain ⟨g, rfl⟩ := BK.out.at2.rowVForm (by omega)
              have BD := Aside0.mk BK.out.drew
              have y2 := (BD.out.cell 0).trans rfl
              have y3 := (BD.out.cell 1).trans rfl
              go_wp2_with fail
              refine start_ (n := 8) (S := fun w' => w'.cell? ⟨wr.heap.size, 0, none⟩ = some (.int .i64 (p : Int)) ∧ w'.cell? ⟨wr.heap.size, 1, none⟩ = some (.slice B bn cB)) (ds := [7]) #[Z,Z,Z,Z,Z,Z,Z,Z] (by kernel_rfl) rfl rfl ⟨y2, y3⟩ (fun hHeld => ?_)
              refine pu_ 0 38 ?_ #[J,Z,Z,Z,Z,Z,Z,Z] rfl rfl ?_ ?_ ?_ ?_
              rotate_left
              · intro w'
                go_simp
                with_reducible rfl
              rotate_left
              · simp only [aP]
                rfl
              refine pu_ 1 39 ?_ #[J,J,Z,Z,Z,Z,Z,Z] rfl rfl ?_ ?_ ?_ ?_
              rotate_left
              · intro w'
                go_simp
                with_reducible rfl
              rotate_left
              · simp only [aP]
                rfl
              refine pu_ 3 41 ?_ #[J,J,Z,J,Z,Z,Z,Z] rfl rfl ?_ ?_ ?_ ?_
              rotate_left
              · intro w'
                go_simp
                with_reducible rfl
              rotate_left
              · simp only [aP]
                rfl
              refine ta_ 2 40 ?_ #[J,J,J,J,Z,Z,Z,Z] rfl rfl ?_ hHeld ?_ ?_ ?_
              rotate_left
              · rintro w' ⟨s0, s1⟩
                go_simp
                with_reducible rfl
              rotate_left
              · simp only [aP]
                rfl
              refine ta_ 4 42 ?_ #[J,J,J,J,J,Z,Z,Z] rfl rfl ?_ hHeld ?_ ?_ ?_
              rotate_left
              · rintro w' ⟨s0, s1⟩
                go_simp
                with_reducible rfl
              rotate_left
              · simp only [aP]
                rfl
              refine one_ (i := 5) (N := some 43) #[J,J,J,J,J,J,Z,Z] rfl rfl (by kernel_rfl) (by decide) (fun K hK => ?_)
              refine goes_ Tryz.func60 (by kernel_rfl) rfl #[.slice B bn cB] (by rfl) rfl rfl (by simp only [List.map_toArray, List.map_cons, List.map_nil]; rfl) ?_
              with_reducible refine (clone_ (l := bs) (Kd.C_below HE'.out.2 BD.out.toBelow) HE'.out.1 (by omega)).mono ?_
              rintro e w5 ⟨v5, rfl, hS5⟩
              refine ⟨_, rfl, ?_⟩
              obtain ⟨A5, c5, rfl⟩ := hS5.rowN HBN.out
              have B5 := Aside0.mk ((BD.out.lift1 hS5).clSlice)
              obtain ⟨ux, f5, f6⟩ := B5.out.at3.rowVFrozen (i := p) (by omega)
              clear hS5
              refine hK.out _ _ ⟨(B5.out.at2.cell 0).trans rfl, (B5.out.at2.cell 1).trans rfl⟩ (fun hHeld => ?_)
              clear hK K
              refine norm_ (a' := ?_) ?_ ?_
              rotate_left
              · show Act.put _ (some 43) _ = _
                simp only [aP]
                rfl
              refine pu_ 6 44 ?_ #[J,J,J,J,J,J,J,Z] rfl rfl ?_ ?_ ?_ ?_
              rotate_left
              · intro w'
                go_simp
                with_reducible rfl
              rotate_left
              · simp only [aP]
                rfl
              refine last_ (i := 7) (N := none) #[J,J,J,J,J,J,J,J] rfl rfl (by kernel_rfl) (by decide) (fun K hK => ?_)
              refine skip_ (w1 := ?_) (by rfl) rfl ?_ ?_
              rotate_left
              · go_simp
                rfl
              refine hK.out _ _ ?_
              clear hK K
              refine done_ (by kernel_rfl) ?_
              have B7 := Aside0.mk ((B5.out.at3.perm (List.Perm.refl _)).putV (i := p) (cl := ⟨.slice A5 bn c5, rfl⟩)).drop2
              go_wp2_with fail
              go_roundg (gk - 1)
              case measure => have := AK.out; omega
              case rel => exact ⟨j + 1, by go_num, by have := AK.out; omega, by rw [HT.out, HO.out]; exact B7.out⟩
            · have h2' : decide (pg < (ps.length : Int)) = false := decide_eq_false h2
              have HO : Aside0 (applyOne qs (pg, bs) = qs) := ⟨by unfold applyOne; rw [if_neg (fun h => h2 (by rw [← HLN.out]; exact h.2))]⟩
              go_wp2_with fail
              go_roundg (gk - 1)
              case measure => have := AK.out; omega
              case rel => exact ⟨j + 1, by go_num, by have := AK.out; omega, by rw [HT.out, HO.out]; exact BK.out.tail⟩
          · have h1' : decide (0 ≤ pg) = false := decide_eq_false h1
            have HO : Aside0 (applyOne qs (pg, bs) = qs) := ⟨by unfold applyOne; rw [if_neg (fun h => h1 h.1)]⟩
            go_wp2_with fail
            go_roundg (gk - 1)
            case measure => have := AK.out; omega
            case rel => exact ⟨j + 1, by go_num, by have := AK.out; omega, by rw [HT.out, HO.out]; exact BK.out.tail⟩
        · have hjn : j = l.length := by omega
          rw [hjn, List.take_length] at hS
          have AS := Aside0.mk hS
          subst hjn
          clear hS hjm AK hj
          go_wp2_with fail
          go_ret
          exact ⟨_, by first | rfl | (simp; done), AS.out⟩
end Go.Proofs.YtjngnigelkgekaaGreat.Store
