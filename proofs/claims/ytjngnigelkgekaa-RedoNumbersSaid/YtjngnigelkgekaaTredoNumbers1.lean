/- Bits, Bytes, Turn1, Sep, SumPut, Sum2, RootP, Base, Equal, Cuts, Zero, Raw, Fx, RowF, CutsAny, Sum1: what RedoNumbers needs. -/
import Derived.Test.YtjngnigelkgekaaWMore
import Derived.Test.YtjngnigelkgekaaWShare
import Derived.Test.YtjngnigelkgekaaWLast
import Derived.Test.YtjngnigelkgekaaProg
import Derived.WalkKit
import Derived.KernelRfl
import Derived.WalkSpells
import Derived.Deep.QuietTactic
import Derived.BigQuiet
import Derived.Deep.LoopGhost
import Derived.Test.YtjngnigelkgekaaWZeros
import Derived.Test.YtjngnigelkgekaaWApart
namespace Go.Proofs.Ytjngnigelkgekaa.Plain
open Go Go.RowKit Go.Proofs.YtjngnigelkgekaaW.PrintWords Go.Proofs.YtjngnigelkgekaaW.PrintLast Go.Proofs.YtjngnigelkgekaaW.PrintMore

theorem wrap_u64 (n : Int) : IntKind.u64.wrap n = n % 18446744073709551616 := by
  simp [IntKind.wrap, IntKind.bits, IntKind.signed]

end Go.Proofs.Ytjngnigelkgekaa.Plain
namespace Go.Proofs.Ytjngnigelkgekaa.Plain
open Go Go.RowKit Go.Proofs.YtjngnigelkgekaaW.PrintWords Go.Proofs.YtjngnigelkgekaaW.PrintLast Go.Proofs.YtjngnigelkgekaaW.PrintMore

/-- each is a byte -/
def Bytes (l : List Int) : Prop := ∀ x ∈ l, 0 ≤ x ∧ x ≤ 255
theorem Bytes.app {a b : List Int} (h : Bytes a) (k : Bytes b) : Bytes (a ++ b) := fun x hx => by
  rcases List.mem_append.mp hx with h1 | h1
  · exact h x h1
  · exact k x h1
theorem Bytes.nil : Bytes [] := fun x hx => by cases hx
theorem Bytes.take {l : List Int} (h : Bytes l) (n : Nat) : Bytes (l.take n) := fun x hx => h x (List.mem_of_mem_take hx)
theorem Bytes.drop {l : List Int} (h : Bytes l) (n : Nat) : Bytes (l.drop n) := fun x hx => h x (List.mem_of_mem_drop hx)
theorem Bytes.at {l : List Int} (h : Bytes l) (i : Int) : 0 ≤ rd l i ∧ rd l i ≤ 255 := by
  by_cases hi : i.toNat < l.length
  · unfold rd
    rw [List.getD_eq_getElem?_getD, List.getElem?_eq_getElem hi]
    exact h _ (List.getElem_mem _)
  · unfold rd
    rw [List.getD_eq_getElem?_getD, List.getElem?_eq_none (by omega)]
    decide
def stepF (h b : Int) : Int := (Go.bits .xor .u32 h (b % 4294967296) * 16777619) % 4294967296
def sumF (l : List Int) : Int := l.foldl stepF 2166136261
def put4 (n : Int) : List Int := [n / 16777216 % 256, n / 65536 % 256, n / 256 % 256, n % 256]
theorem put4_length (n : Int) : (put4 n).length = 4 := rfl
theorem put4_bytes (n : Int) : Bytes (put4 n) := fun x hx => by
  simp only [put4, List.mem_cons, List.not_mem_nil, or_false] at hx
  omega
def getF (l : List Int) (a : Int) : Int := if a < 0 ∨ (l.length : Int) - 4 < a then 0 else ((rd l a * 256 + rd l (a + 1)) * 256 + rd l (a + 2)) * 256 + rd l (a + 3)

theorem u32_mod (n : Int) : IntKind.u32.wrap n = n % 4294967296 := IntKind.wrap_u32 n
theorem wraps_u32 (n : Int) (h₀ : 0 ≤ n) (h₁ : n < 2 ^ 32) : IntKind.u32.wrap n = n := by rw [IntKind.wrap_u32]; omega
theorem or32 {i : Nat} {x y : Int} (hx₀ : 0 ≤ x) (hx : x % 2 ^ i = 0) (hx₁ : x < 4294967296) (hy₀ : 0 ≤ y) (hy : y < 2 ^ i) (hy₁ : y < 4294967296) : Go.bits .or .u32 x y = x + y :=
  bits_join .u32 32 (by decide) wraps_u32 i x y hx₀ hx (by simpa using hx₁) hy₀ hy (by simpa using hy₁)
/-- a byte more: n<<8 | c -/
theorem shift_in {x c : Int} (h0 : 0 ≤ x) (h1 : x < 16777216) (c0 : 0 ≤ c) (c1 : c ≤ 255) : Go.bits .or .u32 ((x * 256) % 4294967296) (c % 4294967296) = x * 256 + c := by
  have e1 : (x * 256) % 4294967296 = x * 256 := by omega
  have e2 : c % 4294967296 = c := by omega
  rw [e1, e2]
  exact or32 (i := 8) (by omega) (by omega) (by omega) c0 (by omega) (by omega)
theorem four_or {a b c d : Int} (a0 : 0 ≤ a) (a1 : a ≤ 255) (b0 : 0 ≤ b) (b1 : b ≤ 255) (c0 : 0 ≤ c) (c1 : c ≤ 255) (d0 : 0 ≤ d) (d1 : d ≤ 255) :
    Go.bits .or .u32 (Go.bits .or .u32 (Go.bits .or .u32 (((a % 4294967296) * 16777216) % 4294967296) (((b % 4294967296) * 65536) % 4294967296)) (((c % 4294967296) * 256) % 4294967296)) (d % 4294967296) = ((a * 256 + b) * 256 + c) * 256 + d := by
  have e1 : ((a % 4294967296) * 16777216) % 4294967296 = a * 16777216 := by omega
  have e2 : ((b % 4294967296) * 65536) % 4294967296 = b * 65536 := by omega
  have e3 : ((c % 4294967296) * 256) % 4294967296 = c * 256 := by omega
  have e4 : d % 4294967296 = d := by omega
  rw [e1, e2, e3, e4, or32 (i := 24) (x := a * 16777216) (y := b * 65536) (by omega) (by omega) (by omega) (by omega) (by omega) (by omega),
    or32 (i := 16) (x := a * 16777216 + b * 65536) (y := c * 256) (by omega) (by omega) (by omega) (by omega) (by omega) (by omega),
    or32 (i := 8) (x := a * 16777216 + b * 65536 + c * 256) (y := d) (by omega) (by omega) (by omega) (by omega) (by omega) (by omega)]
  omega
theorem shr32 (n : Int) (j : Nat) (hj : j ≤ 32) : shr .u32 n (j : Int) = n / 2 ^ j := by
  unfold shr
  rw [show min ((j : Int).toNat) IntKind.u32.bits = j from by simp [IntKind.bits]; omega]
end Go.Proofs.Ytjngnigelkgekaa.Plain
namespace Go.Proofs.Ytjngnigelkgekaa.Plain
open Go Go.RowKit Go.Proofs.YtjngnigelkgekaaW.PrintWords Go.Proofs.YtjngnigelkgekaaW.PrintLast Go.Proofs.YtjngnigelkgekaaW.PrintMore

end Go.Proofs.Ytjngnigelkgekaa.Plain
namespace Go.Proofs.Ytjngnigelkgekaa.Kit
set_option linter.unusedVariables false
set_option linter.unusedSimpArgs false
open Go.RowKit Go.Proofs.YtjngnigelkgekaaW.PrintWords Go.Proofs.YtjngnigelkgekaaW.PrintLast Go.Proofs.YtjngnigelkgekaaW.PrintMore
/-- A resource: what holds of a world, told with the blocks that it lies in. -/
structure HP where
  P : World → (Nat → Prop) → Prop
  loc : ∀ {W W' : World} {ok : Nat → Prop}, P W ok → (∀ k, ok k → W'.heap[k]? = W.heap[k]?) → P W' ok
  bnd : ∀ {W : World} {ok : Nat → Prop}, P W ok → ∀ k, ok k → k < W.heap.size
/-- Resources that lie apart from each other and from what is to be avoided. -/
def SepR (W : World) : (Nat → Prop) → List HP → Prop
  | _, [] => True
  | av, p :: L => ∃ ok, p.P W ok ∧ (∀ k, ok k → ¬ av k) ∧ SepR W (fun k => av k ∨ ok k) L
namespace SepR
variable {W W' : World} {av av' : Nat → Prop} {L L' F : List HP} {p q p' : HP}
theorem weaken : ∀ {L : List HP} {av av' : Nat → Prop}, (∀ k, av' k → av k) → SepR W av L → SepR W av' L
  | [], _, _, _, _ => trivial
  | p :: L, _, _, hs, ⟨ok, hp, hd, h⟩ => ⟨ok, hp, fun k hk ha => hd k hk (hs k ha), weaken (fun k hk => hk.imp (hs k) id) h⟩
theorem move : ∀ {L : List HP} {av : Nat → Prop}, SepR W av L → (∀ k, k < W.heap.size → ¬ av k → W'.heap[k]? = W.heap[k]?) → SepR W' av L
  | [], _, _, _ => trivial
  | p :: L, _, ⟨ok, hp, hd, h⟩, hm => ⟨ok, p.loc hp (fun k hk => hm k (p.bnd hp k hk) (hd k hk)), hd, move h (fun k hlt hn => hm k hlt (fun ha => hn (.inl ha)))⟩
theorem swap (h : SepR W av (p :: q :: L)) : SepR W av (q :: p :: L) := by
  obtain ⟨op, hp, dp, oq, hq, dq, h⟩ := h
  exact ⟨oq, hq, fun k hk ha => dq k hk (.inl ha), op, hp, fun k hk ha => ha.elim (dp k hk) (fun ho => dq k ho (.inr hk)), weaken (fun k (hk : (av k ∨ oq k) ∨ op k) => hk.elim (fun h3 => h3.elim (fun h1 => .inl (.inl h1)) .inr) (fun h2 => .inl (.inr h2))) h⟩
theorem perm (hp : L.Perm L') : ∀ {av : Nat → Prop}, SepR W av L → SepR W av L' := by
  induction hp with
  | nil => exact fun h => h
  | cons x _ ih => exact fun ⟨ok, hx, hd, h⟩ => ⟨ok, hx, hd, ih h⟩
  | swap x y l => exact fun h => swap h
  | trans _ _ ih1 ih2 => exact fun h => ih2 (ih1 h)
theorem app_of : ∀ {L : List HP} {av ok : Nat → Prop}, (∀ k, ok k → ¬ av k) → SepR W (fun k => ¬ ok k) L → SepR W (fun k => av k ∨ ok k) F → SepR W av (L ++ F)
  | [], _, _, _, _, h => weaken (fun k hk => .inl hk) h
  | p :: L, av, ok, hd, ⟨op, hp, dp, h⟩, hF => by
    refine ⟨op, hp, fun k hk => hd k (Classical.not_not.1 (dp k hk)), app_of (ok := fun k => ok k ∧ ¬ op k) (fun k hk ha => ha.elim (hd k hk.1) hk.2) (weaken (fun k hk => ?_) h) (weaken (fun k hk => ?_) hF)⟩
    · by_cases h1 : ok k
      · exact .inr (Classical.not_not.1 (fun h2 => hk ⟨h1, h2⟩))
      · exact .inl h1
    · rcases hk with (h1 | h2) | h3
      · exact .inl h1
      · exact .inr (Classical.not_not.1 (dp k h2))
      · exact .inr h3.1
theorem of_app : ∀ {L : List HP} {av : Nat → Prop}, SepR W av (L ++ F) → ∃ ok : Nat → Prop, (∀ k, ok k → k < W.heap.size) ∧ (∀ k, ok k → ¬ av k) ∧ SepR W (fun k => ¬ ok k) L ∧ SepR W (fun k => av k ∨ ok k) F
  | [], _, h => ⟨fun _ => False, fun _ hf => hf.elim, fun _ hf => hf.elim, trivial, weaken (fun k hk => hk.elim id (fun hf => hf.elim)) h⟩
  | p :: L, av, ⟨op, hp, dp, h⟩ => by
    obtain ⟨o1, hb, hd, h1, h2⟩ := of_app h
    refine ⟨fun k => op k ∨ o1 k, fun k hk => hk.elim (p.bnd hp k) (hb k), fun k hk => hk.elim (dp k) (fun ho ha => hd k ho (.inl ha)), ⟨op, hp, fun k hk hn => hn (.inl hk), weaken (fun k hk ho => ?_) h1⟩, weaken (fun k hk => ?_) h2⟩
    · rcases hk with h3 | h3
      · exact h3 (.inr ho)
      · exact hd k ho (.inr h3)
    · rcases hk with h3 | h3 | h3
      · exact .inl (.inl h3)
      · exact .inl (.inr h3)
      · exact .inr h3
/-- Nothing lies in what is not there yet. -/
theorem fresh : ∀ {L : List HP} {av : Nat → Prop}, SepR W av L → SepR W (fun k => av k ∨ W.heap.size ≤ k) L
  | [], _, _ => trivial
  | p :: L, av, ⟨ok, hp, hd, h⟩ => ⟨ok, hp, fun k hk ha => ha.elim (hd k hk) (fun h2 => by have := p.bnd hp k hk; omega), weaken (fun k (hk : (av k ∨ W.heap.size ≤ k) ∨ ok k) => hk.elim (fun h3 => h3.elim (fun h1 => .inl (.inl h1)) .inr) (fun h1 => .inl (.inr h1))) (fresh h)⟩
end SepR
/-- Since w0 nothing that was there has turned; in W there are, apart from all that was there and from each other, the resources of L. -/
structure Sep (w0 W : World) (L : List HP) : Prop where
  os : W.os = w0.os
  tape : W.tape = w0.tape
  output : W.output = w0.output
  size : w0.heap.size ≤ W.heap.size
  old : ∀ k, k < w0.heap.size → W.heap[k]? = w0.heap[k]?
  sep : SepR W (fun k => k < w0.heap.size) L
/-- Some resources as one. -/
def Star (L : List HP) : HP where
  P W ok := (∀ k, ok k → k < W.heap.size) ∧ SepR W (fun k => ¬ ok k) L
  loc := fun {W W' ok} h hm => ⟨fun k hk => by
      have := hm k hk
      rw [Array.getElem?_eq_getElem (h.1 k hk)] at this
      exact (Array.getElem?_eq_some_iff.1 this).1, h.2.move (fun k _ hk => hm k (Classical.not_not.1 hk))⟩
  bnd := fun h => h.1
/-- One of a family. -/
def Ex {α : Type} (p : α → HP) : HP where
  P W ok := ∃ x, (p x).P W ok
  loc := fun ⟨x, h⟩ hm => ⟨x, (p x).loc h hm⟩
  bnd := fun ⟨x, h⟩ => (p x).bnd h
/-- What holds of no world. -/
def Pu (φ : Prop) : HP where
  P W ok := φ ∧ ∀ k, ¬ ok k
  loc := fun h _ => h
  bnd := fun h k hk => (h.2 k hk).elim
/-- A block of cells. -/
def Blk (g : Nat) (t : TypeId) (cs : Array Value) : HP where
  P W ok := (∀ k, ok k ↔ k = g) ∧ W.heap[g]? = some (.cells cs t (0, 0))
  loc := fun h hm => ⟨h.1, (hm _ ((h.1 _).2 rfl)).trans h.2⟩
  bnd := fun h k hk => by rw [(h.1 k).1 hk]; exact blk_lt h.2
/-- A block of a map. -/
def MapB (g : Nat) (es : Array MapEntry) (clock : Nat) : HP where
  P W ok := (∀ k, ok k ↔ k = g) ∧ W.heap[g]? = some (.map es clock)
  loc := fun h hm => ⟨h.1, (hm _ ((h.1 _).2 rfl)).trans h.2⟩
  bnd := fun h k hk => by rw [(h.1 k).1 hk]; exact blk_lt h.2
/-- A row of one's own. -/
def Row {α : Type} (d : Kd α) (e : Nat) (v : Value) (xs : List α) : HP where
  P W ok := d.R e W 0 ok v xs ∧ ∀ k, ok k → k < W.heap.size
  loc := fun {W W' ok} h hm => ⟨Kd.R_move h.1 hm, fun k hk => by
      have := hm k hk
      rw [Array.getElem?_eq_getElem (h.2 k hk)] at this
      exact (Array.getElem?_eq_some_iff.1 this).1⟩
  bnd := fun h => h.2
/-- A row that is only read. -/
def Rd {α : Type} (d : Kd α) (A : Option Addr) (n : Nat) (xs : List α) : HP where
  P W ok := (∀ W' : World, (∀ k, ok k → W'.heap[k]? = W.heap[k]?) → d.C W' A n xs) ∧ ∀ k, ok k → k < W.heap.size
  loc := fun {W W' ok} h hm => ⟨fun W2 h2 => h.1 W2 (fun k hk => (h2 k hk).trans (hm k hk)), fun k hk => by
      have := hm k hk
      rw [Array.getElem?_eq_getElem (h.2 k hk)] at this
      exact (Array.getElem?_eq_some_iff.1 this).1⟩
  bnd := fun h => h.2
namespace Sep
variable {w0 W W' W2 : World} {L L' F R : List HP} {p q r s t u : HP}
theorem start (w : World) : Sep w w [] := ⟨rfl, rfl, rfl, Nat.le_refl _, fun _ _ => rfl, trivial⟩
theorem toBelow (h : Sep w0 W L) : Below w0.heap.size w0 W := ⟨h.os, h.tape, h.output, h.size, h.old⟩
theorem perm (h : Sep w0 W L) (hp : L.Perm L') : Sep w0 W L' := ⟨h.os, h.tape, h.output, h.size, h.old, h.sep.perm hp⟩
theorem at2 (h : Sep w0 W (p :: q :: F)) : Sep w0 W (q :: p :: F) := h.perm (.swap _ _ _)
theorem at3 (h : Sep w0 W (p :: q :: r :: F)) : Sep w0 W (r :: p :: q :: F) := h.perm ((List.Perm.cons p (.swap _ _ _)).trans (.swap _ _ _))
theorem sw23 (h : Sep w0 W (p :: q :: r :: F)) : Sep w0 W (p :: r :: q :: F) := h.perm (.cons _ (.swap _ _ _))
theorem to3 (h : Sep w0 W (p :: q :: r :: F)) : Sep w0 W (q :: r :: p :: F) := h.perm ((List.Perm.swap _ _ _).trans (.cons _ (.swap _ _ _)))
theorem at4 (h : Sep w0 W (p :: q :: r :: s :: F)) : Sep w0 W (s :: p :: q :: r :: F) := (h.perm (.cons p ((List.Perm.cons q (.swap _ _ _)).trans (.swap _ _ _)))).at2
theorem to4 (h : Sep w0 W (p :: q :: r :: s :: F)) : Sep w0 W (q :: r :: s :: p :: F) := h.at2.perm (.cons _ ((List.Perm.swap _ _ _).trans (.cons _ (.swap _ _ _))))
theorem at5 (h : Sep w0 W (p :: q :: r :: s :: t :: F)) : Sep w0 W (t :: p :: q :: r :: s :: F) := (h.perm (.cons p (.cons q ((List.Perm.cons r (.swap _ _ _)).trans (.swap _ _ _))))).at3
theorem tail (h : Sep w0 W (p :: F)) : Sep w0 W F := by
  obtain ⟨ok, _, _, h2⟩ := h.sep
  exact ⟨h.os, h.tape, h.output, h.size, h.old, h2.weaken (fun k hk => .inl hk)⟩
theorem drop2 (h : Sep w0 W (p :: q :: F)) : Sep w0 W (p :: F) := h.at2.tail
theorem weak (h : Sep w0 W (L ++ F)) : Sep w0 W F := by
  induction L with
  | nil => exact h
  | cons p L ih => exact ih h.tail
theorem weakR (h : Sep w0 W (L ++ F)) : Sep w0 W L := (h.perm List.perm_append_comm).weak
/-- What only makes, and draws. -/
theorem below (h : Sep w0 W L) (hb : Below W.heap.size W W') : Sep w0 W' L :=
  ⟨hb.os.trans h.os, hb.tape.trans h.tape, hb.output.trans h.output, Nat.le_trans h.size hb.size, fun k hk => (hb.block k (Nat.lt_of_lt_of_le hk h.size)).trans (h.old k hk), h.sep.move (fun k hk _ => hb.block k hk)⟩
theorem drew (h : Sep w0 W L) : Sep w0 W.drew L := h.below (below_drew (Below.refl _ _))
theorem drewN (h : Sep w0 W L) (n : Nat) : Sep w0 (W.drewN n) L := h.below (pw_below_drewN (Below.refl _ _) n)
theorem alloc (h : Sep w0 W L) (o : Obj) : Sep w0 (W.alloc o) L := h.below (below_alloc (Below.refl _ _) o)
/-- The step where the blocks are told ahead. -/
theorem stepOk {ok ok' : Nat → Prop} (h : Sep w0 W L) (hd : ∀ k, ok k → ¬ k < w0.heap.size) (hF : SepR W (fun k => k < w0.heap.size ∨ ok k) F) (hg : W'.os = W.os ∧ W'.tape = W.tape ∧ W'.output = W.output ∧ W.heap.size ≤ W'.heap.size)
    (hm : ∀ k, k < W.heap.size → ¬ ok k → W'.heap[k]? = W.heap[k]?) (hq : q.P W' ok') (hk' : ∀ k, ok' k → ok k ∨ W.heap.size ≤ k) : Sep w0 W' (q :: F) := by
  refine ⟨hg.1.trans h.os, hg.2.1.trans h.tape, hg.2.2.1.trans h.output, Nat.le_trans h.size hg.2.2.2, fun k hk => (hm k (Nat.lt_of_lt_of_le hk h.size) (fun ho => hd k ho hk)).trans (h.old k hk), ok', hq, fun k hk ha => ?_, ?_⟩
  · rcases hk' k hk with h1 | h1
    · exact hd k h1 ha
    · have := h.size; omega
  · have h1 := (hF.fresh).move (W' := W') (fun k hlt hn => hm k hlt (fun ho => hn (.inl (.inr ho))))
    exact h1.weaken (fun k hk => hk.elim (fun h3 => .inl (.inl h3)) (fun h3 => (hk' k h3).elim (fun h4 => .inl (.inr h4)) .inr))
/-- The step: the first resource is turned, what is new may be taken; all else stays. -/
theorem step (h : Sep w0 W (p :: F)) (hg : W'.os = W.os ∧ W'.tape = W.tape ∧ W'.output = W.output ∧ W.heap.size ≤ W'.heap.size)
    (hs : ∀ ok, p.P W ok → (∀ k, k < W.heap.size → ¬ ok k → W'.heap[k]? = W.heap[k]?) ∧ ∃ ok', q.P W' ok' ∧ ∀ k, ok' k → ok k ∨ W.heap.size ≤ k) : Sep w0 W' (q :: F) := by
  obtain ⟨ok, hp, hd, hF⟩ := h.sep
  obtain ⟨hm, ok', hq, hk'⟩ := hs ok hp
  exact h.stepOk hd hF hg hm hq hk'
/-- What is new: a resource of blocks that were not there. -/
theorem gain (h : Sep w0 W F) (hb : Below W.heap.size W W') {ok : Nat → Prop} (hq : q.P W' ok) (hk : ∀ k, ok k → W.heap.size ≤ k) : Sep w0 W' (q :: F) := by
  have h1 := h.below hb
  refine ⟨h1.os, h1.tape, h1.output, h1.size, h1.old, ok, hq, fun k ho ha => ?_, ?_⟩
  · have := hk k ho; have := h.size; omega
  · have h2 := (h.sep.fresh).move (W' := W') (fun k hlt _ => hb.block k hlt)
    exact h2.weaken (fun k hk2 => hk2.imp id (hk k))
/-- The frame: what a call that began at W has made, beside what there was. -/
theorem lift (h : Sep w0 W F) (hR : Sep W W' R) : Sep w0 W' (R ++ F) := by
  have h1 := h.below hR.toBelow
  refine ⟨h1.os, h1.tape, h1.output, h1.size, h1.old, SepR.app_of (ok := fun k => W.heap.size ≤ k) (fun k hk ha => by have := h.size; omega) (hR.sep.weaken (fun k hk => by omega)) ?_⟩
  exact (h.sep.fresh).move (W' := W') (fun k hlt _ => hR.toBelow.block k hlt)
theorem lift1 (h : Sep w0 W F) (hR : Sep W W' [p]) : Sep w0 W' (p :: F) := h.lift hR
theorem star (h : Sep w0 W (Star L :: F)) : Sep w0 W (L ++ F) := by
  obtain ⟨ok, hp, hd, hF⟩ := h.sep
  exact ⟨h.os, h.tape, h.output, h.size, h.old, SepR.app_of hd hp.2 hF⟩
theorem unstar (h : Sep w0 W (L ++ F)) : Sep w0 W (Star L :: F) := by
  obtain ⟨ok, hb, hd, h1, h2⟩ := SepR.of_app h.sep
  exact ⟨h.os, h.tape, h.output, h.size, h.old, ok, ⟨hb, h1⟩, hd, h2⟩
theorem ex {α : Type} {p : α → HP} (h : Sep w0 W (Ex p :: F)) : ∃ x, Sep w0 W (p x :: F) := by
  obtain ⟨ok, ⟨x, hp⟩, hd, hF⟩ := h.sep
  exact ⟨x, h.os, h.tape, h.output, h.size, h.old, ok, hp, hd, hF⟩
theorem unex {α : Type} {p : α → HP} (x : α) (h : Sep w0 W (p x :: F)) : Sep w0 W (Ex p :: F) := by
  obtain ⟨ok, hp, hd, hF⟩ := h.sep
  exact ⟨h.os, h.tape, h.output, h.size, h.old, ok, ⟨x, hp⟩, hd, hF⟩
theorem pu {φ : Prop} (h : Sep w0 W (Pu φ :: F)) : φ ∧ Sep w0 W F := by
  obtain ⟨ok, hp, hd, hF⟩ := h.sep
  exact ⟨hp.1, h.tail⟩
theorem unpu {φ : Prop} (hφ : φ) (h : Sep w0 W F) : Sep w0 W (Pu φ :: F) :=
  ⟨h.os, h.tape, h.output, h.size, h.old, fun _ => False, ⟨hφ, fun _ hf => hf⟩, fun _ hf => hf.elim, h.sep.weaken (fun k hk => hk.elim id (fun hf => hf.elim))⟩
/-- A resource told otherwise. -/
theorem imp (h : Sep w0 W (p :: F)) (hi : ∀ ok, p.P W ok → q.P W ok) : Sep w0 W (q :: F) := by
  obtain ⟨ok, hp, hd, hF⟩ := h.sep
  exact ⟨h.os, h.tape, h.output, h.size, h.old, ok, hi ok hp, hd, hF⟩
section
variable {g : Nat} {ty : TypeId} {cs : Array Value} {es : Array MapEntry} {clock : Nat}
theorem blk (h : Sep w0 W (Blk g ty cs :: F)) : W.heap[g]? = some (.cells cs ty (0, 0)) := by
  obtain ⟨ok, hp, _⟩ := h.sep; exact hp.2
theorem cell (h : Sep w0 W (Blk g ty cs :: F)) (i : Nat) : W.cell? ⟨g, i, none⟩ = cs[i]? := cell_of_row W g i cs ty (0, 0) h.blk
theorem frozen (h : Sep w0 W (Blk g ty cs :: F)) (i : Nat) : W.frozen? ⟨g, i, none⟩ = false := by simp [World.frozen?, h.blk]
theorem map (h : Sep w0 W (MapB g es clock :: F)) : W.heap[g]? = some (.map es clock) := by
  obtain ⟨ok, hp, _⟩ := h.sep; exact hp.2
theorem newBlk (h : Sep w0 W F) (t : TypeId) (cs : Array Value) : Sep w0 (W.alloc (.cells cs t)) (Blk W.heap.size t cs :: F) :=
  h.gain (below_alloc (Below.refl _ _) _) (ok := fun k => k = W.heap.size) ⟨fun _ => Iff.rfl, blk_new W _⟩ (fun k hk => by omega)
theorem newMap (h : Sep w0 W F) : Sep w0 (W.alloc (.map #[] 0)) (MapB W.heap.size #[] 0 :: F) :=
  h.gain (below_alloc (Below.refl _ _) _) (ok := fun k => k = W.heap.size) ⟨fun _ => Iff.rfl, blk_new W _⟩ (fun k hk => by omega)
theorem setBlk (h : Sep w0 W (Blk g ty cs :: F)) (i : Nat) (u : Value) : Sep w0 (W.setCell ⟨g, i, none⟩ u) (Blk g ty (cs.setIfInBounds i u) :: F) :=
  h.step ⟨rfl, rfl, rfl, by simp [World.setCell]⟩ (fun ok hp => ⟨fun k _ hn => Below.heap_setCell W _ u k (fun he => hn ((hp.1 k).2 he)), ok, ⟨hp.1, by
    have := hp.2
    simp [World.setCell, Array.getElem?_modify, this]⟩, fun k hk => .inl hk⟩)
theorem setMap (h : Sep w0 W (MapB g es clock :: F)) (es' : Array MapEntry) (clock' : Nat) : Sep w0 { W with heap := W.heap.setIfInBounds g (.map es' clock') } (MapB g es' clock' :: F) :=
  h.step ⟨rfl, rfl, rfl, by simp⟩ (fun ok hp => ⟨fun k _ hn => by
    have hne : g ≠ k := fun he => hn ((hp.1 k).2 he.symm)
    simp [Array.getElem?_setIfInBounds, hne], ok, ⟨hp.1, by
    have hlt := blk_lt hp.2
    simp [Array.getElem?_setIfInBounds, hlt]⟩, fun k hk => .inl hk⟩)
end
section
variable {α : Type} {d : Kd α} {e n c : Nat} {v : Value} {A : Option Addr} {xs : List α}
theorem row (h : Sep w0 W (Row d e v xs :: F)) : ∃ ok, d.R e W 0 ok v xs := by
  obtain ⟨ok, hp, _⟩ := h.sep; exact ⟨ok, hp.1⟩
theorem rowV (h : Sep w0 W (Row d e v xs :: F)) : ∃ A c, v = .slice A xs.length c := by
  obtain ⟨ok, hr⟩ := h.row; exact Kd.R_slice hr
theorem rowN (h : Sep w0 W (Row d e v xs :: F)) (hn : xs.length = n) : ∃ A c, v = .slice A n c := by
  subst hn; exact h.rowV
theorem rowC (h : Sep w0 W (Row d e (.slice A n c) xs :: F)) : n = xs.length ∧ n ≤ c ∧ d.C W A xs.length xs := by
  obtain ⟨ok, hr⟩ := h.row; exact Kd.R_reads' hr
theorem rowForm (h : Sep w0 W (Row d e v xs :: F)) (hp : 0 < xs.length) : ∃ g cap, v = .slice (some ⟨g, 0, none⟩) xs.length cap := by
  obtain ⟨ok, hr⟩ := h.row
  obtain ⟨g, cap, hv, _⟩ := Kd.R_form hr hp
  exact ⟨g, cap, hv⟩
theorem rowFormN (h : Sep w0 W (Row d e v xs :: F)) (hn : xs.length = n) (hp : 0 < n) : ∃ g cap, v = .slice (some ⟨g, 0, none⟩) n cap := by
  subst hn; exact h.rowForm hp
/-- A row that a call has made. -/
theorem newRow {ok : Nat → Prop} (h : Sep w0 W F) (hr : d.R e W' W.heap.size ok v xs) (hb : Below W.heap.size W W') : Sep w0 W' (Row d e v xs :: F) :=
  h.gain hb (ok := fun k => ok k ∧ W.heap.size ≤ k ∧ k < W'.heap.size) ⟨Kd.R_lower (Kd.R_mono (Kd.R_bound hr) (fun k hk => ⟨hk.1, hk.2.1, hk.2.2.1⟩)) (Nat.zero_le _), fun k hk => hk.2.2⟩ (fun k hk => hk.2.1)
theorem nilRow (h : Sep w0 W F) (d : Kd α) (e : Nat) : Sep w0 W (Row d e (.slice none 0 0) [] :: F) :=
  h.gain (Below.refl _ _) (ok := fun _ => False) ⟨Kd.R_nil _ _ _ _ _, fun _ hf => hf.elim⟩ (fun _ hf => hf.elim)
/-- Out of a resource, what a printed contract asks of a row of the caller's. -/
theorem rowRd (h : Sep w0 W (Row d e (.slice A n c) xs :: F)) : Sep w0 W (Rd d A n xs :: F) := by
  refine h.imp (fun ok hp => ⟨fun W' hm => ?_, hp.2⟩)
  have h2 := Kd.R_reads' (Kd.R_move hp.1 hm)
  rw [h2.1]; exact h2.2.2
theorem rd (h : Sep w0 W (Rd d A n xs :: F)) : d.C W A n xs := by
  obtain ⟨ok, hp, _⟩ := h.sep; exact hp.1 W (fun _ _ => rfl)
end
section
variable {α : Type} {enc : α → Value} {h1 : ∀ x, (enc x).oneCell' = true} {e g n cap : Nat} {xs : List α}
theorem rowCell (d : α) (h : Sep w0 W (Row (Kd.scalar enc h1) e (.slice (some ⟨g, 0, none⟩) n cap) xs :: F)) (i : Nat) (hi : i < n) : W.cell? ⟨g, i, none⟩ = some (enc (xs.getD i d)) ∧ W.frozen? ⟨g, i, none⟩ = false := by
  obtain ⟨ok, hr⟩ := h.row
  have := Kd.R_celln d hr (i : Int) (by omega) (by omega)
  simpa [rdOf] using this
theorem putRow (h : Sep w0 W (Row (Kd.scalar enc h1) e (.slice (some ⟨g, 0, none⟩) n cap) xs :: F)) (i : Nat) (x : α) :
    Sep w0 (W.setCell ⟨g, i, none⟩ (enc x)) (Row (Kd.scalar enc h1) e (.slice (some ⟨g, 0, none⟩) n cap) (xs.set i x) :: F) :=
  h.step ⟨rfl, rfl, rfl, by simp [World.setCell]⟩ (fun ok hp => ⟨fun k _ hn => Below.heap_setCell W _ _ k (fun he => hn (by
      have := hp.1.1 g rfl
      rw [he]; exact this)), ok, ⟨by
    have := (Kd.R_putg hp.1 (i : Int) x).1
    simpa using this, fun k hk => by simpa [World.setCell] using hp.2 k hk⟩, fun k hk => .inl hk⟩)
end
section
variable {P : Program} {ops : Array Oper} {rest : List Oper} {o : Oper} {a : Act} {Q : Exit → Act → World → Prop} {α : Type} {enc : α → Value} {h1 : ∀ x, (enc x).oneCell' = true}
/-- append(v, ys...) on a row of one's own, ys a row that is read: behind 'at_builtin'. -/
theorem appendRow {e : Nat} {v : Value} {xs ys : List α} (h : Sep w0 W (Row (Kd.scalar enc h1) e v xs :: F)) (hgd : o.guard = none) (s x : Operand) (t : TypeId) (z : Value) (bytes : Nat)
    (ho : o.op = .call { callee := .builtin .append, args := #[s, x], argTypes := #[t, t] })
    (ht : P.underlying t = some (.slice e)) (hinfo : (P.info? e).map (fun i => (i.zero, i.size, i.bytes)) = some (some z, 1, bytes)) (hz : z.cells.size = 1) (hb0 : 0 < bytes)
    (A : Option Addr) (m c : Nat) (hs : a.eval s = v) (hx : a.eval x = .slice A m c) (hC : (Kd.scalar enc h1).C W A m ys) (hl : (xs.length + ys.length) * bytes ≤ 140737488355328)
    (k : ∀ v1 w1, Sep w0 w1 (Row (Kd.scalar enc h1) e v1 (xs ++ ys) :: F) → wpList P ops Q rest (a.put o.dst v1) w1) : wpList P ops Q (o :: rest) a W := by
  obtain ⟨ok, hp, hd, hF⟩ := h.sep
  refine Kd.R_append_rows (Kd.scalar enc h1) (Rr := fun x cs => cs = [enc x]) (w0 := W) 0 hgd s x t e z bytes ho ht hinfo hz (by show 0 < 1; omega) hb0 v xs ys A m c (fun k => ok k ∨ W.heap.size ≤ k) (fun _ => False) hs hx
    (Kd.R_mono hp.1 (fun k hk => .inl hk)) hC (fun x cs h => h) (fun _ h => h.elim) (fun k hk => .inr hk) (Below.refl 0 W) (Nat.zero_le _) (by rw [← hC.1]; exact hl) (fun v1 w1 hr hb hg hat => k v1 w1 ?_)
  exact h.stepOk hd hF ⟨hg.os, hg.tape, hg.output, hg.size⟩ (fun k hlt hn => hg.block k hlt (fun he => hn (hp.1.1 k he.symm))) (ok' := fun k => (ok k ∨ W.heap.size ≤ k) ∧ k < w1.heap.size)
    ⟨Kd.R_mono (Kd.R_bound hr) (fun k hk => ⟨hk.1, hk.2.2.1⟩), fun k hk => hk.2⟩ (fun k hk => hk.1)
/-- The same as a step of a region that draws. -/
theorem appendStep {Kc : Act → World → Prop} {e : Nat} {v : Value} {xs ys : List α} (h : Sep w0 W (Row (Kd.scalar enc h1) e v xs :: F)) (hw : Region.wanted o (yielded ops a.tmps) = true) (s x : Operand) (t : TypeId) (z : Value) (bytes : Nat)
    (ho : o.op = .call { callee := .builtin .append, args := #[s, x], argTypes := #[t, t] })
    (ht : P.underlying t = some (.slice e)) (hinfo : (P.info? e).map (fun i => (i.zero, i.size, i.bytes)) = some (some z, 1, bytes)) (hz : z.cells.size = 1) (hb0 : 0 < bytes)
    (A : Option Addr) (m c : Nat) (hs : a.eval s = v) (hx : a.eval x = .slice A m c) (hC : (Kd.scalar enc h1).C W A m ys) (hl : (xs.length + ys.length) * bytes ≤ 140737488355328)
    (k : ∀ v1 w1, Sep w0 w1 (Row (Kd.scalar enc h1) e v1 (xs ++ ys) :: F) → Kc (a.put o.dst v1) w1) : if Region.wanted o (yielded ops a.tmps) = true then Oper.wp P o a W Kc Q else Kc (a.put o.dst undef) W := by
  obtain ⟨ok, hp, hd, hF⟩ := h.sep
  refine Kd.R_append_rows_step (Kd.scalar enc h1) (Rr := fun x cs => cs = [enc x]) (w0 := W) 0 hw s x t e z bytes ho ht hinfo hz (by show 0 < 1; omega) hb0 v xs ys A m c (fun k => ok k ∨ W.heap.size ≤ k) (fun _ => False) hs hx
    (Kd.R_mono hp.1 (fun k hk => .inl hk)) hC (fun x cs h => h) (fun _ h => h.elim) (fun k hk => .inr hk) (Below.refl 0 W) (Nat.zero_le _) (by rw [← hC.1]; exact hl) (fun v1 w1 hr hb hg hat => k v1 w1 ?_)
  exact h.stepOk hd hF ⟨hg.os, hg.tape, hg.output, hg.size⟩ (fun k hlt hn => hg.block k hlt (fun he => hn (hp.1.1 k he.symm))) (ok' := fun k => (ok k ∨ W.heap.size ≤ k) ∧ k < w1.heap.size)
    ⟨Kd.R_mono (Kd.R_bound hr) (fun k hk => ⟨hk.1, hk.2.2.1⟩), fun k hk => hk.2⟩ (fun k hk => hk.1)
/-- make([]T, n). -/
theorem madeRow {e : Nat} (d : α) (m : Nat) (h : Sep w0 W F) (hm : m ≤ 9223372036854775807) : Sep w0 (W.alloc (.cells (madeCells #[enc d] m) e)) (Row (Kd.scalar enc h1) e (.slice (some ⟨W.heap.size, 0, none⟩) m m) (List.replicate m d) :: F) :=
  h.newRow (ok := fun _ => True) (Kd.R_of_own (by rw [List.length_replicate]; exact own_made_of W W.heap.size e m (Nat.le_refl _) hm) (fun _ _ => trivial)) (below_alloc (Below.refl _ _) _)
/-- A literal's block. -/
theorem litRow {e : Nat} (xs : List α) (h : Sep w0 W F) (hm : xs.length ≤ 9223372036854775807) : Sep w0 (W.alloc (.cells (encs enc xs).toArray e)) (Row (Kd.scalar enc h1) e (.slice (some ⟨W.heap.size, 0, none⟩) xs.length xs.length) xs :: F) :=
  h.newRow (ok := fun _ => True) (Kd.R_of_own (own_lit_of W W.heap.size e xs (Nat.le_refl _) hm) (fun _ _ => trivial)) (below_alloc (Below.refl _ _) _)
end
end Sep
end Go.Proofs.Ytjngnigelkgekaa.Kit
namespace Go.Proofs.Ytjngnigelkgekaa.Sum
set_option linter.unusedVariables false
set_option linter.unusedSimpArgs false
open Go.RowKit Go.Proofs.YtjngnigelkgekaaW.PrintWords Go.Proofs.YtjngnigelkgekaaW.PrintLast Go.Proofs.YtjngnigelkgekaaW.PrintMore Go.Proofs.Ytjngnigelkgekaa.Kit Go.Proofs.Ytjngnigelkgekaa.Plain
abbrev B8 : Kd Int := Kd.int .u8
theorem infoB8 : (Try.prog.info? 5).map (fun i => (i.zero, i.size, i.bytes)) = some (some (.int .u8 0), 1, 1) := by kernel_rfl
theorem sumF_snoc (l : List Int) (x : Int) : sumF (l ++ [x]) = stepF (sumF l) x := by unfold sumF; rw [List.foldl_append]; rfl
theorem stepF_in (h x : Int) : 0 ≤ stepF h x ∧ stepF h x ≤ 4294967295 := by unfold stepF; omega
theorem sumF_in (l : List Int) : 0 ≤ sumF l ∧ sumF l ≤ 4294967295 := by
  rcases List.eq_nil_or_concat l with rfl | ⟨a, x, rfl⟩
  · unfold sumF; simp
  · rw [List.concat_eq_append, sumF_snoc]; exact stepF_in _ _
theorem take_snoc {l : List Int} {j : Nat} (h : j < l.length) : l.take (j + 1) = l.take j ++ [rd l (j : Int)] := by
  rw [List.take_add_one, List.getElem?_eq_getElem h]
  unfold rd
  rw [Int.toNat_natCast, List.getD_eq_getElem?_getD, List.getElem?_eq_getElem h]
  rfl
end Go.Proofs.Ytjngnigelkgekaa.Sum
namespace Go.Proofs.Ytjngnigelkgekaa.Sum
set_option linter.unusedVariables false
set_option linter.unusedSimpArgs false
open Go.RowKit Go.Proofs.YtjngnigelkgekaaW.PrintWords Go.Proofs.YtjngnigelkgekaaW.PrintLast Go.Proofs.YtjngnigelkgekaaW.PrintMore Go.Proofs.Ytjngnigelkgekaa.Kit Go.Proofs.Ytjngnigelkgekaa.Plain
theorem C_of8 {W : World} {A : Option Addr} {n : Nat} {l : List Int} (h : ReadsOf (Value.int .u8) (0 : Int) W A n l) : B8.C W A n l := Kd.C_of_reads (d := (0 : Int)) (h1 := fun _ => rfl) h
theorem of_C8 {W : World} {A : Option Addr} {n : Nat} {l : List Int} (h : B8.C W A n l) : ReadsOf (Value.int .u8) (0 : Int) W A n l := Kd.reads_of_C (d := (0 : Int)) h
/-- A cut 'x[a:b]' of bytes. -/
theorem mid8 {A : Option Addr} {n c a b : Nat} {l : List Int} {J K : Int} (hJ : J = (a : Int)) (hK : K = (b : Int)) (hl : l.length = n) (hab : a ≤ b) (hb : b ≤ n) (hc : n ≤ c) :
    ∃ A', (∀ W : World, (Instr.slice 30 (.slice A n c) (some (.int .i64 J)) (some (.int .i64 K)) none).run Try.prog W = .ok (.slice A' (b - a) (c - a)) W) ∧ ∀ W : World, B8.C W A n l → B8.C W A' (b - a) ((l.take b).drop a) := by
  subst hJ hK hl
  obtain ⟨i, hi, hz⟩ := Option.map_eq_some_iff.1 infoB8
  simp only [Prod.mk.injEq] at hz
  obtain ⟨A', h1, h2, _⟩ := print_mid_of (P := Try.prog) (Value.int .u8) (0 : Int) 30 5 .i64 .i64 Try.underlying30 hi hz.2.1 A c l (a : Int) (b : Int) (by omega) (by omega) (by omega) hc
  have hlen : ((l.take b).drop a).length = b - a := by rw [List.length_drop, List.length_take]; omega
  simp only [Int.toNat_natCast, hlen] at h1 h2
  exact ⟨A', h1, fun W h => C_of8 (h2 W (of_C8 h))⟩
def accF (l : List Int) : Int := l.foldl (fun n c => n * 256 + c) 0
theorem accF_snoc (l : List Int) (x : Int) : accF (l ++ [x]) = accF l * 256 + x := by unfold accF; rw [List.foldl_append]; rfl
theorem accF_in {l : List Int} (h : Bytes l) (h3 : l.length ≤ 3) : 0 ≤ accF l ∧ accF l < 16777216 := by
  match l, h3 with
  | [], _ => unfold accF; simp
  | [a], _ => have := h a (by simp); simp [accF]; omega
  | [a, b], _ => have := h a (by simp); have := h b (by simp); simp [accF]; omega
  | [a, b, c], _ => have := h a (by simp); have := h b (by simp); have := h c (by simp); simp [accF]; omega
theorem getF_acc {l : List Int} {a : Nat} (h : a + 4 ≤ l.length) : accF ((l.take (a + 4)).drop a) = getF l (a : Int) := by
  have hl : ((l.take (a + 4)).drop a).length = 4 := by rw [List.length_drop, List.length_take]; omega
  have he : (l.take (a + 4)).drop a = [rd l (a : Int), rd l ((a : Int) + 1), rd l ((a : Int) + 2), rd l ((a : Int) + 3)] := by
    apply List.ext_getElem?
    intro j
    rw [List.getElem?_drop, List.getElem?_take]
    unfold rd
    match j with
    | 0 => rw [if_pos (by omega), List.getElem?_eq_getElem (by omega)]; simp [List.getElem?_eq_getElem (show a < l.length by omega)]
    | 1 => rw [if_pos (by omega), List.getElem?_eq_getElem (by omega)]; simp [show ((a : Int) + 1).toNat = a + 1 by omega, List.getElem?_eq_getElem (show a + 1 < l.length by omega)]
    | 2 => rw [if_pos (by omega), List.getElem?_eq_getElem (by omega)]; simp [show ((a : Int) + 2).toNat = a + 2 by omega, List.getElem?_eq_getElem (show a + 2 < l.length by omega)]
    | 3 => rw [if_pos (by omega), List.getElem?_eq_getElem (by omega)]; simp [show ((a : Int) + 3).toNat = a + 3 by omega, List.getElem?_eq_getElem (show a + 3 < l.length by omega)]
    | j + 4 => rw [if_neg (by omega)]; simp
  rw [he]
  unfold getF
  rw [if_neg (by omega)]
  simp [accF]
set_option maxHeartbeats 800000 in
theorem get_out {A : Option Addr} {n c : Nat} {l : List Int} {a : Int} {w : World} (hr : B8.C w A n l) (ha : a < 0 ∨ (l.length : Int) - 4 < a) (ha2 : -9223372036854775808 ≤ a ∧ a ≤ 9223372036854775807) :
    Calls Try.prog 91 #[.slice A n c, .int .i64 a] w fun e w' => e = .returned (.int .u32 (getF l a)) ∧ w = w' := by
  obtain rfl : l.length = n := hr.1
  have hm : l.length ≤ 9223372036854775807 := hr.2.1
  have hg : getF l a = 0 := by unfold getF; rw [if_pos ha]
  have HG := Aside0.mk hg
  clear hr hg
  by_cases h0 : a < 0
  · clear ha
    go_enter Try.func91, Try.ntmps91
    go_wp2
    go_ret
    exact ⟨by rw [HG.out]; first | rfl | (simp; done), rfl⟩
  · have h1 : (l.length : Int) - 4 < a := by omega
    clear ha
    go_enter Try.func91, Try.ntmps91
    go_wp2
    go_ret
    exact ⟨by rw [HG.out]; first | rfl | (simp; done), rfl⟩
set_option maxHeartbeats 800000 in
theorem get_in {A : Option Addr} {n c : Nat} {l : List Int} {a : Nat} {w : World} (hr : B8.C w A n l) (hc : n ≤ c) (hb : Bytes l) (ha : a + 4 ≤ n) :
    Calls Try.prog 91 #[.slice A n c, .int .i64 (a : Int)] w fun e w' => e = .returned (.int .u32 (getF l (a : Int))) ∧ w = w' := by
  obtain rfl : l.length = n := hr.1
  have hm : l.length ≤ 9223372036854775807 := hr.2.1
  obtain ⟨A', hcut, hC⟩ := mid8 (A := A) (c := c) (l := l) (a := a) (b := a + 4) (J := (a : Int)) (K := (a : Int) + 4) rfl (by omega) rfl (by omega) ha hc
  rw [Nat.add_sub_cancel_left] at hcut
  have HR := Aside0.mk (by have := hC w hr; rwa [Nat.add_sub_cancel_left] at this)
  have HB : Aside0 (Bytes ((l.take (a + 4)).drop a)) := ⟨(hb.take _).drop _⟩
  have HG := Aside0.mk (getF_acc ha)
  have hl4 : ((l.take (a + 4)).drop a).length = 4 := by rw [List.length_drop, List.length_take]; omega
  generalize (l.take (a + 4)).drop a = q at *
  have HL := Aside0.mk hl4
  have h1 : ¬ (l.length : Int) - 4 < (a : Int) := by omega
  clear hr hC hb hl4
  go_enter Try.func91, Try.ntmps91
  go_wp2_with fail
  go_loopg [5, 23] 4 (fun k s p wr => ∃ j : Nat, p = .int .i64 (j : Int) ∧ j + k = 4 ∧ s = .int .u32 (accF (q.take j)) ∧ w = wr)
  case atStart => exact ⟨0, rfl, rfl, rfl, rfl⟩
  case round =>
    obtain ⟨j, rfl, hjk, rfl, rfl⟩ := hrel
    have AK := Aside0.mk hjk
    by_cases hj : j < 4
    · obtain ⟨ad, hA, hcc⟩ := Kd.at_int HR.out (j : Int) (by omega) (by omega)
      subst hA
      rw [Int.toNat_natCast] at hcc
      have AT := Aside0.mk (take_snoc (l := q) (j := j) (by rw [HL.out]; exact hj))
      have hx := HB.out.at (j : Int)
      have hacc := accF_in (HB.out.take j) (by rw [List.length_take]; omega)
      generalize rd q (j : Int) = x at *
      have hsn := Aside0.mk (accF_snoc (q.take j) x)
      generalize accF (q.take j) = y at *
      have hor : Go.bits .or .u32 (y * 256) x = y * 256 + x := by
        have := shift_in hacc.1 hacc.2 hx.1 hx.2
        rwa [show y * 256 % 4294967296 = y * 256 by omega, show x % 4294967296 = x by omega] at this
      have HO := Aside0.mk hor
      clear hjk hor
      go_wp2_with fail
      go_roundg (gk - 1)
      case measure => have := AK.out; omega
      case rel => exact ⟨j + 1, by go_num, by have := AK.out; omega, by rw [AT.out, hsn.out, ← HO.out], rfl⟩
    · have hjn : j = 4 := by omega
      subst hjn
      have hq : q.take 4 = q := List.take_of_length_le (by rw [HL.out]; exact Nat.le_refl _)
      rw [hq]
      clear hjk AK hq
      go_wp2_with fail
      go_ret
      exact ⟨by rw [← HG.out]; first | rfl | (simp; done), rfl⟩
theorem get_ {A : Option Addr} {n c : Nat} {l : List Int} {a : Int} {w : World} (hr : B8.C w A n l) (hc : n ≤ c) (hb : Bytes l) (ha2 : -9223372036854775808 ≤ a ∧ a ≤ 9223372036854775807) :
    Calls Try.prog 91 #[.slice A n c, .int .i64 a] w fun e w' => e = .returned (.int .u32 (getF l a)) ∧ w = w' := by
  have hl := hr.1
  by_cases ha : a < 0 ∨ (l.length : Int) - 4 < a
  · exact get_out hr ha ha2
  · obtain ⟨k, rfl⟩ : ∃ k : Nat, a = (k : Int) := ⟨a.toNat, by omega⟩
    exact get_in hr hc hb (by omega)
theorem rd_app_right {l r : List Int} {j : Nat} (h : j < r.length) : rd (l ++ r) ((l.length : Int) + (j : Int)) = rd r (j : Int) := by
  unfold rd
  rw [show ((l.length : Int) + (j : Int)).toNat = l.length + j by omega, Int.toNat_natCast, List.getD_eq_getElem?_getD, List.getD_eq_getElem?_getD, List.getElem?_append_right (by omega), Nat.add_sub_cancel_left]
theorem getF_put (l r : List Int) {m : Int} (h0 : 0 ≤ m) (h1 : m ≤ 4294967295) : getF (l ++ (put4 m ++ r)) (l.length : Int) = m := by
  unfold getF
  have h4 : (put4 m).length = 4 := rfl
  rw [if_neg (by simp only [List.length_append, h4]; omega)]
  have e0 := rd_app_right (l := l) (r := put4 m ++ r) (j := 0) (by simp only [List.length_append, h4]; omega)
  have e1 := rd_app_right (l := l) (r := put4 m ++ r) (j := 1) (by simp only [List.length_append, h4]; omega)
  have e2 := rd_app_right (l := l) (r := put4 m ++ r) (j := 2) (by simp only [List.length_append, h4]; omega)
  have e3 := rd_app_right (l := l) (r := put4 m ++ r) (j := 3) (by simp only [List.length_append, h4]; omega)
  simp only [Int.natCast_zero, Int.add_zero, Int.natCast_one] at e0 e1
  rw [show ((l.length : Int) + 2) = (l.length : Int) + ((2 : Nat) : Int) from rfl, show ((l.length : Int) + 3) = (l.length : Int) + ((3 : Nat) : Int) from rfl, e0, e1, e2, e3]
  simp [rd, put4]
  omega
end Go.Proofs.Ytjngnigelkgekaa.Sum
namespace Go.Proofs.Ytjngnigelkgekaa.Plain
open Go Go.RowKit Go.Proofs.YtjngnigelkgekaaW.PrintWords Go.Proofs.YtjngnigelkgekaaW.PrintLast Go.Proofs.YtjngnigelkgekaaW.PrintMore
open Go.Proofs.Ytjngnigelkgekaa.Sum (getF_put)
theorem zeros_bytes (n : Nat) : Bytes (List.replicate n 0) := fun x hx => by
  obtain rfl := List.eq_of_mem_replicate hx
  omega
/-- May such a root be, of so many sectors? -/
def rightR (a b c n : Int) : Bool := decide (1 ≤ a ∧ a ≤ 64 ∧ 1 ≤ b ∧ b ≤ 64 ∧ 2 + a + b ≤ n ∧ 1 ≤ c)
end Go.Proofs.Ytjngnigelkgekaa.Plain
namespace Go.Proofs.Ytjngnigelkgekaa.Base
set_option linter.unusedVariables false
set_option linter.unusedSimpArgs false
open Go.RowKit Go.Proofs.YtjngnigelkgekaaW.PrintWords Go.Proofs.YtjngnigelkgekaaW.PrintLast Go.Proofs.YtjngnigelkgekaaW.PrintMore Go.Proofs.Ytjngnigelkgekaa.Kit
theorem infoB : (Try.prog.info? 5).map (fun i => (i.zero, i.size, i.bytes)) = some (some (.int .u8 0), 1, 1) := by kernel_rfl
abbrev U8 : Kd Int := Kd.int .u8
def cloneF (l0 : List Int) : Option (List Int) := if l0.length < 140737488355328 then (some l0) else none
set_option maxHeartbeats 8000000 in
set_option maxRecDepth 100000 in
theorem clone0 (A0 : Option Addr) (c0 : Nat) (l0 : List Int) (r : List Int) (w : World) (hr0 : Kd.C (Kd.int .u8) w A0 l0.length l0) (hc0 : l0.length ≤ c0) (h : cloneF l0 = some r) :
    Calls Try.prog 94 #[.slice A0 l0.length c0] w fun e w' => ∃ v0_ : Value, e = .returned (v0_) ∧ Kd.R (Kd.int .u8) 5 w' w.heap.size (fun _ => True) v0_ r ∧ Below w.heap.size w w' := by
  have HR0 := Aside0.mk hr0
  have HC0 := Aside0.mk hc0
  clear hr0 hc0
  have HB := Aside0.mk (Below.refl w.heap.size w)
  have hl : l0.length < 140737488355328 ∧ l0 = r := by
    unfold cloneF at h
    split at h
    · exact ⟨by assumption, Option.some.inj h⟩
    · cases h
  obtain ⟨hl, rfl⟩ := hl
  have LMc3 := Aside0.mk hl
  clear h hl
  cases A0 with
  | none =>
    have hl0 : l0 = [] := by
      have := HR0.out
      cases l0 with
      | nil => rfl
      | cons a t => obtain ⟨ad, e, _⟩ := Kd.at_int HR0.out 0 (by decide) (by simp); cases e
    subst hl0
    have heq : ∀ W : World, Sem.run Try.prog (binOp .eql 30 (.slice none 0 c0) (.slice none 0 0)) W = .ok (.bool true) W := fun W => Lib.run_eql_slice_nil W 30 5 none _ c0 0 0 Try.underlying30
    show Calls Try.prog 94 #[.slice none 0 c0] w _
    go_enter Try.func94, Try.ntmps94
    go_wp2
    go_ret
    exact ⟨_, rfl, Kd.R_nil _ _ _ _ _, HB.out⟩
  | some a0 =>
    have heq : ∀ W : World, Sem.run Try.prog (binOp .eql 30 (.slice (some a0) l0.length c0) (.slice none 0 0)) W = .ok (.bool false) W := fun W => Lib.run_eql_slice_nil W 30 5 (some a0) _ c0 0 0 Try.underlying30
    go_enter Try.func94, Try.ntmps94
    go_wp2_with (first | ((with_reducible refine gate_dst (N := 5) rfl ?_); refine Kd.R_lit (Kd.int .u8) _ 5 ?hg (N := 5) ?hd (xs := ([] : List Int)) (inner := []) (ok := fun _ => True) (okp := fun _ => True) ?hr ?hp (fun _ hk => hk) trivial (Below.refl _ _) (Nat.le_refl _) (by simp) ?_; (case hd => rfl); (case hg => rfl); (case hr => first | (go_simp; done) | (go_simp; rfl)); (case hp => exact (Reps.none _ _)); intro v117 w5 ho6 hb hg_ hnew_; clear hg_ hnew_; have n0_ := Aside0.mk (Kd.R_lower ho6 (below_size (by repeat (first | (with_reducible first | exact HB.out | apply below_alloc | apply pw_below_drewN | apply below_drew1) | exact HB.out)))); have n1_ := Aside0.mk (below_step (by repeat (first | (with_reducible first | exact HB.out | apply below_alloc | apply pw_below_drewN | apply below_drew1) | exact HB.out)) hb); clear HB; have HO118 := n0_; have HB := n1_; clear n0_ n1_; clear hb ho6) | ((with_reducible refine gate_builtin (b := .append) (xs := #[.tmp 5, .tmp 6]) rfl ?_); at_builtin; refine Kd.R_append_rows (Kd.int .u8) (w0 := w) w.heap.size rfl (.tmp 5) (.tmp 6) 30 5 (.int .u8 0) 1 rfl Try.underlying30 infoB rfl (by decide) (by omega) v117 [] l0 _ _ _ (fun _ => True) (fun _ => False) rfl rfl ?aO ?aR (fun _ _ h => h) (fun _ h => h.elim) ?aF ?aB ?aS ?aL ?_; (case aR => repeat (first | exact (Kd.C_below HR0.out HB.out) | (with_reducible refine Kd.C_alloc ?_ _) | (with_reducible refine Kd.C_drewN ?_ _) | (with_reducible refine Kd.C_drew ?_))); (case aB => exact (by repeat (first | (with_reducible first | exact HB.out | apply below_alloc | apply pw_below_drewN | apply below_drew1) | exact HB.out))); (case aF => exact (fun _ _ => trivial)); (case aO => exact (by (with_reducible repeat (first | apply Kd.R_alloc | apply Kd.R_drewN | apply Kd.R_drew)); exact HO118.out)); (case aS => exact (below_size (by repeat (first | (with_reducible first | exact HB.out | apply below_alloc | apply pw_below_drewN | apply below_drew1) | exact HB.out)))); (case aL => have := LMc3.out; simp only [List.length_nil]; omega); intro v120 w7 ho hb hg hat; rw [List.nil_append] at ho; have n0_ := Aside0.mk (hb); have n1_ := Aside0.mk (ho); clear HB; clear HO118; have HB := n0_; have HO121 := n1_; clear n0_ n1_; clear ho hb hg hat))
    go_ret
    exact ⟨_, by first | rfl | (simp; done) | (simp [*]; done), by (with_reducible repeat (first | apply Kd.R_alloc | apply Kd.R_drewN | apply Kd.R_drew)); exact Kd.R_mono HO121.out (fun _ hk => trivial), by repeat (first | (with_reducible first | exact HB.out | apply below_alloc | apply pw_below_drewN | apply below_drew1) | exact HB.out)⟩
/-- slices.Clone of bytes that are read. -/
theorem clone_ {A : Option Addr} {n c : Nat} {l : List Int} {w : World} (hr : U8.C w A n l) (hc : n ≤ c) (hl : n < 140737488355328) :
    Calls Try.prog 94 #[.slice A n c] w fun e w' => ∃ v, e = .returned v ∧ Sep w w' [Row U8 5 v l] := by
  obtain rfl : l.length = n := hr.1
  refine (clone0 A c l l w hr hc (if_pos hl)).mono ?_
  rintro e w' ⟨v, rfl, hR, hB⟩
  exact ⟨v, rfl, (Sep.start w).newRow hR hB⟩
theorem make_ {m : Nat} (hm : m ≤ 100000) : ∀ W : World, (Instr.makeSlice 30 (.int .i64 (m : Int)) (.int .i64 (m : Int))).run Try.prog W = .ok (.slice (some ⟨W.heap.size, 0, none⟩) m m) (W.alloc (.cells (madeCells #[.int .u8 0] m) 5)) :=
  print_make (P := Try.prog) 30 5 .u8 1 Try.underlying30 infoB (by decide) m (by omega)
end Go.Proofs.Ytjngnigelkgekaa.Base
namespace Go.Proofs.Ytjngnigelkgekaa.Base
set_option linter.unusedVariables false
set_option linter.unusedSimpArgs false
open Go.RowKit Go.Proofs.YtjngnigelkgekaaW.PrintWords Go.Proofs.YtjngnigelkgekaaW.PrintLast Go.Proofs.YtjngnigelkgekaaW.PrintMore Go.Proofs.Ytjngnigelkgekaa.Kit
end Go.Proofs.Ytjngnigelkgekaa.Base
namespace Go.Proofs.Ytjngnigelkgekaa.Base
set_option linter.unusedVariables false
set_option linter.unusedSimpArgs false
open Go.RowKit Go.Proofs.YtjngnigelkgekaaW.PrintWords Go.Proofs.YtjngnigelkgekaaW.PrintLast Go.Proofs.YtjngnigelkgekaaW.PrintMore Go.Proofs.Ytjngnigelkgekaa.Kit
theorem C_of8 {W : World} {A : Option Addr} {n : Nat} {l : List Int} (h : ReadsOf (Value.int .u8) (0 : Int) W A n l) : U8.C W A n l := Kd.C_of_reads (d := (0 : Int)) (h1 := fun _ => rfl) h
theorem of_C8 {W : World} {A : Option Addr} {n : Nat} {l : List Int} (h : U8.C W A n l) : ReadsOf (Value.int .u8) (0 : Int) W A n l := Kd.reads_of_C (d := (0 : Int)) h
/-- A cut 'x[a:b]' of bytes. -/
theorem mid8 {A : Option Addr} {n c a b : Nat} {l : List Int} {J K : Int} (hJ : J = (a : Int)) (hK : K = (b : Int)) (hl : l.length = n) (hab : a ≤ b) (hb : b ≤ n) (hc : n ≤ c) :
    ∃ A', (∀ W : World, (Instr.slice 30 (.slice A n c) (some (.int .i64 J)) (some (.int .i64 K)) none).run Try.prog W = .ok (.slice A' (b - a) (c - a)) W) ∧ ∀ W : World, U8.C W A n l → U8.C W A' (b - a) ((l.take b).drop a) := by
  subst hJ hK hl
  obtain ⟨i, hi, hz⟩ := Option.map_eq_some_iff.1 infoB
  simp only [Prod.mk.injEq] at hz
  obtain ⟨A', h1, h2, _⟩ := print_mid_of (P := Try.prog) (Value.int .u8) (0 : Int) 30 5 .i64 .i64 Try.underlying30 hi hz.2.1 A c l (a : Int) (b : Int) (by omega) (by omega) (by omega) hc
  have hlen : ((l.take b).drop a).length = b - a := by rw [List.length_drop, List.length_take]; omega
  simp only [Int.toNat_natCast, hlen] at h1 h2
  exact ⟨A', h1, fun W h => C_of8 (h2 W (of_C8 h))⟩
/-- A cut 'x[a:]' of bytes. -/
theorem drop8 {A : Option Addr} {n c a : Nat} {l : List Int} {J : Int} (hJ : J = (a : Int)) (hl : l.length = n) (ha : a ≤ n) (hc : n ≤ c) :
    ∃ A', (∀ W : World, (Instr.slice 30 (.slice A n c) (some (.int .i64 J)) none none).run Try.prog W = .ok (.slice A' (n - a) (c - a)) W) ∧ ∀ W : World, U8.C W A n l → U8.C W A' (n - a) (l.drop a) := by
  subst hJ hl
  obtain ⟨i, hi, hz⟩ := Option.map_eq_some_iff.1 infoB
  simp only [Prod.mk.injEq] at hz
  obtain ⟨A', h1, h2, _⟩ := print_drop_of (P := Try.prog) (Value.int .u8) (0 : Int) 30 5 .i64 Try.underlying30 hi hz.2.1 A c l (a : Int) (by omega) (by omega) hc
  simp only [Int.toNat_natCast, List.length_drop] at h1 h2
  exact ⟨A', h1, fun W h => C_of8 (h2 W (of_C8 h))⟩
/-- A cut 'x[:b]' of bytes. -/
theorem take8 {A : Option Addr} {n c b : Nat} {l : List Int} {K : Int} (hK : K = (b : Int)) (hl : l.length = n) (hb : b ≤ n) (hc : n ≤ c) :
    (∀ W : World, (Instr.slice 30 (.slice A n c) none (some (.int .i64 K)) none).run Try.prog W = .ok (.slice A b c) W) ∧ ∀ W : World, U8.C W A n l → U8.C W A b (l.take b) := by
  subst hK hl
  obtain ⟨i, hi, hz⟩ := Option.map_eq_some_iff.1 infoB
  simp only [Prod.mk.injEq] at hz
  obtain ⟨h1, h2, _⟩ := print_take_of (P := Try.prog) (Value.int .u8) (0 : Int) 30 5 .i64 Try.underlying30 hi hz.2.1 A c l (b : Int) (by omega) (by omega) hc
  have hlen : (l.take b).length = b := by rw [List.length_take]; omega
  simp only [Int.toNat_natCast, hlen] at h1 h2
  exact ⟨h1, fun W h => C_of8 (h2 W (of_C8 h))⟩
/-- A cut 'x[a:b:c]'. -/
theorem cut3 (A : Option Addr) (n c i j k : Nat) (h1 : i ≤ j) (h2 : j ≤ k) (h3 : i < k) (h4 : k ≤ c) :
    ∀ W : World, (Instr.slice 30 (.slice A n c) (some (.int .i64 (i : Int))) (some (.int .i64 (j : Int))) (some (.int .i64 (k : Int)))).run Try.prog W = .ok (.slice (A.map (·.add i)) (j - i) (k - i)) W := by
  intro W
  obtain ⟨t, hi, hz⟩ := Option.map_eq_some_iff.1 infoB
  simp only [Prod.mk.injEq] at hz
  have e1 : (k : Int) ≤ c := by omega
  have e2 : (j : Int) ≤ k := by omega
  have e3 : (i : Int) ≤ j := by omega
  have e4 : ¬ k - i = 0 := by omega
  have e5 : k ≠ i := by omega
  simp [Instr.slice, run_underlying Try.underlying30, Instr.sliceBounds, run_sliceBound, sizeOf, typeInfo, hi, hz.2.1, e1, e2, e3, e4, e5, h1, h2, h4]
/-- A cut 'x[a:]', whatever lies there. -/
theorem cut1 (A : Option Addr) (n c i : Nat) (h1 : i ≤ n) (h2 : n ≤ c) :
    ∃ A', ∀ W : World, (Instr.slice 30 (.slice A n c) (some (.int .i64 (i : Int))) none none).run Try.prog W = .ok (.slice A' (n - i) (c - i)) W := by
  refine ⟨if c = i then A else A.map (·.add i), fun W => ?_⟩
  obtain ⟨t, hi, hz⟩ := Option.map_eq_some_iff.1 infoB
  simp only [Prod.mk.injEq] at hz
  have hel : Try.prog.elem 30 = 5 := by simp [Program.elem, Try.underlying30]
  have hu : Try.prog.underlying 30 = some (.slice (Try.prog.elem 30)) := by rw [hel]; exact Try.underlying30
  rw [run_slice_l W 30 A n c hu .i64 (i : Int) (by omega) (by omega), hel]
  simp [sizeOf, typeInfo, hi, hz.2.1, sliced, Result.andThen]
end Go.Proofs.Ytjngnigelkgekaa.Base
namespace Go.Proofs.Ytjngnigelkgekaa.Kit
set_option linter.unusedVariables false
set_option linter.unusedSimpArgs false
open Go.RowKit Go.Proofs.YtjngnigelkgekaaW.PrintWords Go.Proofs.YtjngnigelkgekaaW.PrintLast Go.Proofs.YtjngnigelkgekaaW.PrintMore
namespace Sep
variable {w0 W W' : World} {F : List HP}
section
variable {P : Program} {ops : Array Oper} {rest : List Oper} {o : Oper} {a : Act} {Q : Exit → Act → World → Prop} {α : Type} {enc : α → Value} {h1 : ∀ x, (enc x).oneCell' = true}
end
end Sep
end Go.Proofs.Ytjngnigelkgekaa.Kit
namespace Go.Proofs.Ytjngnigelkgekaa.Kit
set_option linter.unusedVariables false
set_option linter.unusedSimpArgs false
open Go.RowKit Go.Proofs.YtjngnigelkgekaaW.PrintWords Go.Proofs.YtjngnigelkgekaaW.PrintLast Go.Proofs.YtjngnigelkgekaaW.PrintMore
namespace Sep
variable {w0 W W' : World} {F : List HP}
section
variable {P : Program} {ops : Array Oper} {rest : List Oper} {o : Oper} {a : Act} {Q : Exit → Act → World → Prop} {sz : Nat}
end
end Sep
end Go.Proofs.Ytjngnigelkgekaa.Kit
namespace Go.Proofs.Ytjngnigelkgekaa.Kit
set_option linter.unusedVariables false
open Go.RowKit Go.Proofs.YtjngnigelkgekaaW.PrintWords Go.Proofs.YtjngnigelkgekaaW.PrintLast Go.Proofs.YtjngnigelkgekaaW.PrintMore
def Fx (φ : World → Prop) : HP where
  P W ok := (∀ W' : World, (∀ k, ok k → W'.heap[k]? = W.heap[k]?) → φ W') ∧ ∀ k, ok k → k < W.heap.size
  loc := fun {W W' ok} h hm => ⟨fun W2 h2 => h.1 W2 (fun k hk => (h2 k hk).trans (hm k hk)), fun k hk => by
      have := hm k hk
      rw [Array.getElem?_eq_getElem (h.2 k hk)] at this
      exact (Array.getElem?_eq_some_iff.1 this).1⟩
  bnd := fun h => h.2
namespace Sep
variable {w0 W W' : World} {F : List HP} {φ ψ : World → Prop}
theorem fx (h : Sep w0 W (Fx φ :: F)) : φ W := by
  obtain ⟨ok, hp, _⟩ := h.sep; exact hp.1 W (fun _ _ => rfl)
end Sep
end Go.Proofs.Ytjngnigelkgekaa.Kit
namespace Go.Proofs.Ytjngnigelkgekaa.Kit
set_option linter.unusedVariables false
set_option linter.unusedSimpArgs false
open Go.RowKit Go.Proofs.YtjngnigelkgekaaW.PrintWords Go.Proofs.YtjngnigelkgekaaW.PrintLast Go.Proofs.YtjngnigelkgekaaW.PrintMore
/-- What the cells of a row say, element by element. -/
def Each {α : Type} (d : Kd α) (xs : List α) (cs : List (List Value)) (W : World) : Prop := xs.length = cs.length ∧ ∀ (j : Nat) x c, xs[j]? = some x → cs[j]? = some c → d.K W x c
theorem Each.set {α : Type} {d : Kd α} {xs : List α} {cs : List (List Value)} {W : World} {x : α} {c : List Value} (i : Nat) (h : Each d xs cs W) (hx : d.K W x c) : Each d (xs.set i x) (cs.set i c) W := by
  refine ⟨by simp [h.1], fun j y b hy hb => ?_⟩
  by_cases hj : i = j
  · subst hj
    rw [List.getElem?_set] at hy hb
    simp only [if_true] at hy hb
    split at hy
    · split at hb
      · cases hy; cases hb; exact hx
      · cases hb
    · cases hy
  · rw [List.getElem?_set_ne hj] at hy hb
    exact h.2 j y b hy hb
namespace Sep
variable {w0 W W' : World} {F : List HP} {α : Type} {d : Kd α} {e n c : Nat} {v : Value} {A : Option Addr} {xs : List α} {φ ψ : World → Prop}
section
variable {P : Program} {ops : Array Oper} {rest : List Oper} {o : Oper} {a : Act} {Q : Exit → Act → World → Prop}
end
end Sep
end Go.Proofs.Ytjngnigelkgekaa.Kit
namespace Go.Proofs.Ytjngnigelkgekaa.Kit
set_option linter.unusedVariables false
set_option linter.unusedSimpArgs false
open Go.RowKit Go.Proofs.YtjngnigelkgekaaW.PrintWords Go.Proofs.YtjngnigelkgekaaW.PrintLast Go.Proofs.YtjngnigelkgekaaW.PrintMore
section
variable {P : Program} {T E : TypeId} {sz bytes : Nat} {z : Value}
theorem elem_of (ht : P.underlying T = some (.slice E)) : P.elem T = E := by simp [Program.elem, ht]
theorem cutHi (ht : P.underlying T = some (.slice E)) (hinfo : (P.info? E).map (fun i => (i.zero, i.size, i.bytes)) = some (some z, sz, bytes)) (A : Option Addr) (n c b : Nat) {K : Int} (hK : K = (b : Int)) (h1 : b ≤ n) (h2 : n ≤ c) (W : World) :
    (Instr.slice T (.slice A n c) none (some (.int .i64 K)) none).run P W = .ok (.slice A b c) W := by
  subst hK
  obtain ⟨t, hi, hz⟩ := Option.map_eq_some_iff.1 hinfo
  simp only [Prod.mk.injEq] at hz
  rw [run_slice_h W T A n c (by rw [elem_of ht]; exact ht) .i64 (b : Int) (by omega) (by omega), elem_of ht]
  have e : (A.map fun x => x.add 0) = A := by
    cases A with
    | none => rfl
    | some a => simp [Addr.add]
  simp [sizeOf, typeInfo, hi, hz.2.1, sliced, Result.andThen, e]
theorem cutLo (ht : P.underlying T = some (.slice E)) (hinfo : (P.info? E).map (fun i => (i.zero, i.size, i.bytes)) = some (some z, sz, bytes)) (A : Option Addr) (n c a : Nat) {J : Int} (hJ : J = (a : Int)) (h1 : a ≤ n) (h2 : n ≤ c) (W : World) :
    (Instr.slice T (.slice A n c) (some (.int .i64 J)) none none).run P W = .ok (.slice (if c = a then A else A.map (·.add (a * sz))) (n - a) (c - a)) W := by
  subst hJ
  obtain ⟨t, hi, hz⟩ := Option.map_eq_some_iff.1 hinfo
  simp only [Prod.mk.injEq] at hz
  rw [run_slice_l W T A n c (by rw [elem_of ht]; exact ht) .i64 (a : Int) (by omega) (by omega), elem_of ht]
  simp [sizeOf, typeInfo, hi, hz.2.1, sliced, Result.andThen]
end
theorem C_lo {α : Type} {d : Kd α} {W : World} {A : Option Addr} {n c a : Nat} {l : List α} (h : d.C W A n l) (ha : a ≤ n) (hc : n ≤ c) : d.C W (if c = a then A else A.map (·.add (a * d.sz))) (n - a) (l.drop a) := by
  obtain rfl : l.length = n := h.1
  have := Kd.C_drop (m := a) (c := c) h ha hc
  rwa [List.length_drop] at this
namespace Sep
section
variable {w0 W W' : World} {F : List HP} {P : Program} {ops : Array Oper} {rest : List Oper} {o : Oper} {a : Act} {Q : Exit → Act → World → Prop} {sz : Nat}
theorem rowC' {α : Type} {d : Kd α} {e n c : Nat} {A : Option Addr} {xs : List α} (h : Sep w0 W (Row d e (.slice A n c) xs :: F)) : d.C W A n xs := by
  have h1 := h.rowC
  have := h1.2.2
  rwa [← h1.1] at this
end
end Sep
end Go.Proofs.Ytjngnigelkgekaa.Kit
namespace Go.Proofs.Ytjngnigelkgekaa.Sum
set_option linter.unusedVariables false
set_option linter.unusedSimpArgs false
open Go.RowKit Go.Proofs.YtjngnigelkgekaaW.PrintWords Go.Proofs.YtjngnigelkgekaaW.PrintLast Go.Proofs.YtjngnigelkgekaaW.PrintMore Go.Proofs.Ytjngnigelkgekaa.Kit Go.Proofs.Ytjngnigelkgekaa.Plain
theorem step_ (h x : Int) (w : World) : Calls Try.prog 126 #[.int .u32 h, .int .u8 x] w fun e w' => e = .returned (.int .u32 (stepF h x)) ∧ w = w' := by
  go_enter Try.func126, Try.ntmps126
  go_wp2
  go_ret
  exact ⟨by unfold stepF; simp [u32_mod], rfl⟩
set_option maxHeartbeats 400000 in
theorem of_ {A : Option Addr} {n c : Nat} {l : List Int} {w : World} (hr : B8.C w A n l) : Calls Try.prog 90 #[.slice A n c] w fun e w' => e = .returned (.int .u32 (sumF l)) ∧ w = w' := by
  obtain rfl : l.length = n := hr.1
  have hm : l.length ≤ 9223372036854775807 := hr.2.1
  have HR := Aside0.mk hr
  clear hr
  go_enter Try.func90, Try.ntmps90
  go_wp2_with fail
  go_loopg [3, 8] l.length (fun k s p wr => ∃ j : Nat, p = .int .i64 (j : Int) ∧ j + k = l.length ∧ s = .int .u32 (sumF (l.take j)) ∧ w = wr)
  case atStart => exact ⟨0, rfl, by omega, rfl, rfl⟩
  case round =>
    obtain ⟨j, rfl, hjk, rfl, rfl⟩ := hrel
    have AK := Aside0.mk hjk
    by_cases hj : j < l.length
    · obtain ⟨ad, hA, hc⟩ := Kd.at_int HR.out (j : Int) (by omega) (by omega)
      subst hA
      rw [Int.toNat_natCast] at hc
      have AT := Aside0.mk (take_snoc hj)
      generalize rd l (j : Int) = x at *
      clear hjk
      go_wp2_with fail
      refine (step_ _ x _).mono ?_
      rintro e w' ⟨rfl, rfl⟩
      go_wp2_with fail
      go_roundg (gk - 1)
      case measure => have := AK.out; omega
      case rel => exact ⟨j + 1, by go_num, by have := AK.out; omega, by rw [AT.out, sumF_snoc], rfl⟩
    · have hjn : j = l.length := by omega
      subst hjn
      rw [List.take_length] 
      clear hjk AK
      go_wp2_with fail
      go_ret
      exact ⟨by first | rfl | (simp; done), rfl⟩
end Go.Proofs.Ytjngnigelkgekaa.Sum
