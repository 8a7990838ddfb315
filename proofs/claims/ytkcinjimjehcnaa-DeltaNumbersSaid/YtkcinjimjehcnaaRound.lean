/- A region that draws its order, in a round of a range over a function. What lies beside the cells, as a resource. -/
import Derived.RangeFuncNested
import Derived.RangeFuncBound
import Derived.RangeFuncCalls
import Derived.RangeFuncLeaves
import Derived.Shelf.Abstract
import Derived.WalkKit
import Derived.OwnWalkIn
import Derived.TacticsInMore
import Derived.LoopNIn
import Derived.LoopIn
import Derived.Test.YtkcinjimjehcnaaRowF
namespace Go.Proofs.Ytkcinjimjehcnaa.Kit
set_option linter.unusedVariables false
set_option linter.unusedSimpArgs false
open Go.RowKit Go.Proofs.YtkcinjimjehcnaaW.PrintWords Go.Proofs.YtkcinjimjehcnaaW.PrintLast Go.Proofs.YtkcinjimjehcnaaW.PrintMore
section
variable {P : Program} {ops : Array Oper} {Q : Exit → Act → World → Prop} {md : Region.Mode} {l n : Nat}
theorem rows_round {row : String} {args : Array Value} {w : World} {R : Value → World → Prop} (h : Rows P row args w R) : RowsIn (Fence.wide.inRound l) n P row args w R :=
  fun c cs _ => let ⟨v, w', r, s⟩ := h c cs; ⟨v, w', r, stepsIn_wide.2 s⟩
theorem upon_round {o : Oper} {a : Act} {next : Act → World → Prop} : ∀ {r : Result Next}, o.upon P a next Q r → o.uponIn (Fence.wide.inRound l) n P a next Q r
  | .ok (.value v) w', h => h
  | .ok .skip w', h => h
  | .ok (.defer d) w', h => h
  | .ok (.enter f args) w', h => ⟨fun hh => by simp [Fence.wide] at hh, CallsIn.inRound l (callsIn_wide.2 h)⟩
  | .ok (.row row args) w', h => ⟨fun hh => by simp [Fence.wide] at hh, rows_round h⟩
  | .halt (.panic v) w', h => h
theorem op_round {i : Nat} {a : Act} {w : World} {K K' : Act → World → Prop} (hQ : ¬ LetsOut Q) (hd : ∀ (i : Nat) (o : Oper), ops[i]? = some o → ∀ c, o.op ≠ .defer c) (hk : ∀ a w, K a w → K' a w) (h : wpOp P ops Q i K a w) : wpOpIn (Fence.wide.inRound l) n P ops Q i K' a w := by
  unfold wpOp at h
  unfold wpOpIn
  cases ho : ops[i]? with
  | none => rw [ho] at h; exact hk _ _ h
  | some o =>
    rw [ho] at h
    simp only at h ⊢
    split at h
    · rename_i hw
      rw [if_pos hw]
      rcases h with h | h
      · have h2 : o.wp P a w K' Q := Oper.wp_mono hk h
        refine ⟨fun f _ => trivial, ?_⟩
        rw [show (Fence.wide.inRound l).round = some l from rfl, Oper.semAt_some l _ _ (hd i o ho)]
        exact upon_round h2
      · exact absurd h.2 hQ
    · rename_i hw
      rw [if_neg hw]
      exact ⟨fun f _ => trivial, hk _ _ h⟩
theorem any_round (hQ : ¬ LetsOut Q) (hd : ∀ (i : Nat) (o : Oper), ops[i]? = some o → ∀ c, o.op ≠ .defer c) : ∀ (fuel : Nat) (listed : Array Bool) (a : Act) (w : World), wpAny P md ops Q fuel listed a w → wpAnyIn (Fence.wide.inRound l) n P md ops Q fuel listed a w
  | 0, _, _, _, h => h
  | fuel + 1, _, _, _, h => ⟨h.1, fun i hi => op_round hQ hd (fun a' w' h' => any_round hQ hd fuel _ a' w' h') (h.2 i hi)⟩
theorem startR_ {S : World → Prop} {ds : List Nat} {id : Nat} {a : Act} {w : World} (hQ : ¬ LetsOut Q) (hd : ∀ (i : Nat) (o : Oper), ops[i]? = some o → ∀ c, o.op ≠ .defer c) (hm : P.follows .mixedOrders = true)
    (h : wpAnyLast P .any ops Q S ds ops.size (Array.replicate ops.size false) a w.drew) : (Code.region id ops true).wpIn (Fence.wide.inRound l) n P Q a w :=
  wpIn_region_any hm (any_round hQ hd _ _ _ _ (wpAny_of_last _ _ _ _ h))
theorem startN_ {S : World → Prop} {ds : List Nat} {m : Nat} {a : Act} {w : World} (lst : Array Bool) (hn : ops.size = m) (hl : Array.replicate m false = lst) (hS : S w.drew)
    (h : S w.drew → wpAnyLast P .any ops Q S ds m lst a w.drew) : wpAnyLast P .any ops Q S ds ops.size (Array.replicate ops.size false) a w.drew := by
  subst hn
  subst hl
  exact h hS
end
def noDeferB (ops : Array Oper) : Bool := ops.all (fun o => match o.op with | .defer _ => false | _ => true)
theorem noDefer_of {ops : Array Oper} (h : noDeferB ops = true) : ∀ (i : Nat) (o : Oper), ops[i]? = some o → ∀ c, o.op ≠ .defer c := fun i o ho c hc => by
  have h1 := Array.all_eq_true_iff_forall_mem.1 h o (Array.mem_of_getElem? ho)
  rw [hc] at h1
  cases h1
/-- All blocks from B on that are no cells, as they lie in W0. -/
def Nc (W0 : World) (B : Nat) : HP where
  P W ok := (∀ k, ok k ↔ (B ≤ k ∧ ∃ o, W0.heap[k]? = some o ∧ o.isCells = false)) ∧ ∀ k, ok k → W.heap[k]? = W0.heap[k]?
  loc := fun h hm => ⟨h.1, fun k hk => (hm k hk).trans (h.2 k hk)⟩
  bnd := fun {W ok} h k hk => by
    obtain ⟨_, o, ho, _⟩ := (h.1 k).1 hk
    exact blk_lt ((h.2 k hk).trans ho)
/-- A resource that may be told of blocks of cells alone. -/
def CellsOnly (p : HP) : Prop := ∀ (W : World) (ok : Nat → Prop), p.P W ok → ∃ ok' : Nat → Prop, p.P W ok' ∧ (∀ k, ok' k → ok k) ∧ ∀ k, ok' k → ∃ cs t fr, W.heap[k]? = some (.cells cs t fr)
theorem cellsOnly_blk (g : Nat) (t : TypeId) (cs : Array Value) : CellsOnly (Blk g t cs) := fun W ok h => ⟨ok, h, fun _ hk => hk, fun k hk => by
  rw [(h.1 k).1 hk]; exact ⟨_, _, _, h.2⟩⟩
theorem cellsOnly_row {α : Type} (d : Kd α) (e : Nat) (v : Value) (xs : List α) : CellsOnly (Row d e v xs) := fun W ok h => by
  refine ⟨_, ⟨Kd.R_bound h.1, fun k hk => hk.2.2.1⟩, fun k hk => hk.1, fun k hk => ?_⟩
  obtain ⟨_, _, _, q, _, cells, hc⟩ := hk
  exact ⟨_, _, _, hc⟩
theorem sepR_cells {W : World} : ∀ {L : List HP} {av : Nat → Prop}, (∀ p ∈ L, CellsOnly p) → SepR W av L → SepR W (fun k => av k ∨ ∃ o, W.heap[k]? = some o ∧ o.isCells = false) L
  | [], _, _, _ => trivial
  | p :: L, av, hL, ⟨ok, hp, hd, h⟩ => by
    obtain ⟨ok', hp', hs, hc⟩ := hL p (List.mem_cons_self ..) W ok hp
    refine ⟨ok', hp', fun k hk ha => ?_, ?_⟩
    · rcases ha with ha | ⟨o, ho, hn⟩
      · exact hd k (hs k hk) ha
      · obtain ⟨cs, t, fr, hcc⟩ := hc k hk
        rw [ho] at hcc
        cases hcc
        simp [Obj.isCells] at hn
    · have h2 := sepR_cells (fun q hq => hL q (List.mem_cons_of_mem _ hq)) h
      refine h2.weaken (fun k hk => ?_)
      rcases hk with (h3 | h3) | h3
      · exact .inl (.inl h3)
      · exact .inr h3
      · exact .inl (.inr (hs k h3))
namespace Sep
variable {w0 W W' : World} {B : Nat} {L L' : List HP}
/-- The turn of a block that is no cells and lies behind what was there. -/
theorem turned (hL : ∀ p ∈ L, CellsOnly p) (h : Sep w0 W L) (hB : w0.heap.size ≤ B) {row : Option Nat} (hg : W.grownBy W' row) (hr : ∀ r, row = some r → B ≤ r ∧ ∃ o : Obj, W.heap[r]? = some o ∧ o.isCells = false) : Sep w0 W' L := by
  have hne : ∀ k, k < w0.heap.size → row ≠ some k := fun k hk he => by have := (hr k he).1; omega
  refine ⟨hg.os.trans h.os, hg.tape.trans h.tape, hg.output.trans h.output, Nat.le_trans h.size hg.size, fun k hk => (hg.block k (Nat.lt_of_lt_of_le hk h.size) (fun he => hne k hk he.symm)).trans (h.old k hk), ?_⟩
  refine ((sepR_cells hL h.sep).move (W' := W') (fun k hk hn => hg.block k hk (fun he => hn (.inr (hr k he.symm).2)))).weaken (fun k hk => .inl hk)
/-- Into a round: all that is no cells is beside. -/
theorem roundIn (hL : ∀ p ∈ L, CellsOnly p) (h : Sep w0 W L) (hB : w0.heap.size ≤ B) : Sep w0 W (Nc W B :: L) := by
  refine ⟨h.os, h.tape, h.output, h.size, h.old, fun k => B ≤ k ∧ ∃ o, W.heap[k]? = some o ∧ o.isCells = false, ⟨fun _ => Iff.rfl, fun _ _ => rfl⟩, fun k hk ha => by have := hk.1; omega, ?_⟩
  exact (sepR_cells hL h.sep).weaken (fun k hk => hk.elim .inl (fun h2 => .inr h2.2))
theorem roundOut {F : List HP} (h : Sep w0 W' (Nc W B :: F)) (hs : W.heap.size ≤ W'.heap.size) : KeepsFrom B W W' := by
  obtain ⟨ok, hp, _⟩ := h.sep
  exact ⟨hs, fun k o hB hk ho => (hp.2 k ((hp.1 k).2 ⟨hB, o, hk, ho⟩)).trans hk⟩
end Sep
end Go.Proofs.Ytkcinjimjehcnaa.Kit
