/- Round, Chunk, Delta2, Delta3, DeltaRead1, RefD1: what StoreKeeps needs. -/
import Derived.Test.YtjngnigelkgekaaGreatTstoreKeeps12
import Derived.RangeFuncNested
import Derived.RangeFuncBound
import Derived.RangeFuncCalls
import Derived.RangeFuncLeaves
import Derived.Shelf.Abstract
import Derived.WalkKit
import Derived.OwnWalkIn
import Derived.TacticsInMore
import Derived.LoopNIn
import Derived.LoopIn
import Derived.Deep.AppendLies
namespace Go.Proofs.YtjngnigelkgekaaGreat.Kit
set_option linter.unusedVariables false
set_option linter.unusedSimpArgs false
open Go.RowKit Go.Proofs.YtjngnigelkgekaaGreatW.PrintWords Go.Proofs.YtjngnigelkgekaaGreatW.PrintLast Go.Proofs.YtjngnigelkgekaaGreatW.PrintMore
section
variable {P : Program} {ops : Array Oper} {Q : Exit → Act → World → Prop} {md : Region.Mode} {l n : Nat}
theorem rows_round {row : String} {args : Array Value} {w : World} {R : Value → World → Prop} (h : Rows P row args w R) : RowsIn (Fence.wide.inRound l) n P row args w R :=
  fun c cs _ => let ⟨v, w', r, s⟩ := h c cs; ⟨v, w', r, stepsIn_wide.2 s⟩
theorem upon_round {o : Oper} {a : Act} {next : Act → World → Prop} : ∀ {r : Result Next}, o.upon P a next Q r → o.uponIn (Fence.wide.inRound l) n P a next Q r
  | .ok (.value v) w', h => h
  | .ok .skip w', h => h
  | .ok (.defer d) w', h => h
  | .ok (.enter f args) w', h => ⟨fun hh => by simp [Fence.wide] at hh, CallsIn.inRound l (callsIn_wide.2 h)⟩
  | .ok (.row row args) w', h => ⟨fun hh => by simp [Fence.wide] at hh, rows_round h⟩
  | .halt (.panic v) w', h => h
theorem op_round {i : Nat} {a : Act} {w : World} {K K' : Act → World → Prop} (hQ : ¬ LetsOut Q) (hd : ∀ (i : Nat) (o : Oper), ops[i]? = some o → ∀ c, o.op ≠ .defer c) (hk : ∀ a w, K a w → K' a w) (h : wpOp P ops Q i K a w) : wpOpIn (Fence.wide.inRound l) n P ops Q i K' a w := by
  unfold wpOp at h
  unfold wpOpIn
  cases ho : ops[i]? with
  | none => rw [ho] at h; exact hk _ _ h
  | some o =>
    rw [ho] at h
    simp only at h ⊢
    split at h
    · rename_i hw
      rw [if_pos hw]
      rcases h with h | h
      · have h2 : o.wp P a w K' Q := Oper.wp_mono hk h
        refine ⟨fun f _ => trivial, ?_⟩
        rw [show (Fence.wide.inRound l).round = some l from rfl, Oper.semAt_some l _ _ (hd i o ho)]
        exact upon_round h2
      · exact absurd h.2 hQ
    · rename_i hw
      rw [if_neg hw]
      exact ⟨fun f _ => trivial, hk _ _ h⟩
theorem any_round (hQ : ¬ LetsOut Q) (hd : ∀ (i : Nat) (o : Oper), ops[i]? = some o → ∀ c, o.op ≠ .defer c) : ∀ (fuel : Nat) (listed : Array Bool) (a : Act) (w : World), wpAny P md ops Q fuel listed a w → wpAnyIn (Fence.wide.inRound l) n P md ops Q fuel listed a w
  | 0, _, _, _, h => h
  | fuel + 1, _, _, _, h => ⟨h.1, fun i hi => op_round hQ hd (fun a' w' h' => any_round hQ hd fuel _ a' w' h') (h.2 i hi)⟩
theorem startR_ {S : World → Prop} {ds : List Nat} {id : Nat} {a : Act} {w : World} (hQ : ¬ LetsOut Q) (hd : ∀ (i : Nat) (o : Oper), ops[i]? = some o → ∀ c, o.op ≠ .defer c) (hm : P.follows .mixedOrders = true)
    (h : wpAnyLast P .any ops Q S ds ops.size (Array.replicate ops.size false) a w.drew) : (Code.region id ops true).wpIn (Fence.wide.inRound l) n P Q a w :=
  wpIn_region_any hm (any_round hQ hd _ _ _ _ (wpAny_of_last _ _ _ _ h))
theorem startN_ {S : World → Prop} {ds : List Nat} {m : Nat} {a : Act} {w : World} (lst : Array Bool) (hn : ops.size = m) (hl : Array.replicate m false = lst) (hS : S w.drew)
    (h : S w.drew → wpAnyLast P .any ops Q S ds m lst a w.drew) : wpAnyLast P .any ops Q S ds ops.size (Array.replicate ops.size false) a w.drew := by
  subst hn
  subst hl
  exact h hS
end
def noDeferB (ops : Array Oper) : Bool := ops.all (fun o => match o.op with | .defer _ => false | _ => true)
theorem noDefer_of {ops : Array Oper} (h : noDeferB ops = true) : ∀ (i : Nat) (o : Oper), ops[i]? = some o → ∀ c, o.op ≠ .defer c := fun i o ho c hc => by
  have h1 := Array.all_eq_true_iff_forall_mem.1 h o (Array.mem_of_getElem? ho)
  rw [hc] at h1
  cases h1
def Nc (W0 : World) (B : Nat) : HP where
  P W ok := (∀ k, ok k ↔ (B ≤ k ∧ ∃ o, W0.heap[k]? = some o ∧ o.isCells = false)) ∧ ∀ k, ok k → W.heap[k]? = W0.heap[k]?
  loc := fun h hm => ⟨h.1, fun k hk => (hm k hk).trans (h.2 k hk)⟩
  bnd := fun {W ok} h k hk => by
    obtain ⟨_, o, ho, _⟩ := (h.1 k).1 hk
    exact blk_lt ((h.2 k hk).trans ho)
def CellsOnly (p : HP) : Prop := ∀ (W : World) (ok : Nat → Prop), p.P W ok → ∃ ok' : Nat → Prop, p.P W ok' ∧ (∀ k, ok' k → ok k) ∧ ∀ k, ok' k → ∃ cs t fr, W.heap[k]? = some (.cells cs t fr)
theorem cellsOnly_blk (g : Nat) (t : TypeId) (cs : Array Value) : CellsOnly (Blk g t cs) := fun W ok h => ⟨ok, h, fun _ hk => hk, fun k hk => by
  rw [(h.1 k).1 hk]; exact ⟨_, _, _, h.2⟩⟩
theorem cellsOnly_row {α : Type} (d : Kd α) (e : Nat) (v : Value) (xs : List α) : CellsOnly (Row d e v xs) := fun W ok h => by
  refine ⟨_, ⟨Kd.R_bound h.1, fun k hk => hk.2.2.1⟩, fun k hk => hk.1, fun k hk => ?_⟩
  obtain ⟨_, _, _, q, _, cells, hc⟩ := hk
  exact ⟨_, _, _, hc⟩
theorem sepR_cells {W : World} : ∀ {L : List HP} {av : Nat → Prop}, (∀ p ∈ L, CellsOnly p) → SepR W av L → SepR W (fun k => av k ∨ ∃ o, W.heap[k]? = some o ∧ o.isCells = false) L
  | [], _, _, _ => trivial
  | p :: L, av, hL, ⟨ok, hp, hd, h⟩ => by
    obtain ⟨ok', hp', hs, hc⟩ := hL p (List.mem_cons_self ..) W ok hp
    refine ⟨ok', hp', fun k hk ha => ?_, ?_⟩
    · rcases ha with ha | ⟨o, ho, hn⟩
      · exact hd k (hs k hk) ha
      · obtain ⟨cs, t, fr, hcc⟩ := hc k hk
        rw [ho] at hcc
        cases hcc
        simp [Obj.isCells] at hn
    · have h2 := sepR_cells (fun q hq => hL q (List.mem_cons_of_mem _ hq)) h
      refine h2.weaken (fun k hk => ?_)
      rcases hk with (h3 | h3) | h3
      · exact .inl (.inl h3)
      · exact .inr h3
      · exact .inl (.inr (hs k h3))
namespace Sep
variable {w0 W W' : World} {B : Nat} {L L' : List HP}
theorem turned (hL : ∀ p ∈ L, CellsOnly p) (h : Sep w0 W L) (hB : w0.heap.size ≤ B) {row : Option Nat} (hg : W.grownBy W' row) (hr : ∀ r, row = some r → B ≤ r ∧ ∃ o : Obj, W.heap[r]? = some o ∧ o.isCells = false) : Sep w0 W' L := by
  have hne : ∀ k, k < w0.heap.size → row ≠ some k := fun k hk he => by have := (hr k he).1; omega
  refine ⟨hg.os.trans h.os, hg.tape.trans h.tape, hg.output.trans h.output, Nat.le_trans h.size hg.size, fun k hk => (hg.block k (Nat.lt_of_lt_of_le hk h.size) (fun he => hne k hk he.symm)).trans (h.old k hk), ?_⟩
  refine ((sepR_cells hL h.sep).move (W' := W') (fun k hk hn => hg.block k hk (fun he => hn (.inr (hr k he.symm).2)))).weaken (fun k hk => .inl hk)
theorem roundIn (hL : ∀ p ∈ L, CellsOnly p) (h : Sep w0 W L) (hB : w0.heap.size ≤ B) : Sep w0 W (Nc W B :: L) := by
  refine ⟨h.os, h.tape, h.output, h.size, h.old, fun k => B ≤ k ∧ ∃ o, W.heap[k]? = some o ∧ o.isCells = false, ⟨fun _ => Iff.rfl, fun _ _ => rfl⟩, fun k hk ha => by have := hk.1; omega, ?_⟩
  exact (sepR_cells hL h.sep).weaken (fun k hk => hk.elim .inl (fun h2 => .inr h2.2))
theorem roundOut {F : List HP} (h : Sep w0 W' (Nc W B :: F)) (hs : W.heap.size ≤ W'.heap.size) : KeepsFrom B W W' := by
  obtain ⟨ok, hp, _⟩ := h.sep
  exact ⟨hs, fun k o hB hk ho => (hp.2 k ((hp.1 k).2 ⟨hB, o, hk, ho⟩)).trans hk⟩
end Sep
end Go.Proofs.YtjngnigelkgekaaGreat.Kit
namespace Go.Proofs.YtjngnigelkgekaaGreat.Delta
set_option linter.unusedVariables false
set_option linter.unusedSimpArgs false
open Go.RowKit Go.Shelf Go.Proofs.YtjngnigelkgekaaGreatW.PrintWords Go.Proofs.YtjngnigelkgekaaGreatW.PrintLast Go.Proofs.YtjngnigelkgekaaGreatW.PrintMore Go.Proofs.YtjngnigelkgekaaGreat.Kit Go.Proofs.YtjngnigelkgekaaGreat.Base
attribute [local go_sem] Oper.semAt_some
def Boxes (W : World) (b1 b2 : Nat) (A : Option Addr) (L c : Nat) : Prop := W.heap[b1]? = some (.cells #[.slice A L c] 24 (0, 0)) ∧ W.heap[b2]? = some (.cells #[.int .i64 66] 3 (0, 0))
def Kq (b1 b2 : Nat) (W W' : World) : Prop := W'.heap[b1]? = W.heap[b1]? ∧ W'.heap[b2]? = W.heap[b2]?
theorem Boxes.keep {W W' : World} {b1 b2 : Nat} {A : Option Addr} {L c : Nat} (h : Boxes W b1 b2 A L c) (k : Kq b1 b2 W W') : Boxes W' b1 b2 A L c := ⟨k.1.trans h.1, k.2.trans h.2⟩
theorem num0 {k : IntKind} {a b : Int} (h : a = b) : Value.int k a = .int k b := by rw [h]
def encC (m : Nat) (A : Option Addr) (i : Fin m) : Array Value := #[.slice (A.map (·.add (66 * i.1))) 66 66]
set_option maxHeartbeats 1600000 in
set_option maxRecDepth 100000 in
theorem chunk1_in (n : Nat) (hn : 1 ≤ n) {m b1 b2 c L : Nat} {A : Option Addr} {w : World} (hL : 66 * m = L) (hb : Boxes w b1 b2 A L c) (hc : L ≤ c) (hm : m ≤ 1000000) :
    SeqStopsK Fence.wide n Tryz.prog 156 #[.pointer (some ⟨b1, 0, none⟩), .pointer (some ⟨b2, 0, none⟩)] (encC m A) (Kq b1 b2) (fun xs => xs = List.finRange m) (fun _ => True) m w := by
  subst hL
  intro l J Jx W hW hJ hJx hY h0
  have hb1 : b1 < w.heap.size := blk_lt hb.1
  have hb2 : b2 < w.heap.size := blk_lt hb.2
  have hBW : Boxes W b1 b2 A (66 * m) c := ⟨(hW.block b1 hb1).trans hb.1, (hW.block b2 hb2).trans hb.2⟩
  have ABW := Aside0.mk hBW
  have AY := Aside0.mk hY
  have AJ := Aside0.mk hJ
  clear hb hb1 hb2 hBW hY hW
  refine callsIn_of_wp Tryz.func156 rfl trivial ?_ rfl
  simp only [Tryz.ntmps156, List.size_toArray, List.length_cons, List.length_nil, Nat.reduceAdd, Nat.reduceSub, Array.replicate_succ, Array.replicate_zero, List.push_toArray, List.append_toArray, List.nil_append, List.cons_append]
  gi_wp2
  gi_loopw [4] (fun p wr => ∃ k : Nat, p = .int .i64 (66 * (k : Int)) ∧ k ≤ m ∧ Boxes wr b1 b2 A (66 * m) c ∧ J ((List.finRange m).take k) wr) (fun p wr => 66 * m - (intOf p).toNat)
  case atStart => exact ⟨0, rfl, Nat.zero_le _, ABW.out, h0⟩
  case round =>
    obtain ⟨k, rfl, hk, hB, hJk⟩ := hrel
    have AB := Aside0.mk hB
    have AJk := Aside0.mk hJk
    have d1 : wr.cell? ⟨b1, 0, none⟩ = some (.slice A (66 * m) c) := blk_cell hB.1 0
    by_cases hlt : k < m
    · have d2 : wr.drew.cell? ⟨b2, 0, none⟩ = some (.int .i64 66) := blk_cell (w := wr.drew) hB.2 0
      have d1' : wr.drew.cell? ⟨b1, 0, none⟩ = some (.slice A (66 * m) c) := blk_cell (w := wr.drew) hB.1 0
      obtain ⟨A', hcut⟩ := cut1 A (66 * m) c (66 * k) (by omega) hc
      have hcut3 := cut3 A (66 * m) c (66 * k) (66 * k + 66) (66 * k + 66) (by omega) (Nat.le_refl _) (by omega) (by omega)
      rw [show ((66 * k : Nat) : Int) = 66 * (k : Int) by omega] at hcut
      rw [show ((66 * k : Nat) : Int) = 66 * (k : Int) by omega, show ((66 * k + 66 : Nat) : Int) = 66 * (k : Int) + 66 by omega, Nat.add_sub_cancel_left] at hcut3
      obtain ⟨fn, tmps, assign, body, hy, hR⟩ := AY.out ((List.finRange m).take k) ⟨k, hlt⟩ wr.drew (AJ.out _ _ _ none hJk ⟨rfl, rfl, rfl, Nat.le_refl _, fun _ _ _ => rfl⟩ (fun r h => by cases h)) (by rw [List.length_take, List.length_finRange]; omega)
      unfold encC at hy
      dsimp only at hy
      have hmin : min (66 : Int) (((66 * m - 66 * k : Nat) : Int)) = 66 := by omega
      have AR := Aside0.mk hR
      clear hB hJk hR
      gi_wp2
      refine wpIn_wide.2 ?_
      refine start_ (n := 7) (S := fun w' => w'.cell? ⟨b1, 0, none⟩ = some (.slice A (66 * m) c) ∧ w'.cell? ⟨b2, 0, none⟩ = some (.int .i64 66)) (ds := []) #[false, false, false, false, false, false, false] (by kernel_rfl) rfl rfl ⟨d1', d2⟩ (fun hHeld => ?_)
      refine pure_ (i := 2) (N := some 15) (v := ?_) (a' := ?_) #[false, false, true, false, false, false, false] rfl rfl (by kernel_rfl) (fun _ _ _ h => h) (Or.inl ⟨by rfl, ?_⟩) ?_ ?_
      rotate_left
      · intro w'
        go_simp
        with_reducible rfl
      rotate_left
      · simp only [Act.put, List.setIfInBounds_toArray, List.set_cons_zero, List.set_cons_succ, i64_w, i32_w]
        rfl
      refine take_ (i := 0) (N := some 13) (v := ?_) (a' := ?_) #[true, false, true, false, false, false, false] rfl rfl (by kernel_rfl) (fun _ _ _ h => h) (Or.inl ⟨by rfl, ?_⟩) hHeld ?_ ?_
      rotate_left
      · rintro w' ⟨s0, s1⟩
        go_simp
        with_reducible rfl
      rotate_left
      · simp only [Act.put, List.setIfInBounds_toArray, List.set_cons_zero, List.set_cons_succ, i64_w, i32_w]
        rfl
      refine take_ (i := 1) (N := some 14) (v := ?_) (a' := ?_) #[true, true, true, false, false, false, false] rfl rfl (by kernel_rfl) (fun _ _ _ h => h) (Or.inl ⟨by rfl, ?_⟩) hHeld ?_ ?_
      rotate_left
      · rintro w' ⟨s0, s1⟩
        go_simp
        with_reducible rfl
      rotate_left
      · simp only [Act.put, List.setIfInBounds_toArray, List.set_cons_zero, List.set_cons_succ, i64_w, i32_w]
        rfl
      refine pure_ (i := 3) (N := some 16) (v := ?_) (a' := ?_) #[true, true, true, true, false, false, false] rfl rfl (by kernel_rfl) (fun _ _ _ h => h) (Or.inl ⟨by rfl, ?_⟩) ?_ ?_
      rotate_left
      · intro w'
        go_simp
        with_reducible rfl
      rotate_left
      · simp only [Act.put, List.setIfInBounds_toArray, List.set_cons_zero, List.set_cons_succ, i64_w, i32_w]
        rfl
      refine pure_ (i := 4) (N := some 17) (v := ?_) (a' := ?_) #[true, true, true, true, true, false, false] rfl rfl (by kernel_rfl) (fun _ _ _ h => h) (Or.inl ⟨by rfl, ?_⟩) ?_ ?_
      rotate_left
      · intro w'
        go_simp
        with_reducible rfl
      rotate_left
      · simp only [Act.put, List.setIfInBounds_toArray, List.set_cons_zero, List.set_cons_succ, i64_w, i32_w]
        rfl
      refine pure_ (i := 5) (N := some 18) (v := ?_) (a' := ?_) #[true, true, true, true, true, true, false] rfl rfl (by kernel_rfl) (fun _ _ _ h => h) (Or.inl ⟨by rfl, ?_⟩) ?_ ?_
      rotate_left
      · intro w'
        go_simp
        with_reducible rfl
      rotate_left
      · simp only [Act.put, List.setIfInBounds_toArray, List.set_cons_zero, List.set_cons_succ, i64_w, i32_w]
        rfl
      refine pure_ (i := 6) (N := some 5) (v := ?_) (a' := ?_) #[true, true, true, true, true, true, true] rfl rfl (by kernel_rfl) (fun _ _ _ h => h) (Or.inl ⟨by rfl, ?_⟩) ?_ ?_
      rotate_left
      · intro w'
        go_simp
        with_reducible rfl
      rotate_left
      · simp only [Act.put, List.setIfInBounds_toArray, List.set_cons_zero, List.set_cons_succ, i64_w, i32_w]
        rfl
      refine done_ (by kernel_rfl) ?_
      gi_wp2
      refine AR.out.mono ?_
      rintro e W3 (⟨rfl, hJ3, hk3⟩ | ⟨rfl, hJx3⟩)
      · have hB3 : Boxes W3 b1 b2 A (66 * m) c := AB.out.keep hk3
        have q2 : W3.cell? ⟨b2, 0, none⟩ = some (.int .i64 66) := blk_cell hB3.2 0
        have htk : (List.finRange m).take (k + 1) = (List.finRange m).take k ++ [⟨k, hlt⟩] := by
          rw [List.take_add_one, List.getElem?_eq_getElem (by rw [List.length_finRange]; exact hlt), List.getElem_finRange]
          rfl
        have AK := Aside0.mk (And.intro hB3 (And.intro hJ3 htk))
        clear hB3 hJ3 hk3 htk hy hcut hcut3 hmin d1' d2
        gi_wp2
        go_roundw
        case rel => exact ⟨k + 1, num0 (by omega), hlt, AK.out.1, by rw [AK.out.2.2]; exact AK.out.2.1⟩
        case measure => simp [intOf]; omega
      · clear hy hcut hcut3 hmin
        gi_wp2
        refine bodyPost_ret (results_none rfl _ _ _) rfl ?_
        exact ⟨⟨_, rfl⟩, .inr ⟨_, trivial, hJx3⟩⟩
    · have hkm : k = m := by omega
      subst hkm
      rw [List.take_of_length_le (by rw [List.length_finRange]; exact Nat.le_refl _)] at hJk
      have AJm := Aside0.mk hJk
      clear hB hJk AJk hk hlt
      gi_wp2
      go_end0
      exact ⟨⟨_, rfl⟩, .inl ⟨_, rfl, AJm.out⟩⟩
set_option maxHeartbeats 400000 in
theorem chunk_ {A : Option Addr} {n c : Nat} (w : World) : Calls Tryz.prog 149 #[.slice A n c, .int .i64 66] w fun e w' =>
    e = .returned (.func (.func 156) #[] #[.pointer (some ⟨w.heap.size, 0, none⟩), .pointer (some ⟨w.heap.size + 1, 0, none⟩)]) ∧ w' = (w.alloc (.cells #[.slice A n c] 24)).alloc (.cells #[.int .i64 66] 3) := by
  have hmf : ∀ (fn : Fn) (first cap : Array Value) (w : World), (Instr.makeFunc fn first cap).run Tryz.prog w = .ok (.func fn first cap) w := fun _ _ _ _ => rfl
  go_enter Tryz.func149, Tryz.ntmps149
  go_wp2
  go_ret
  exact ⟨by first | rfl | (simp; done), rfl⟩
end Go.Proofs.YtjngnigelkgekaaGreat.Delta
namespace Go.Proofs.YtjngnigelkgekaaGreat.Delta
set_option linter.unusedVariables false
set_option linter.unusedSimpArgs false
open Go.RowKit Go.Proofs.YtjngnigelkgekaaGreatW.PrintWords Go.Proofs.YtjngnigelkgekaaGreatW.PrintLast Go.Proofs.YtjngnigelkgekaaGreatW.PrintMore Go.Proofs.YtjngnigelkgekaaGreat.Kit Go.Proofs.YtjngnigelkgekaaGreat.Base Go.Proofs.YtjngnigelkgekaaGreat.Plain
theorem okF_drop {pages last : Int} {l : List Chg} {j : Nat} (h : j < l.length) : okF pages last (l.drop j) = (decide (¬ (l[j]).1 ≤ last ∧ ¬ pages ≤ (l[j]).1 ∧ (l[j]).2.length = 64) && okF pages (l[j]).1 (l.drop (j + 1))) := by
  rw [List.drop_eq_getElem_cons h]; rfl
set_option maxHeartbeats 1600000 in
set_option maxRecDepth 100000 in
theorem right_ {A : Option Addr} {n c : Nat} {l : List Chg} {w : World} (hr : KC.C w A n l) (pages : Int) :
    Calls Tryz.prog 69 #[.slice A n c, .int .i64 pages] w fun e w' => e = .returned (.bool (rightF l pages)) ∧ Below w.heap.size w w' := by
  obtain rfl : l.length = n := hr.1
  have hm : l.length ≤ 9223372036854775807 := hr.2.1
  have HR := Aside0.mk hr
  clear hr
  by_cases hp : 64 < pages
  · have hf : rightF l pages = false := by unfold rightF; rw [decide_eq_false (by omega)]; rfl
    have HF := Aside0.mk hf
    clear hf
    go_enter Tryz.func69, Tryz.ntmps69
    go_wp2_with fail
    go_ret
    exact ⟨by rw [HF.out]; first | rfl | (simp; done), Below.refl _ _⟩
  · have hf : rightF l pages = okF pages (-1) l := by unfold rightF; rw [decide_eq_true (by omega)]; rfl
    have HF := Aside0.mk hf
    clear hf
    go_enter Tryz.func69, Tryz.ntmps69
    go_wp2_with fail
    go_loopg [5, 12] l.length (fun m s p wr => ∃ (j : Nat) (last : Int), p = .int .i64 (j : Int) ∧ s = .int .i64 last ∧ j + m = l.length ∧ okF pages (-1) l = okF pages last (l.drop j) ∧ Below w.heap.size w wr)
    case atStart => exact ⟨0, -1, rfl, rfl, by omega, rfl, Below.refl _ _⟩
    case round =>
      obtain ⟨j, last, rfl, rfl, hjm, hok, hB⟩ := hrel
      have AK := Aside0.mk hjm
      have AO := Aside0.mk hok
      have AB := Aside0.mk hB
      by_cases hj : j < l.length
      · obtain ⟨hx, a, B, c2, rfl, e0, e1, e2, e3⟩ := elem2_ (Kd.C_below HR.out hB) hj
        have hdr := okF_drop (pages := pages) (last := last) hj
        have BL := Aside0.mk (((Sep.start w).below hB).newBlk 75 #[.int .i64 (l[j]).1, .slice B (l[j]).2.length c2]).toBelow
        have AD := Aside0.mk hdr
        have hlm : (l[j]).2.length ≤ 9223372036854775807 := e3.2.1
        obtain ⟨pg, hpg⟩ : ∃ pg, (l[j]).1 = pg := ⟨_, rfl⟩
        obtain ⟨bn, hbn⟩ : ∃ bn, (l[j]).2.length = bn := ⟨_, rfl⟩
        rw [hpg] at e0 hdr BL
        rw [hbn] at e1 BL hlm
        have AG := Aside0.mk (And.intro hpg hbn)
        clear hjm hok hB hdr e2 e3 hpg hbn
        by_cases h1 : pg ≤ last
        · have hF : rightF l pages = false := by rw [HF.out, AO.out, AD.out, AG.out.1]; simp [h1]
          have AF := Aside0.mk hF
          clear hF
          go_wp2_with fail
          go_ret
          exact ⟨by rw [AF.out]; first | rfl | (simp; done), BL.out⟩
        · by_cases h2 : pages ≤ pg
          · have hF : rightF l pages = false := by rw [HF.out, AO.out, AD.out, AG.out.1]; simp [h2]
            have AF := Aside0.mk hF
            clear hF
            go_wp2_with fail
            go_ret
            exact ⟨by rw [AF.out]; first | rfl | (simp; done), BL.out⟩
          · by_cases h3 : bn = 64
            · have hok2 : okF pages (-1) l = okF pages pg (l.drop (j + 1)) := by
                rw [AO.out, AD.out, AG.out.1, AG.out.2, decide_eq_true ⟨h1, h2, h3⟩]; rfl
              have AO2 := Aside0.mk hok2
              subst h3
              clear hok2
              go_wp2_with fail
              go_roundg (gk - 1)
              case measure => have := AK.out; omega
              case rel => exact ⟨j + 1, pg, by go_num, rfl, by have := AK.out; omega, AO2.out, BL.out⟩
            · have hF : rightF l pages = false := by rw [HF.out, AO.out, AD.out, AG.out.1, AG.out.2]; simp [h3]
              have AF := Aside0.mk hF
              have h4 : ¬ ((bn : Int) = 64) := by omega
              clear hF
              go_wp2_with fail
              go_ret
              exact ⟨by rw [AF.out]; first | rfl | (simp; done), BL.out⟩
      · have hjn : j = l.length := by omega
        have hT : rightF l pages = true := by rw [HF.out, AO.out, hjn, List.drop_length]; rfl
        have AT := Aside0.mk hT
        clear hT hok hB hjm
        subst hjn
        go_wp2_with fail
        go_ret
        exact ⟨by rw [AT.out]; first | rfl | (simp; done), AB.out⟩
end Go.Proofs.YtjngnigelkgekaaGreat.Delta
namespace Go.Proofs.YtjngnigelkgekaaGreat.Delta
set_option linter.unusedVariables false
set_option linter.unusedSimpArgs false
open Go.RowKit Go.Proofs.YtjngnigelkgekaaGreatW.PrintWords Go.Proofs.YtjngnigelkgekaaGreatW.PrintLast Go.Proofs.YtjngnigelkgekaaGreatW.PrintMore Go.Proofs.YtjngnigelkgekaaGreat.Kit Go.Proofs.YtjngnigelkgekaaGreat.Base Go.Proofs.YtjngnigelkgekaaGreat.Plain
set_option maxHeartbeats 1600000 in
set_option maxRecDepth 100000 in
theorem bytes_ {A : Option Addr} {n c : Nat} {l : List Chg} {w : World} (hr : KC.C w A n l) (hl : (deltaF l).length ≤ 1000000) :
    Calls Tryz.prog 72 #[.slice A n c] w fun e w' => ∃ v, e = .returned v ∧ Sep w w' [Row U8 5 v (deltaF l)] := by
  obtain rfl : l.length = n := hr.1
  have hm : l.length ≤ 9223372036854775807 := hr.2.1
  have HR := Aside0.mk hr
  have A0 := Aside0.mk ((Sep.start w).nilRow U8 5)
  have HL := Aside0.mk hl
  clear hr hl
  go_enter Tryz.func72, Tryz.ntmps72
  go_wp2_with fail
  refine (small_ A0.out (l.length : Int) (by decide)).mono ?_
  rintro e w1 ⟨v1, rfl, hS1⟩
  rw [List.nil_append] at hS1
  have A1 := Aside0.mk hS1
  clear hS1
  go_wp2_with fail
  go_loopg [3, 11] l.length (fun m v p wr => ∃ (j : Nat), p = .int .i64 (j : Int) ∧ j + m = l.length ∧ Sep w wr [Row U8 5 v (two (l.length : Int) ++ (l.take j).flatMap oneF)])
  case atStart => exact ⟨0, rfl, by omega, by simpa using A1.out⟩
  case round =>
    obtain ⟨j, rfl, hjm, hS⟩ := hrel
    have AK := Aside0.mk hjm
    by_cases hj : j < l.length
    · obtain ⟨hx, a, B, c2, rfl, e0, e1, e2, e3⟩ := elem2_ HR.out hj
      replace e0 := cell_later hS.toBelow e0
      replace e1 := cell_later hS.toBelow e1
      have htk := take_get hj
      have hsn : (l.take (j + 1)).flatMap oneF = (l.take j).flatMap oneF ++ (two (l[j]).1 ++ (l[j]).2) := by rw [htk, flat_snoc]
      have hle := flat_take_le l (j + 1)
      have hll := HL.out
      rw [hsn] at hle
      unfold deltaF at hll
      have HE3 := Aside0.mk e3
      have HSN := Aside0.mk hsn
      obtain ⟨pg, hpg⟩ : ∃ pg, (l[j]).1 = pg := ⟨_, rfl⟩
      obtain ⟨bs, hbs⟩ : ∃ bs, (l[j]).2 = bs := ⟨_, rfl⟩
      obtain ⟨bn, hbn⟩ : ∃ bn, bs.length = bn := ⟨_, rfl⟩
      rw [hpg] at e0 hle HSN
      rw [hbs] at e1 hle HSN HE3
      rw [hbn] at e1 HE3
      obtain ⟨pre, hpre⟩ : ∃ pre, two (l.length : Int) ++ (l.take j).flatMap oneF = pre := ⟨_, rfl⟩
      have hpl : pre.length + (2 + bn) ≤ 1000000 := by
        rw [← hpre, ← hbn]
        simp [two] at hle hll ⊢
        omega
      rw [hpre] at hS
      obtain ⟨A3, c3, rfl⟩ := hS.rowV
      have BK := Aside0.mk (hS.newBlk 75 #[.int .i64 pg, .slice B bn c2]).drew
      have z0 : ((wr.alloc (.cells #[.int .i64 pg, .slice B bn c2] 75)).drew).cell? ⟨wr.heap.size, 0, none⟩ = some (.int .i64 pg) := (BK.out.cell 0).trans rfl
      have z1 : ((wr.alloc (.cells #[.int .i64 pg, .slice B bn c2] 75)).drew).cell? ⟨wr.heap.size, 1, none⟩ = some (.slice B bn c2) := (BK.out.cell 1).trans rfl
      have AP := Aside0.mk hpre
      have APL := Aside0.mk hpl
      have ABN := Aside0.mk hbn
      clear hjm hS htk hsn hle hll e2 e3 hpg hbs hbn hpre hpl
      go_wp2_with fail
      refine start_ (n := 8) (S := fun w' => w'.cell? ⟨wr.heap.size, 0, none⟩ = some (.int .i64 pg) ∧ w'.cell? ⟨wr.heap.size, 1, none⟩ = some (.slice B bn c2)) (ds := [6]) #[false, false, false, false, false, false, false, false] (by kernel_rfl) rfl rfl ⟨z0, z1⟩ (fun hHeld => ?_)
      refine pure_ (i := 0) (N := some 15) (v := ?_) (a' := ?_) #[true, false, false, false, false, false, false, false] rfl rfl (by kernel_rfl) (fun _ _ _ h => h) (Or.inl ⟨by rfl, ?_⟩) ?_ ?_
      rotate_left
      · intro w'
        go_simp
        with_reducible rfl
      rotate_left
      · simp only [Act.put, List.setIfInBounds_toArray, List.set_cons_zero, List.set_cons_succ, i64_w, i32_w]
        rfl
      refine pure_ (i := 1) (N := some 16) (v := ?_) (a' := ?_) #[true, true, false, false, false, false, false, false] rfl rfl (by kernel_rfl) (fun _ _ _ h => h) (Or.inl ⟨by rfl, ?_⟩) ?_ ?_
      rotate_left
      · intro w'
        go_simp
        with_reducible rfl
      rotate_left
      · simp only [Act.put, List.setIfInBounds_toArray, List.set_cons_zero, List.set_cons_succ, i64_w, i32_w]
        rfl
      refine pure_ (i := 4) (N := some 19) (v := ?_) (a' := ?_) #[true, true, false, false, true, false, false, false] rfl rfl (by kernel_rfl) (fun _ _ _ h => h) (Or.inl ⟨by rfl, ?_⟩) ?_ ?_
      rotate_left
      · intro w'
        go_simp
        with_reducible rfl
      rotate_left
      · simp only [Act.put, List.setIfInBounds_toArray, List.set_cons_zero, List.set_cons_succ, i64_w, i32_w]
        rfl
      refine take_ (i := 2) (N := some 17) (v := ?_) (a' := ?_) #[true, true, true, false, true, false, false, false] rfl rfl (by kernel_rfl) (fun _ _ _ h => h) (Or.inl ⟨by rfl, ?_⟩) hHeld ?_ ?_
      rotate_left
      · rintro w' ⟨s0, s1⟩
        go_simp
        with_reducible rfl
      rotate_left
      · simp only [Act.put, List.setIfInBounds_toArray, List.set_cons_zero, List.set_cons_succ, i64_w, i32_w]
        rfl
      refine take_ (i := 5) (N := some 20) (v := ?_) (a' := ?_) #[true, true, true, false, true, true, false, false] rfl rfl (by kernel_rfl) (fun _ _ _ h => h) (Or.inl ⟨by rfl, ?_⟩) hHeld ?_ ?_
      rotate_left
      · rintro w' ⟨s0, s1⟩
        go_simp
        with_reducible rfl
      rotate_left
      · simp only [Act.put, List.setIfInBounds_toArray, List.set_cons_zero, List.set_cons_succ, i64_w, i32_w]
        rfl
      refine one_ (i := 3) (N := some 18) #[true, true, true, true, true, true, false, false] rfl rfl (by kernel_rfl) (by decide) (fun K hK => ?_)
      refine goes_ Tryz.func106 (by kernel_rfl) rfl #[.slice A3 pre.length c3, .int .i64 pg] (by rfl) rfl rfl (by simp only [List.map_toArray, List.map_cons, List.map_nil]; rfl) ?_
      with_reducible refine (small_ BK.out.at2 pg (by have := APL.out; omega)).mono ?_
      rintro e w3 ⟨v3, rfl, hS3⟩
      refine ⟨_, rfl, ?_⟩
      have B3 := Aside0.mk hS3
      clear hS3
      refine hK.out _ _ ⟨(B3.out.at2.cell 0).trans rfl, (B3.out.at2.cell 1).trans rfl⟩ (fun hHeld => ?_)
      clear hK K
      refine norm_ (a' := ?_) ?_ ?_
      rotate_left
      · show Act.put _ (some 18) _ = _
        simp only [Act.put, List.setIfInBounds_toArray, List.set_cons_zero, List.set_cons_succ, i64_w, i32_w]
        rfl
      refine last_ (i := 6) (N := some 21) #[true, true, true, true, true, true, true, false] rfl rfl (by kernel_rfl) (by decide) (fun K hK => ?_)
      refine B3.out.appendStep (by rfl) (.tmp 18) (.tmp 20) 24 (.int .u8 0) 1 rfl Tryz.underlying24 infoB rfl (by decide) B bn c2 (by rfl) (by rfl) (Kd.C_below HE3.out B3.out.toBelow) (by have := APL.out; have := ABN.out; simp [two]; omega) ?_
      intro v6 w6 hS6
      have B6 := Aside0.mk hS6.drop2
      clear hS6
      refine hK.out _ _ ?_
      clear hK K
      refine norm_ (a' := ?_) ?_ ?_
      rotate_left
      · show Act.put _ (some 21) _ = _
        simp only [Act.put, List.setIfInBounds_toArray, List.set_cons_zero, List.set_cons_succ, i64_w, i32_w]
        rfl
      refine pure_ (i := 7) (N := some 3) (v := ?_) (a' := ?_) #[true, true, true, true, true, true, true, true] rfl rfl (by kernel_rfl) (fun _ _ _ h => h) (Or.inl ⟨by rfl, ?_⟩) ?_ ?_
      rotate_left
      · intro w'
        go_simp
        with_reducible rfl
      rotate_left
      · simp only [Act.put, List.setIfInBounds_toArray, List.set_cons_zero, List.set_cons_succ, i64_w, i32_w]
        rfl
      refine done_ (by kernel_rfl) ?_
      clear z0 z1
      go_wp2_with fail
      go_roundg (gk - 1)
      case measure => have := AK.out; omega
      case rel => exact ⟨j + 1, by go_num, by have := AK.out; omega, by rw [HSN.out, ← List.append_assoc, AP.out, ← List.append_assoc]; exact Sep.weakR (L := [_]) B6.out⟩
    · have hjn : j = l.length := by omega
      have A5 : Aside0 (Sep w wr [Row U8 5 _ (deltaF l)]) := ⟨by rw [hjn, List.take_length] at hS; exact hS⟩
      subst hjn
      clear hS hjm AK hj
      go_wp2_with fail
      go_ret
      exact ⟨_, by first | rfl | (simp; done), A5.out⟩
end Go.Proofs.YtjngnigelkgekaaGreat.Delta
namespace Go.Proofs.YtjngnigelkgekaaGreat.Delta
set_option linter.unusedVariables false
set_option linter.unusedSimpArgs false
open Go.RowKit Go.Shelf Go.Proofs.YtjngnigelkgekaaGreatW.PrintWords Go.Proofs.YtjngnigelkgekaaGreatW.PrintLast Go.Proofs.YtjngnigelkgekaaGreatW.PrintMore Go.Proofs.YtjngnigelkgekaaGreat.Kit Go.Proofs.YtjngnigelkgekaaGreat.Base Go.Proofs.YtjngnigelkgekaaGreat.Plain
attribute [local go_sem] Oper.semAt_some
def chunkF (b : List Int) (i : Nat) : Chg := (rd b ((2 + 66 * i : Nat) : Int) * 256 + rd b ((3 + 66 * i : Nat) : Int), (b.drop (4 + 66 * i)).take 64)
def countF (b : List Int) : Nat := (rd b 0 * 256 + rd b 1).toNat
def rawF (b : List Int) : List Chg := (List.range (countF b)).map (chunkF b)
def undeltaF (b : List Int) (pages : Int) : Option (List Chg) :=
  if b.length < 2 then none else if b.length ≠ 2 + 66 * countF b then none else if rightF (rawF b) pages then some (rawF b) else none
theorem join64 {x y : Int} (h0 : 0 ≤ x) (h1 : x ≤ 255) (g0 : 0 ≤ y) (g1 : y ≤ 255) : Go.bits .or .i64 (x * 256) y = x * 256 + y :=
  bits_join .i64 16 (by decide) (fun n a b => by rw [IntKind.wrap_i64]; omega) 8 (x * 256) y (by omega) (by omega) (by omega) g0 (by omega) (by omega)
theorem infoCh : (Tryz.prog.info? 75).map (fun i => (i.zero, i.size, i.bytes)) = some (some (.agg #[.int .i64 0, .slice none 0 0]), 2, 32) := by kernel_rfl
theorem byte_at {A : Option Addr} {n : Nat} {b : List Int} {w : World} (hr : U8.C w A n b) {i : Nat} (hi : i < n) : ∃ ad, A = some ad ∧ w.cell? (ad.add i) = some (.int .u8 (rd b (i : Int))) := by
  obtain ⟨ad, hA, hc⟩ := Kd.at_int hr (i : Int) (by omega) (by omega)
  rw [Int.toNat_natCast] at hc
  exact ⟨ad, hA, hc⟩
set_option maxHeartbeats 1600000 in
set_option maxRecDepth 100000 in
theorem read_no {A : Option Addr} {n c : Nat} {b : List Int} {w : World} (hr : U8.C w A n b) (hb : Bytes b) (hl : n ≤ 1000000) (pages : Int) (hn : b.length < 2 ∨ b.length ≠ 2 + 66 * countF b) :
    Calls Tryz.prog 136 #[.slice A n c, .int .i64 pages] w fun e w' => e = .returned (.tuple #[.slice none 0 0, .bool false]) ∧ Below w.heap.size w w' := by
  obtain rfl : b.length = n := hr.1
  have HR := Aside0.mk hr
  clear hr
  by_cases h2 : b.length < 2
  · have hu1 : (b.length : Int) < 2 := by omega
    clear h2 hn
    go_enter Tryz.func136, Tryz.ntmps136
    go_wp2_with fail
    go_ret2
    exact ⟨by first | rfl | (simp; done), Below.refl _ _⟩
  · have h3 : b.length ≠ 2 + 66 * countF b := by omega
    have hu1 : ¬ (b.length : Int) < 2 := by omega
    obtain ⟨ad, hA, -⟩ := byte_at HR.out (i := 0) (by omega)
    subst hA
    have c0 : ∀ q, (w.drewN q).cell? (ad.add 0) = some (.int .u8 (rd b 0)) := fun q => by
      obtain ⟨ad', hA, hc⟩ := byte_at (Kd.C_drewN HR.out q) (i := 0) (by omega)
      cases hA; exact hc
    have c1 : ∀ q, (w.drewN q).cell? ⟨ad.block, ad.off + 1, none⟩ = some (.int .u8 (rd b 1)) := fun q => by
      obtain ⟨ad', hA, hc⟩ := byte_at (Kd.C_drewN HR.out q) (i := 1) (by omega)
      cases hA; exact hc
    rw [show ad.add 0 = ad by simp [Addr.add]] at c0
    have x0 := hb.at 0
    have x1 := hb.at 1
    have hj := join64 x0.1 x0.2 x1.1 x1.2
    have hcn : (countF b : Int) = rd b 0 * 256 + rd b 1 := by unfold countF; omega
    generalize rd b 0 = p at *
    generalize rd b 1 = q at *
    have hne : ¬ ((b.length : Int) = 2 + (p * 256 + q) * 66) := by omega
    have hw : IntKind.i64.wrap (p * 256) = p * 256 := by rw [IntKind.wrap_i64]; omega
    have hwp : IntKind.i64.wrap p = p := by rw [IntKind.wrap_i64]; omega
    have hwq : IntKind.i64.wrap q = q := by rw [IntKind.wrap_i64]; omega
    have hne2 : ((b.length : Int) != 2 + (p * 256 + q) * 66) = true := by simpa using hne
    have hn0 : 0 < b.length := by omega
    have hn1 : 1 < b.length := by omega
    have hi1 : (1 : Int) < (b.length : Int) := by omega
    clear h2 hn h3 hcn hne
    go_enter Tryz.func136, Tryz.ntmps136
    go_wp2_with fail
    go_quiet (fail)
    go_wp2_with fail
    go_ret2
    exact ⟨by first | rfl | (simp; done), pw_below_drewN (Below.refl _ _) _⟩
set_option maxHeartbeats 1600000 in
set_option maxRecDepth 100000 in
theorem read_all {A : Option Addr} {n c m : Nat} {b : List Int} {w : World} (hr : U8.C w A n b) (hc : n ≤ c) (hb : Bytes b) (hl : n ≤ 1000000) (pages : Int) (hcf : countF b = m) (hm : b.length = 2 + 66 * m) :
    Calls Tryz.prog 136 #[.slice A n c, .int .i64 pages] w fun e w' => ∃ v, e = .returned (.tuple #[v, .bool (undeltaF b pages).isSome]) ∧ Sep w w' [Row KC 75 v ((undeltaF b pages).getD [])] := by
  obtain rfl : b.length = n := hr.1
  have HR := Aside0.mk hr
  have HB := Aside0.mk hb
  obtain ⟨ad, hA, -⟩ := byte_at HR.out (i := 0) (by omega)
  subst hA
  have c0 : ∀ q, (w.drewN q).cell? (ad.add 0) = some (.int .u8 (rd b 0)) := fun q => by
    obtain ⟨ad', hA, hc⟩ := byte_at (Kd.C_drewN HR.out q) (i := 0) (by omega)
    cases hA; exact hc
  have c1 : ∀ q, (w.drewN q).cell? ⟨ad.block, ad.off + 1, none⟩ = some (.int .u8 (rd b 1)) := fun q => by
    obtain ⟨ad', hA, hc⟩ := byte_at (Kd.C_drewN HR.out q) (i := 1) (by omega)
    cases hA; exact hc
  rw [show ad.add 0 = ad by simp [Addr.add]] at c0
  have x0 := hb.at 0
  have x1 := hb.at 1
  have hj := join64 x0.1 x0.2 x1.1 x1.2
  have hcn : (m : Int) = rd b 0 * 256 + rd b 1 := by rw [← hcf]; unfold countF; omega
  generalize rd b 0 = p at *
  generalize rd b 1 = q at *
  have hne2 : ((b.length : Int) != 2 + (p * 256 + q) * 66) = false := by simp; omega
  have hw : IntKind.i64.wrap (p * 256) = p * 256 := by rw [IntKind.wrap_i64]; omega
  have hwp : IntKind.i64.wrap p = p := by rw [IntKind.wrap_i64]; omega
  have hwq : IntKind.i64.wrap q = q := by rw [IntKind.wrap_i64]; omega
  have hn0 : 0 < b.length := by omega
  have hn1 : 1 < b.length := by omega
  have hi1 : (1 : Int) < (b.length : Int) := by omega
  have hu1 : ¬ (b.length : Int) < 2 := by omega
  have HC := Aside0.mk (And.intro hc (And.intro hcf (And.intro hm hcn)))
  obtain ⟨A2, hcut, hT⟩ := drop8 (A := some ad) (n := b.length) (c := c) (a := 2) (J := 2) (l := b) rfl rfl (by omega) hc
  have HT := Aside0.mk hT
  clear hr hb hc hcf hm hcn hT
  refine (callsIn_wide (n := 3)).1 ?_
  refine callsIn_of_wp_marks Tryz.func136 rfl trivial ?_ rfl
  simp only [Tryz.ntmps136, List.size_toArray, List.length_cons, List.length_nil, Nat.reduceAdd, Nat.reduceSub, Array.replicate_succ, Array.replicate_zero, List.push_toArray, List.append_toArray, List.nil_append, List.cons_append]
  gi_wp2
  refine wpIn_wide.2 ?_
  go_quiet (fail)
  gi_wp2
  have S0 := ((((Sep.start w).drewN nq).newBlk 60 #[.slice none 0 0]).newBlk 24 #[.slice A2 (b.length - 2) (c - 2)]).newBlk 3 #[.int .i64 66]
  rw [show (w.drewN nq).heap.size = w.heap.size from rfl] at S0
  refine ⟨trivial, callsIn_wide.2 ?_⟩
  refine (chunk_ _).mono ?_
  rintro e w2 ⟨rfl, rfl⟩
  rw [show ((w.drewN nq).alloc (.cells #[.slice none 0 0] 60)).heap.size = w.heap.size + 1 by simp, show (((w.drewN nq).alloc (.cells #[.slice none 0 0] 60)).alloc (.cells #[.slice A2 (b.length - 2) (c - 2)] 24)).heap.size = w.heap.size + 2 by simp] at S0
  rw [show ((w.drewN nq).alloc (.cells #[.slice none 0 0] 60)).heap.size = w.heap.size + 1 by simp]
  obtain ⟨WS, hWS⟩ : ∃ WS, (((w.drewN nq).alloc (.cells #[.slice none 0 0] 60)).alloc (.cells #[.slice A2 (b.length - 2) (c - 2)] 24)).alloc (.cells #[.int .i64 66] 3) = WS := ⟨_, rfl⟩
  rw [hWS] at S0 ⊢
  clear hWS
  have AS := Aside0.mk S0
  clear S0
  gi_wp2
  have hBx : Boxes WS (w.heap.size + 1) (w.heap.size + 1 + 1) A2 (b.length - 2) (c - 2) := ⟨AS.out.at2.blk, AS.out.blk⟩
  have hsz : w.heap.size ≤ WS.heap.size := AS.out.size
  have hbx2 : w.heap.size + 1 + 1 < WS.heap.size := blk_lt hBx.2
  have hcell : ∀ (v : Value) (l : List Chg), ∀ r ∈ [Blk w.heap.size 60 #[v], Row KC 75 v l, Blk (w.heap.size + 1) 24 #[.slice A2 (b.length - 2) (c - 2)], Blk (w.heap.size + 1 + 1) 3 #[.int .i64 66]], CellsOnly r := fun v l r hr => by
    simp only [List.mem_cons, List.not_mem_nil, or_false] at hr
    rcases hr with rfl | rfl | rfl | rfl
    · exact cellsOnly_blk _ _ _
    · exact cellsOnly_row _ _ _ _
    · exact cellsOnly_blk _ _ _
    · exact cellsOnly_blk _ _ _
  refine wpIn_rangeFunc_ownG (F := Fence.wide) rfl (by decide) (gf := 156) (lb := #[.pointer (some ⟨w.heap.size + 1, 0, none⟩), .pointer (some ⟨w.heap.size + 1 + 1, 0, none⟩)]) rfl trivial (enters_of Tryz.func156 (by kernel_rfl) rfl)
    (chunk1_in 2 (by decide) (m := m) (L := b.length - 2) (by have := HC.out; omega) hBx (by have := HC.out; omega) (by have := HC.out; omega)) (fun h k => ⟨k.1.trans h.1, k.2.trans h.2⟩) (fun W l o o' hl _ _ _ => ⟨World.putObj_heap_other (by omega), World.putObj_heap_other (by omega)⟩) (Below.refl _ _) (fun _ => rfl)
    (fun pre W => ∃ v, Sep w W [Blk w.heap.size 60 #[v], Row KC 75 v (pre.map (fun i => chunkF b i.1)), Blk (w.heap.size + 1) 24 #[.slice A2 (b.length - 2) (c - 2)], Blk (w.heap.size + 1 + 1) 3 #[.int .i64 66]])
    (fun _ _ _ => False)
    (fun s W W' row hs hg hr => by obtain ⟨v, hs⟩ := hs; exact ⟨v, hs.turned (hcell _ _) hsz hg hr⟩)
    (fun _ _ _ _ _ hs _ _ => hs)
    ⟨.slice none 0 0, (AS.out.nilRow KC 75).at4.perm (.cons _ (.cons _ (.swap _ _ _)))⟩
    (fun x => { tmps := #[.slice (some ad) b.length c, .int .i64 pages, undef, undef, .slice none 0 0, .bool false, .int .i64 (p * 256 + q), .pointer (some ⟨w.heap.size, 0, none⟩), .slice (A2.map (·.add (66 * x.1))) 66 66, .slice (some ad) b.length c, .int .i64 (b.length : Int), .bool false, .slice (some ad) b.length c, .pointer (some ad), .int .u8 p, .int .i64 p, .int .i64 (p * 256), .slice (some ad) b.length c, .pointer (some ⟨ad.block, ad.off + 1, none⟩), .int .u8 q, .int .i64 q, .int .i64 (p * 256 + q), .slice (some ad) b.length c, .int .i64 (b.length : Int), .int .i64 (p * 256 + q), .int .i64 ((p * 256 + q) * 66), .int .i64 (2 + (p * 256 + q) * 66), .bool false, .slice (some ad) b.length c, .slice A2 (b.length - 2) (c - 2), .func (.func 156) #[] #[.pointer (some ⟨w.heap.size + 1, 0, none⟩), .pointer (some ⟨w.heap.size + 1 + 1, 0, none⟩)], .slice (A2.map (·.add (66 * x.1))) 66 66, undef, undef, undef, undef, undef, undef, undef, undef, undef, undef, undef, undef, undef, undef, undef, undef, undef, undef, undef, undef, undef, undef], defers := [] }) ?assign ?body ?done ?stop
  case assign =>
    intro l x W K hK
    unfold encC
    gi_wp2
    exact hK
  case body =>
    rintro l pre x W ⟨v, hS⟩ hlen
    obtain ⟨Av, cv, rfl⟩ := hS.at2.rowV
    rw [List.length_map] at hS
    have hxm := x.2
    have hlm : b.length - 2 = 66 * m := by have := HC.out.2.2.1; omega
    have hlb : b.length = 2 + 66 * m := HC.out.2.2.1
    have hm2 : m ≤ 1000000 := by omega
    have hcc : b.length - 2 ≤ c - 2 := by have := HC.out.1; omega
    have hdl : (b.drop 2).length = b.length - 2 := List.length_drop ..
    obtain ⟨ad2, hA2, -⟩ := (HT.out w HR.out).2.2 (by omega)
    subst hA2
    obtain ⟨qx, hqx⟩ : ∃ qx, ((b.drop 2).take (66 * x.1 + 66)).drop (66 * x.1) = qx := ⟨_, rfl⟩
    have hql : qx.length = 66 := by rw [← hqx, List.length_drop, List.length_take]; omega
    have hqr : ∀ i : Nat, i < 66 → rd qx (i : Int) = rd b ((2 + 66 * x.1 + i : Nat) : Int) := fun i hi => by
      rw [← hqx]; unfold rd
      rw [Int.toNat_natCast, Int.toNat_natCast, List.getD_eq_getElem?_getD, List.getD_eq_getElem?_getD, List.getElem?_drop, List.getElem?_take, if_pos (by omega), List.getElem?_drop, Nat.add_assoc]
    have hqd : qx.drop 2 = (b.drop (4 + 66 * x.1)).take 64 := by
      rw [← hqx, List.drop_drop, List.drop_take, List.drop_drop]
      congr 1
      · omega
      · congr 1; omega
    have hCq : ∀ W' : World, Below w.heap.size w W' → U8.C W' (some (ad2.add (66 * x.1))) 66 qx := fun W' hb => by
      have h1 := Kd.C_below (HT.out w HR.out) hb
      rw [← hdl] at h1
      have h2 := Kd.C_mid (c := c - 2) (lo := 66 * x.1) (hi := 66 * x.1 + 66) h1 (by omega) (by omega) (by omega)
      rw [hqx, hql, if_neg (by omega)] at h2
      simpa [Kd.int, Kd.scalar] using h2
    have hqb : Bytes qx := by rw [← hqx]; exact (((HB.out.drop 2).take _).drop _)
    have HCQ := Aside0.mk hCq
    have hch : chunkF b x.1 = (rd qx 0 * 256 + rd qx 1, qx.drop 2) := by
      have h0 := hqr 0 (by decide)
      have h1 := hqr 1 (by decide)
      unfold chunkF
      rw [hqd]
      simp only [Int.natCast_zero, Int.natCast_one] at h0 h1
      rw [h0, h1]
      congr 4
      · omega
    have hN := hS.roundIn (hcell (.slice Av pre.length cv) _) hsz
    have z0 : W.drew.cell? ⟨w.heap.size, 0, none⟩ = some (.slice Av pre.length cv) := (hS.drew.cell 0).trans rfl
    obtain ⟨a0, hA0, z1⟩ := byte_at (hCq W.drew hS.drew.toBelow) (i := 0) (by decide)
    obtain ⟨a1, hA1, z2⟩ := byte_at (hCq W.drew hS.drew.toBelow) (i := 1) (by decide)
    cases hA0; cases hA1
    rw [show (ad2.add (66 * x.1)).add 0 = ad2.add (66 * x.1) by simp [Addr.add]] at z1
    replace z2 : W.drew.cell? ⟨(ad2.add (66 * x.1)).block, (ad2.add (66 * x.1)).off + 1, none⟩ = some (.int .u8 (rd qx 1)) := z2
    replace z1 : W.drew.cell? (ad2.add (66 * x.1)) = some (.int .u8 (rd qx 0)) := z1
    obtain ⟨A3, hcut3, hT3⟩ := drop8 (A := some (ad2.add (66 * x.1))) (n := 66) (c := 66) (a := 2) (J := 2) (l := qx) rfl hql (by decide) (Nat.le_refl _)
    have HC3 : Aside0 (U8.C W.drew A3 64 (qx.drop 2)) := ⟨hT3 _ (hCq _ hS.drew.toBelow)⟩
    have hl64 : (qx.drop 2).length = 64 := by rw [List.length_drop, hql]
    have y0 := hqb.at 0
    have y1 := hqb.at 1
    have hjj := join64 y0.1 y0.2 y1.1 y1.2
    generalize rd qx 0 = P0 at *
    generalize rd qx 1 = P1 at *
    generalize qx.drop 2 = qs at *
    have hww : IntKind.i64.wrap (P0 * 256) = P0 * 256 := by rw [IntKind.wrap_i64]; omega
    have hwP : IntKind.i64.wrap P0 = P0 := by rw [IntKind.wrap_i64]; omega
    have hwQ : IntKind.i64.wrap P1 = P1 := by rw [IntKind.wrap_i64]; omega
    have AN := Aside0.mk hN
    have AL := Aside0.mk hl64
    have AX := Aside0.mk (And.intro hch (And.intro hS hlen))
    have hpl : pre.length ≤ 1000000 := by omega
    clear hS hN hT3 hl64 hch hqr hqd hCq hqb hqx hlen hj hne2 hw hwp hwq x0 x1 hn0 hn1 hi1 hu1 hdl hlb
    refine wpIn_block ?_
    refine startR_ (fun h => by obtain ⟨_, _, h⟩ := h; exact h) (noDefer_of (by kernel_rfl)) (by kernel_rfl) (startN_ (m := 18) (S := fun w' => w'.cell? ⟨w.heap.size, 0, none⟩ = some (.slice Av pre.length cv) ∧ w'.cell? (ad2.add (66 * x.1)) = some (.int .u8 P0) ∧ w'.cell? ⟨(ad2.add (66 * x.1)).block, (ad2.add (66 * x.1)).off + 1, none⟩ = some (.int .u8 P1)) (ds := [16, 17]) #[false, false, false, false, false, false, false, false, false, false, false, false, false, false, false, false, false, false] rfl rfl ⟨z0, z1, z2⟩ (fun hHeld => ?_))
    refine pure_ (i := 1) (N := some 33) (v := ?_) (a' := ?_) #[false, true, false, false, false, false, false, false, false, false, false, false, false, false, false, false, false, false] rfl rfl (by kernel_rfl) (fun _ _ _ h => h) (Or.inl ⟨by rfl, ?_⟩) ?_ ?_
    rotate_left
    · intro w'
      go_simp
      with_reducible rfl
    rotate_left
    · simp only [Act.put, List.setIfInBounds_toArray, List.set_cons_zero, List.set_cons_succ, i64_w, i32_w]
      rfl
    refine pure_ (i := 2) (N := some 34) (v := ?_) (a' := ?_) #[false, true, true, false, false, false, false, false, false, false, false, false, false, false, false, false, false, false] rfl rfl (by kernel_rfl) (fun _ _ _ h => h) (Or.inl ⟨by rfl, ?_⟩) ?_ ?_
    rotate_left
    · intro w'
      go_simp
      with_reducible rfl
    rotate_left
    · simp only [Act.put, List.setIfInBounds_toArray, List.set_cons_zero, List.set_cons_succ, i64_w, i32_w]
      rfl
    refine pure_ (i := 6) (N := some 38) (v := ?_) (a' := ?_) #[false, true, true, false, false, false, true, false, false, false, false, false, false, false, false, false, false, false] rfl rfl (by kernel_rfl) (fun _ _ _ h => h) (Or.inl ⟨by rfl, ?_⟩) ?_ ?_
    rotate_left
    · intro w'
      go_simp
      with_reducible rfl
    rotate_left
    · simp only [Act.put, List.setIfInBounds_toArray, List.set_cons_zero, List.set_cons_succ, i64_w, i32_w]
      rfl
    refine pure_ (i := 7) (N := some 39) (v := ?_) (a' := ?_) #[false, true, true, false, false, false, true, true, false, false, false, false, false, false, false, false, false, false] rfl rfl (by kernel_rfl) (fun _ _ _ h => h) (Or.inl ⟨by rfl, ?_⟩) ?_ ?_
    rotate_left
    · intro w'
      go_simp
      with_reducible rfl
    rotate_left
    · simp only [Act.put, List.setIfInBounds_toArray, List.set_cons_zero, List.set_cons_succ, i64_w, i32_w]
      rfl
    refine pure_ (i := 11) (N := some 43) (v := ?_) (a' := ?_) #[false, true, true, false, false, false, true, true, false, false, false, true, false, false, false, false, false, false] rfl rfl (by kernel_rfl) (fun _ _ _ h => h) (Or.inl ⟨by rfl, ?_⟩) ?_ ?_
    rotate_left
    · intro w'
      go_simp
      with_reducible rfl
    rotate_left
    · simp only [Act.put, List.setIfInBounds_toArray, List.set_cons_zero, List.set_cons_succ, i64_w, i32_w]
      rfl
    refine pure_ (i := 12) (N := some 44) (v := ?_) (a' := ?_) #[false, true, true, false, false, false, true, true, false, false, false, true, true, false, false, false, false, false] rfl rfl (by kernel_rfl) (fun _ _ _ h => h) (Or.inl ⟨by rfl, ?_⟩) ?_ ?_
    rotate_left
    · intro w'
      go_simp
      with_reducible rfl
    rotate_left
    · simp only [Act.put, List.setIfInBounds_toArray, List.set_cons_zero, List.set_cons_succ, i64_w, i32_w]
      rfl
    refine take_ (i := 0) (N := some 32) (v := ?_) (a' := ?_) #[true, true, true, false, false, false, true, true, false, false, false, true, true, false, false, false, false, false] rfl rfl (by kernel_rfl) (fun _ _ _ h => h) (Or.inl ⟨by rfl, ?_⟩) hHeld ?_ ?_
    rotate_left
    · rintro w' ⟨s0, s1, s2⟩
      go_simp
      with_reducible rfl
    rotate_left
    · simp only [Act.put, List.setIfInBounds_toArray, List.set_cons_zero, List.set_cons_succ, i64_w, i32_w]
      rfl
    refine take_ (i := 3) (N := some 35) (v := ?_) (a' := ?_) #[true, true, true, true, false, false, true, true, false, false, false, true, true, false, false, false, false, false] rfl rfl (by kernel_rfl) (fun _ _ _ h => h) (Or.inl ⟨by rfl, ?_⟩) hHeld ?_ ?_
    rotate_left
    · rintro w' ⟨s0, s1, s2⟩
      go_simp
      with_reducible rfl
    rotate_left
    · simp only [Act.put, List.setIfInBounds_toArray, List.set_cons_zero, List.set_cons_succ, i64_w, i32_w]
      rfl
    refine pure_ (i := 4) (N := some 36) (v := ?_) (a' := ?_) #[true, true, true, true, true, false, true, true, false, false, false, true, true, false, false, false, false, false] rfl rfl (by kernel_rfl) (fun _ _ _ h => h) (Or.inl ⟨by rfl, ?_⟩) ?_ ?_
    rotate_left
    · intro w'
      go_simp
      with_reducible rfl
    rotate_left
    · simp only [Act.put, List.setIfInBounds_toArray, List.set_cons_zero, List.set_cons_succ, i64_w, i32_w]
      rfl
    refine pure_ (i := 5) (N := some 37) (v := ?_) (a' := ?_) #[true, true, true, true, true, true, true, true, false, false, false, true, true, false, false, false, false, false] rfl rfl (by kernel_rfl) (fun _ _ _ h => h) (Or.inl ⟨by rfl, ?_⟩) ?_ ?_
    rotate_left
    · intro w'
      go_simp
      with_reducible rfl
    rotate_left
    · simp only [Act.put, List.setIfInBounds_toArray, List.set_cons_zero, List.set_cons_succ, i64_w, i32_w]
      rfl
    refine take_ (i := 8) (N := some 40) (v := ?_) (a' := ?_) #[true, true, true, true, true, true, true, true, true, false, false, true, true, false, false, false, false, false] rfl rfl (by kernel_rfl) (fun _ _ _ h => h) (Or.inl ⟨by rfl, ?_⟩) hHeld ?_ ?_
    rotate_left
    · rintro w' ⟨s0, s1, s2⟩
      go_simp
      with_reducible rfl
    rotate_left
    · simp only [Act.put, List.setIfInBounds_toArray, List.set_cons_zero, List.set_cons_succ, i64_w, i32_w]
      rfl
    refine pure_ (i := 9) (N := some 41) (v := ?_) (a' := ?_) #[true, true, true, true, true, true, true, true, true, true, false, true, true, false, false, false, false, false] rfl rfl (by kernel_rfl) (fun _ _ _ h => h) (Or.inl ⟨by rfl, ?_⟩) ?_ ?_
    rotate_left
    · intro w'
      go_simp
      with_reducible rfl
    rotate_left
    · simp only [Act.put, List.setIfInBounds_toArray, List.set_cons_zero, List.set_cons_succ, i64_w, i32_w]
      rfl
    refine pure_ (i := 10) (N := some 42) (v := ?_) (a' := ?_) #[true, true, true, true, true, true, true, true, true, true, true, true, true, false, false, false, false, false] rfl rfl (by kernel_rfl) (fun _ _ _ h => h) (Or.inl ⟨by rfl, ?_⟩) ?_ ?_
    rotate_left
    · intro w'
      go_simp
      with_reducible rfl
    rotate_left
    · simp only [Act.put, List.setIfInBounds_toArray, List.set_cons_zero, List.set_cons_succ, i64_w, i32_w]
      rfl
    refine one_ (i := 13) (N := some 45) #[true, true, true, true, true, true, true, true, true, true, true, true, true, true, false, false, false, false] rfl rfl (by kernel_rfl) (by decide) (fun K hK => ?_)
    refine goes_ Tryz.func60 (by kernel_rfl) rfl #[.slice A3 64 64] (by rfl) rfl rfl (by simp only [List.map_toArray, List.map_cons, List.map_nil]; rfl) ?_
    with_reducible refine (clone_ HC3.out (Nat.le_refl _) (by decide)).mono ?_
    rintro e w3 ⟨v3, rfl, hS3⟩
    refine ⟨_, rfl, ?_⟩
    obtain ⟨A4, c4, rfl⟩ := hS3.rowN AL.out
    have hb3 := hS3.toBelow
    have B3 := Aside0.mk (AN.out.drew.lift1 hS3)
    have z3 := cell_later hb3 z1
    have z4 := cell_later hb3 z2
    clear hS3
    refine hK.out _ _ ⟨(B3.out.at3.cell 0).trans rfl, z3, z4⟩ (fun hHeld => ?_)
    clear hK K
    refine norm_ (a' := ?_) ?_ ?_
    rotate_left
    · show Act.put _ (some 45) _ = _
      simp only [Act.put, List.setIfInBounds_toArray, List.set_cons_zero, List.set_cons_succ, i64_w, i32_w]
      rfl
    refine pure_ (i := 14) (N := some 46) (v := ?_) (a' := ?_) #[true, true, true, true, true, true, true, true, true, true, true, true, true, true, true, false, false, false] rfl rfl (by kernel_rfl) (fun _ _ _ h => h) (Or.inl ⟨by rfl, ?_⟩) ?_ ?_
    rotate_left
    · intro w'
      go_simp
      with_reducible rfl
    rotate_left
    · simp only [Act.put, List.setIfInBounds_toArray, List.set_cons_zero, List.set_cons_succ, i64_w, i32_w]
      rfl
    refine one_ (i := 15) (N := some 47) #[true, true, true, true, true, true, true, true, true, true, true, true, true, true, true, true, false, false] rfl rfl (by kernel_rfl) (by decide) (fun K hK => ?_)
    have E3 : Aside0 (Sep w w3 (Row KC 75 (.slice Av pre.length cv) (pre.map (fun i => chunkF b i.1)) :: El KC (P0 * 256 + P1, qs) [.int .i64 (P0 * 256 + P1), .slice A4 64 c4] :: Nc W WS.heap.size :: Blk w.heap.size 60 #[.slice Av pre.length cv] :: [Blk (w.heap.size + 1) 24 #[.slice (some ad2) (b.length - 2) (c - 2)], Blk (w.heap.size + 1 + 1) 3 #[.int .i64 66]])) := ⟨(B3.out.elSlice.elPair (a := Kd.int .i64) (x := P0 * 256 + P1) (p := [.int .i64 (P0 * 256 + P1)]) (fun _ _ _ => rfl)).at4⟩
    refine value_ (w1 := ?_) (v := ?_) (by rfl) rfl ?_ ?_
    rotate_left 2
    · go_simp
      constructor
      · rfl
      · rfl
    refine hK.out _ _ ⟨(B3.out.at3.alloc _).cell 0 |>.trans rfl, cell_later (below_alloc (Below.refl _ _) _) z3, cell_later (below_alloc (Below.refl _ _) _) z4⟩ (fun hHeld => ?_)
    clear hK K
    refine norm_ (a' := ?_) ?_ ?_
    rotate_left
    · show Act.put _ (some 47) _ = _
      simp only [Act.put, List.setIfInBounds_toArray, List.set_cons_zero, List.set_cons_succ, i64_w, i32_w]
      rfl
    refine last_ (i := 16) (N := some 48) #[true, true, true, true, true, true, true, true, true, true, true, true, true, true, true, true, true, false] rfl rfl (by kernel_rfl) (by decide) (fun K hK => ?_)
    refine E3.out.appendDeepStep (by rfl) (.tmp 32) (.tmp 47) 60 _ 32 rfl Tryz.underlying60 infoCh rfl (by decide) (by decide) (by rfl) (by rfl) (by rw [List.length_map]; omega) ?_
    intro v6 w6 hs6 hS6
    obtain ⟨A6, c6, rfl⟩ := hS6.rowN (n := pre.length + 1) (by simp)
    have z6 := (hS6.at3.cell 0).trans rfl
    have f6 := hS6.at3.frozen 0
    have B6 := Aside0.mk (hS6.at3.setBlk 0 (.slice A6 (pre.length + 1) c6))
    clear hS6
    refine hK.out _ _ ?_
    clear hK K
    refine norm_ (a' := ?_) ?_ ?_
    rotate_left
    · show Act.put _ (some 48) _ = _
      simp only [Act.put, List.setIfInBounds_toArray, List.set_cons_zero, List.set_cons_succ, i64_w, i32_w]
      rfl
    refine last_ (i := 17) (N := none) #[true, true, true, true, true, true, true, true, true, true, true, true, true, true, true, true, true, true] rfl rfl (by kernel_rfl) (by decide) (fun K hK => ?_)
    refine skip_ (w1 := ?_) (by rfl) rfl ?_ ?_
    rotate_left
    · go_simp
      rfl
    refine hK.out _ _ ?_
    clear hK K
    refine done_ (by kernel_rfl) ?_
    have hsz2 : W.heap.size ≤ w6.heap.size := by
      have h1 : W.heap.size ≤ w3.heap.size := hb3.size
      exact Nat.le_trans h1 hs6
    refine ⟨B6.out.at3.roundOut (by simpa [World.setCell] using hsz2), ⟨?_, ?_⟩, ⟨.slice A6 (pre.length + 1) c6, ?_⟩⟩
    · exact (B6.out.at4.blk).trans (AX.out.2.1.at3.blk).symm
    · exact (B6.out.at5.blk).trans (AX.out.2.1.at4.blk).symm
    · rw [List.map_append, List.map_cons, List.map_nil, AX.out.1]
      exact B6.out.at3.tail
  case done =>
    rintro D xs W hD rfl ⟨v, hS⟩ hK
    have hmm : (List.finRange m).map (fun i => chunkF b i.1) = rawF b := by
      unfold rawF
      rw [HC.out.2.1]
      apply List.ext_getElem (by simp)
      intro i h1 h2
      simp
    rw [hmm] at hS
    have hlen : (rawF b).length = m := by unfold rawF; rw [List.length_map, List.length_range, HC.out.2.1]
    obtain ⟨Av, cv, rfl⟩ := hS.at2.rowN hlen
    have d0 : W.cell? ⟨w.heap.size, 0, none⟩ = some (.slice Av m cv) := (hS.cell 0).trans rfl
    have AS2 := Aside0.mk hS
    have AK := Aside0.mk hK
    have AL := Aside0.mk hlen
    clear hmm hS hK hlen hj hne2 hw hwp hwq x0 x1 hn0 hn1 hi1 hu1 c0 c1
    gi_wp2
    refine ⟨trivial, callsIn_wide.2 ?_⟩
    refine (right_ (l := rawF b) (by have := AS2.out.at2.rowC.2.2; rwa [AL.out] at this) pages).mono ?_
    rintro e w9 ⟨rfl, hb9⟩
    have B9 := Aside0.mk (AS2.out.below hb9)
    have K9 := Aside0.mk ((hb9.block D (blk_lt AK.out)).trans AK.out)
    clear hb9
    cases hrt : rightF (rawF b) pages with
    | false =>
      have hu : undeltaF b pages = none := by
        unfold undeltaF
        have := HC.out
        rw [if_neg (by omega), if_neg (by rw [this.2.1]; omega), hrt]; rfl
      have HU := Aside0.mk hu
      clear hu hrt
      gi_wp2
      refine ⟨by simp, .inl ⟨_, _, rfl, run_takeDeferred K9.out, ?_⟩⟩
      refine ⟨_, results_tmp2 rfl _ _ _, ⟨.slice none 0 0, by rw [HU.out]; first | rfl | (simp; done), ?_⟩⟩
      rw [HU.out]
      exact Sep.turned (L := []) (by simp) (Sep.weak (L := [_, _, _, _]) (F := []) B9.out) hsz (grownBy_putObj' w9 D _) (fun r hr => by cases hr; exact ⟨hD, _, K9.out, rfl⟩) |>.nilRow KC _
    | true =>
      have hu : undeltaF b pages = some (rawF b) := by
        unfold undeltaF
        have := HC.out
        rw [if_neg (by omega), if_neg (by rw [this.2.1]; omega), hrt]; rfl
      have HU := Aside0.mk hu
      have d9 : w9.cell? ⟨w.heap.size, 0, none⟩ = some (.slice Av m cv) := (B9.out.cell 0).trans rfl
      clear hu hrt
      gi_wp2
      refine ⟨by simp, .inl ⟨_, _, rfl, run_takeDeferred K9.out, ?_⟩⟩
      refine ⟨_, results_tmp2 rfl _ _ _, ⟨.slice Av m cv, by rw [HU.out]; first | rfl | (simp; done), ?_⟩⟩
      rw [HU.out]
      exact Sep.turned (L := [_]) (fun p hp => by obtain rfl := List.mem_singleton.1 hp; exact cellsOnly_row _ _ _ _) (Sep.weakR (L := [Row KC 75 (.slice Av m cv) (rawF b)]) (F := [_, _]) B9.out.tail) hsz (grownBy_putObj' w9 D _) (fun r hr => by cases hr; exact ⟨hD, _, K9.out, rfl⟩)
  case stop =>
    rintro D c pre W _ _ h _
    exact h.elim
theorem read_ {A : Option Addr} {n c : Nat} {b : List Int} {w : World} (hr : U8.C w A n b) (hc : n ≤ c) (hb : Bytes b) (hl : n ≤ 1000000) (pages : Int) :
    Calls Tryz.prog 136 #[.slice A n c, .int .i64 pages] w fun e w' => ∃ v, e = .returned (.tuple #[v, .bool (undeltaF b pages).isSome]) ∧ Sep w w' [Row KC 75 v ((undeltaF b pages).getD [])] := by
  by_cases hn : b.length < 2 ∨ b.length ≠ 2 + 66 * countF b
  · refine (read_no hr hb hl pages hn).mono ?_
    rintro e w' ⟨rfl, hbw⟩
    have hu : undeltaF b pages = none := by
      unfold undeltaF
      by_cases h2 : b.length < 2
      · rw [if_pos h2]
      · rw [if_neg h2, if_pos (by omega)]
    rw [hu]
    exact ⟨_, rfl, ((Sep.start w).below hbw).nilRow KC _⟩
  · exact read_all hr hc hb hl pages rfl (by omega)
end Go.Proofs.YtjngnigelkgekaaGreat.Delta
namespace Go.Proofs.YtjngnigelkgekaaGreat.Delta
set_option linter.unusedVariables false
set_option linter.unusedSimpArgs false
open Go.RowKit Go.Proofs.YtjngnigelkgekaaGreatW.PrintWords Go.Proofs.YtjngnigelkgekaaGreatW.PrintLast Go.Proofs.YtjngnigelkgekaaGreatW.PrintMore Go.Proofs.YtjngnigelkgekaaGreat.Kit Go.Proofs.YtjngnigelkgekaaGreat.Base Go.Proofs.YtjngnigelkgekaaGreat.Plain
theorem rneed_ (n : Int) (W : World) : Calls Tryz.prog 113 #[.int .i64 n] W fun e w' => e = .returned (.int .i64 (needF n)) ∧ W = w' := by
  by_cases h0 : n < 0
  · go_enter Tryz.func113, Tryz.ntmps113
    go_wp2
    go_ret
    exact ⟨by rw [show needF n = 0 from if_pos (.inl h0)]; first | rfl | (simp; done), rfl⟩
  · by_cases h1 : 64 < n
    · go_enter Tryz.func113, Tryz.ntmps113
      go_wp2
      go_ret
      exact ⟨by rw [show needF n = 0 from if_pos (.inr h1)]; first | rfl | (simp; done), rfl⟩
    · have h2 : n ≤ 64 := by omega
      have h3 : 0 ≤ n := by omega
      go_enter Tryz.func113, Tryz.ntmps113
      go_wp2
      go_ret
      exact ⟨by rw [show needF n = 18 + n * 66 from if_neg (by omega)]; first | rfl | (simp; done), rfl⟩
end Go.Proofs.YtjngnigelkgekaaGreat.Delta
