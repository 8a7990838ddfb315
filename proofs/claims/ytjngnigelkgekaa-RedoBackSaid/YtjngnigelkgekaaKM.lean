/- MapInt, Copy, Iter, Secs, Crash, Book, Same in one. -/
import Derived.Test.YtjngnigelkgekaaKA
import Derived.WalkKit
import Derived.KernelRfl
import Derived.Carry
import Derived.Laws.IdiomCopy
import Derived.Maps.RangeRun
import Derived.Test.YtjngnigelkgekaaProg
import Derived.WalkSpells
import Derived.Deep.QuietTactic
/- Maps of the kind map[int][]byte: what the operations come to, entry by entry. -/
namespace Go.Proofs.Ytjngnigelkgekaa.Kit
set_option linter.unusedVariables false
set_option linter.unusedSimpArgs false
open Go.RowKit Go.Proofs.YtjngnigelkgekaaW.PrintWords
/-- An entry: key, value, stamp. -/
structure En where
  k : Int
  v : Value
  born : Nat
def En.toE (e : En) : MapEntry := { key := .int .i64 e.k, val := e.v, born := e.born }
def ens (l : List En) : Array MapEntry := (l.map En.toE).toArray
theorem findNow_none (i : Int) : ∀ (l : List En) (j : Nat), (∀ e ∈ l, e.k ≠ i) → Instr.findNow (.int .i64) (.int .i64 i) (l.map En.toE) j = some none
  | [], _, _ => rfl
  | e :: l, j, h => by
    have h1 : (i == e.k) = false := by have := h e (by simp); simpa using fun he => this he.symm
    show (match Instr.sameNow (.int .i64) (.int .i64 i) (.int .i64 e.k) with | some true => _ | some false => _ | none => _) = _
    simp only [Instr.sameNow, if_true, h1]
    exact findNow_none i l (j + 1) (fun x hx => h x (by simp [hx]))
theorem findNow_some (i : Int) (e : En) (post : List En) (he : e.k = i) : ∀ (pre : List En) (j : Nat), (∀ x ∈ pre, x.k ≠ i) → Instr.findNow (.int .i64) (.int .i64 i) ((pre ++ e :: post).map En.toE) j = some (some (j + pre.length, e.v))
  | [], j, _ => by
    have h1 : (i == e.k) = true := by simp [he]
    simp [Instr.findNow, En.toE, Instr.sameNow, h1]
  | x :: pre, j, h => by
    have h1 : (i == x.k) = false := by have := h x (by simp); simpa using fun he => this he.symm
    have h2 := findNow_some i e post he pre (j + 1) (fun y hy => h y (by simp [hy]))
    show (match Instr.sameNow (.int .i64) (.int .i64 i) (.int .i64 x.k) with | some true => _ | some false => _ | none => _) = _
    simp only [Instr.sameNow, if_true, h1]
    refine h2.trans ?_
    rw [List.length_cons]
    congr 3; omega
theorem modify_mid {α : Type} (f : α → α) (x : α) (post : List α) : ∀ pre : List α, (pre ++ x :: post).modify pre.length f = pre ++ f x :: post
  | [] => rfl
  | y :: pre => by
    have := modify_mid f x post pre
    simpa using this
section
variable {P : Program} {T K E : TypeId} {m clock : Nat} {W : World} {l pre post : List En} {e : En}
theorem get_map {es : Array MapEntry} (hm : W.heap[m]? = some (.map es clock)) : (getObj m).run P W = .ok (.map es clock) W := by simp [getObj, Sem.run, hm]
theorem set_map {es : Array MapEntry} (hm : W.heap[m]? = some (.map es clock)) (o : Obj) : (setObj m o).run P W = .ok () { W with heap := W.heap.setIfInBounds m o } := by simp [setObj, Sem.run, hm]
theorem check_int (hK : P.underlying K = some (.int .i64)) (b : Bool) (i : Int) : (Instr.checkKey b 10000 K (.int .i64 i)).run P W = .ok () W := by
  show (Instr.checkKey b (9999 + 1) K (.int .i64 i)).run P W = _
  unfold Instr.checkKey
  simp [run_underlying hK]
theorem lookup_none (hT : P.underlying T = some (.map K E)) (hK : P.underlying K = some (.int .i64)) {z : Value} (hz : ∀ W : World, (zeroValue E).run P W = .ok z W) (hm : W.heap[m]? = some (.map (ens l) clock)) (i : Int) (h : ∀ e ∈ l, e.k ≠ i) :
    (Instr.lookup T (.map (some m)) (.int .i64 i) true).run P W = .ok (.tuple #[z, .bool false]) W := by
  have h1 := findNow_none i l 0 h
  have hc := fun b => check_int (W := W) hK b i
  simp [Instr.lookup, run_underlying hT, get_map hm, hc, run_underlying hK, Instr.findKey, ens, h1, hz]
theorem lookup_some (hT : P.underlying T = some (.map K E)) (hK : P.underlying K = some (.int .i64)) (hm : W.heap[m]? = some (.map (ens (pre ++ e :: post)) clock)) (h : ∀ x ∈ pre, x.k ≠ e.k) :
    (Instr.lookup T (.map (some m)) (.int .i64 e.k) true).run P W = .ok (.tuple #[e.v, .bool true]) W := by
  have h1 := findNow_some e.k e post rfl pre 0 h
  have hc := fun b => check_int (W := W) hK b e.k
  rw [List.map_append, List.map_cons] at h1
  simp [Instr.lookup, run_underlying hT, get_map hm, hc, run_underlying hK, Instr.findKey, ens, h1]
theorem lookup1_some (hT : P.underlying T = some (.map K E)) (hK : P.underlying K = some (.int .i64)) (hm : W.heap[m]? = some (.map (ens (pre ++ e :: post)) clock)) (h : ∀ x ∈ pre, x.k ≠ e.k) :
    (Instr.lookup T (.map (some m)) (.int .i64 e.k) false).run P W = .ok e.v W := by
  have h1 := findNow_some e.k e post rfl pre 0 h
  have hc := fun b => check_int (W := W) hK b e.k
  rw [List.map_append, List.map_cons] at h1
  simp [Instr.lookup, run_underlying hT, get_map hm, hc, run_underlying hK, Instr.findKey, ens, h1]
def World.putMap (W : World) (m : Nat) (l : List En) (clock : Nat) : World := { W with heap := W.heap.setIfInBounds m (.map (ens l) clock) }
theorem update_new (hT : P.underlying T = some (.map K E)) (hK : P.underlying K = some (.int .i64)) (hm : W.heap[m]? = some (.map (ens l) clock)) (i : Int) (v : Value) (h : ∀ e ∈ l, e.k ≠ i) :
    (Instr.mapUpdate T (.map (some m)) (.int .i64 i) v).run P W = .ok () (World.putMap W m (l ++ [⟨i, v, clock⟩]) (clock + 1)) := by
  have h1 := findNow_none i l 0 h
  have hc := fun b => check_int (W := W) hK b i
  simp [Instr.mapUpdate, run_underlying hT, get_map hm, set_map hm, hc, run_underlying hK, Instr.findKey, ens, h1, World.putMap, En.toE]
theorem update_old (hT : P.underlying T = some (.map K E)) (hK : P.underlying K = some (.int .i64)) (hm : W.heap[m]? = some (.map (ens (pre ++ e :: post)) clock)) (v : Value) (h : ∀ x ∈ pre, x.k ≠ e.k) :
    (Instr.mapUpdate T (.map (some m)) (.int .i64 e.k) v).run P W = .ok () (World.putMap W m (pre ++ ⟨e.k, v, e.born⟩ :: post) clock) := by
  have h1 := findNow_some e.k e post rfl pre 0 h
  have h2 : Instr.sameBits 10000 (.int .i64 e.k) (.int .i64 e.k) = true := by simp [Instr.sameBits]
  have h3 := modify_mid (fun x : MapEntry => ({ key := .int .i64 e.k, val := v, born := x.born } : MapEntry)) e.toE (post.map En.toE) (pre.map En.toE)
  rw [List.length_map] at h3
  have hc := fun b => check_int (W := W) hK b e.k
  rw [List.map_append, List.map_cons] at h1
  simp only [En.toE] at h1 h3
  simp [Instr.mapUpdate, run_underlying hT, get_map hm, set_map hm, hc, run_underlying hK, Instr.findKey, ens, h1, World.putMap, Instr.keyThatStays, En.toE, h2]
  rw [h3]
end
end Go.Proofs.Ytjngnigelkgekaa.Kit

/- copy into a row of one's own; the iterator over a map. -/
namespace Go.Proofs.Ytjngnigelkgekaa.Kit
set_option linter.unusedVariables false
set_option linter.unusedSimpArgs false
open Go.RowKit Go.Proofs.YtjngnigelkgekaaW.PrintWords Go.Proofs.YtjngnigelkgekaaW.PrintLast Go.Proofs.YtjngnigelkgekaaW.PrintMore
/-- ys laid over xs from place o on. -/
def over {α : Type} (xs : List α) (o : Nat) (ys : List α) : List α := xs.take o ++ ys ++ xs.drop (o + ys.length)
theorem over_nil {α : Type} (xs : List α) (o : Nat) : over xs o [] = xs := by simp [over]
theorem over_len {α : Type} {xs : List α} {o : Nat} {ys : List α} (h : o + ys.length ≤ xs.length) : (over xs o ys).length = xs.length := by
  simp [over]; omega
theorem over_get {α : Type} {xs : List α} {o : Nat} {ys : List α} (h : o + ys.length ≤ xs.length) (j : Nat) : (over xs o ys)[j]? = if o ≤ j ∧ j < o + ys.length then ys[j - o]? else xs[j]? := by
  unfold over
  rw [List.append_assoc]
  by_cases h1 : j < o
  · rw [if_neg (by omega), List.getElem?_append_left (by simp; omega), List.getElem?_take, if_pos h1]
  · rw [List.getElem?_append_right (by simp; omega), List.length_take, Nat.min_eq_left (by omega)]
    by_cases h2 : j < o + ys.length
    · rw [if_pos ⟨by omega, h2⟩, List.getElem?_append_left (by omega)]
    · rw [if_neg (by omega), List.getElem?_append_right (by omega), List.getElem?_drop]
      congr 1; omega
theorem over_cons {α : Type} {xs : List α} {o : Nat} {y : α} {ys : List α} (h : o + (ys.length + 1) ≤ xs.length) : over (xs.set o y) (o + 1) ys = over xs o (y :: ys) := by
  apply List.ext_getElem?
  intro j
  rw [over_get (by simp; omega), over_get (by simp; omega)]
  simp only [List.length_cons]
  by_cases h1 : j = o
  · subst h1
    rw [if_neg (by omega), if_pos (by omega), List.getElem?_set_self (by omega), Nat.sub_self]; rfl
  · rw [List.getElem?_set_ne (by omega)]
    by_cases h2 : o ≤ j ∧ j < o + (ys.length + 1)
    · rw [if_pos (by omega), if_pos h2, show j - o = (j - (o + 1)) + 1 by omega]; rfl
    · rw [if_neg (by omega), if_neg h2]
namespace Sep
variable {w0 W W' : World} {F : List HP}
section
variable {α : Type} {enc : α → Value} {h1 : ∀ x, (enc x).oneCell' = true} {e g n cap : Nat}
theorem putCells : ∀ (ys : List α) (o : Nat) {xs : List α} {W : World}, Sep w0 W (Row (Kd.scalar enc h1) e (.slice (some ⟨g, 0, none⟩) n cap) xs :: F) → o + ys.length ≤ n →
    Sep w0 (W.setCells g o (ys.map enc)) (Row (Kd.scalar enc h1) e (.slice (some ⟨g, 0, none⟩) n cap) (over xs o ys) :: F)
  | [], o, xs, W, h, _ => by rw [over_nil]; exact h
  | y :: ys, o, xs, W, h, hl => by
    have hn : n = xs.length := h.rowC.1
    simp only [List.length_cons] at hl
    have := putCells ys (o + 1) (h.putRow o y) (by omega)
    rwa [over_cons (by omega)] at this
/-- copy(dst, src): dst a piece of a row of one's own. -/
theorem copyRun {P : Program} {t ty : TypeId} {xs ys : List α} {A : Option Addr} {o n' c' m c : Nat} (h : Sep w0 W (Row (Kd.scalar enc h1) e (.slice (some ⟨g, 0, none⟩) n cap) xs :: F)) (ht : P.underlying t = some (.slice e)) (hi : (P.info? e).map (·.size) = some 1)
    (hC : (Kd.scalar enc h1).C W A m ys) (hb : o + n' ≤ n) :
    (Builtin.copy_ #[t, t] ty #[.slice (some ⟨g, o, none⟩) n' c', .slice A m c]).run P W = .ok (.int .i64 ((min m n' : Nat) : Int)) (W.setCells g o ((ys.take n').map enc)) ∧
      Sep w0 (W.setCells g o ((ys.take n').map enc)) (Row (Kd.scalar enc h1) e (.slice (some ⟨g, 0, none⟩) n cap) (over xs o (ys.take n')) :: F) := by
  have hl : ys.length = m := hC.1
  have hlen : (ys.take n').length = min m n' := by rw [List.length_take, hl, Nat.min_comm]
  refine ⟨?_, h.putCells (ys.take n') o (by rw [List.length_take]; omega)⟩
  rcases Nat.eq_zero_or_pos (min m n') with h0 | h0
  · have hy : ys.take n' = [] := List.eq_nil_of_length_eq_zero (by omega)
    rw [hy, h0]
    exact run_copy_none W t t ty e _ _ _ _ _ _ ht hi h0
  · obtain ⟨ad, rfl, hc⟩ := hC.2.2 (by omega)
    have := run_copy_cells (P := P) W t t ty e g o n' c' ad m c ((ys.take n').map enc) ht hi (by rw [List.length_map]; exact hlen) ?_ ?_ ?_ ?_
    · rw [this, List.length_map, hlen]; rfl
    · intro j v hj
      rw [List.getElem?_map, List.getElem?_take] at hj
      split at hj
      · obtain ⟨y, hy, rfl⟩ := Option.map_eq_some_iff.1 hj
        obtain ⟨cs, hsz, hK, hcell⟩ := hc j y hy
        have hK : cs = [enc y] := hK
        subst hK
        have := hcell 0 _ rfl
        simpa [Kd.scalar] using this
      · cases hj
    · intro j hj
      rw [List.length_map, hlen] at hj
      have hx := h.rowC
      have : o + j < xs.length := by omega
      rw [(h.rowCell (xs[o + j]) (o + j) (by omega)).1]; rfl
    · intro j hj
      rw [List.length_map, hlen] at hj
      have hx := h.rowC
      have : o + j < xs.length := by omega
      exact (h.rowCell (xs[o + j]) (o + j) (by omega)).2
    · intro v hv
      obtain ⟨x, _, rfl⟩ := List.mem_map.1 hv
      exact h1 x
section
variable {P : Program} {ops : Array Oper} {rest : List Oper} {op : Oper} {a : Act} {Q : Exit → Act → World → Prop}
theorem copyRow {t : TypeId} {xs ys : List α} {A : Option Addr} {o n' c' m c : Nat} (h : Sep w0 W (Row (Kd.scalar enc h1) e (.slice (some ⟨g, 0, none⟩) n cap) xs :: F)) (hgd : op.guard = none) (d s : Operand)
    (ho : op.op = .call { callee := .builtin .copy, args := #[d, s], argTypes := #[t, t] }) (ht : P.underlying t = some (.slice e)) (hi : (P.info? e).map (·.size) = some 1)
    (hd : a.eval d = .slice (some ⟨g, o, none⟩) n' c') (hs : a.eval s = .slice A m c) (hC : (Kd.scalar enc h1).C W A m ys) (hb : o + n' ≤ n)
    (k : ∀ W', Sep w0 W' (Row (Kd.scalar enc h1) e (.slice (some ⟨g, 0, none⟩) n cap) (over xs o (ys.take n')) :: F) → wpList P ops Q rest (a.put op.dst (.int .i64 ((min m n' : Nat) : Int))) W') : wpList P ops Q (op :: rest) a W := by
  obtain ⟨hr, hS⟩ := h.copyRun (P := P) (ty := op.type) (c' := c') (c := c) ht hi hC hb
  refine wpList_plain hgd fun K hK => ?_
  unfold Oper.wp execOp
  simp only [ho, resolve, invoke, builtin, Sem.run_bind, Sem.run_pure, Result.andThen_ok, List.map_toArray, List.map_cons, List.map_nil, hs, hd, hr]
  exact hK _ _ (k _ hS)
theorem copyStep {Kc : Act → World → Prop} {t : TypeId} {xs ys : List α} {A : Option Addr} {o n' c' m c : Nat} (h : Sep w0 W (Row (Kd.scalar enc h1) e (.slice (some ⟨g, 0, none⟩) n cap) xs :: F)) (hw : Region.wanted op (yielded ops a.tmps) = true) (d s : Operand)
    (ho : op.op = .call { callee := .builtin .copy, args := #[d, s], argTypes := #[t, t] }) (ht : P.underlying t = some (.slice e)) (hi : (P.info? e).map (·.size) = some 1)
    (hd : a.eval d = .slice (some ⟨g, o, none⟩) n' c') (hs : a.eval s = .slice A m c) (hC : (Kd.scalar enc h1).C W A m ys) (hb : o + n' ≤ n)
    (k : ∀ W', Sep w0 W' (Row (Kd.scalar enc h1) e (.slice (some ⟨g, 0, none⟩) n cap) (over xs o (ys.take n')) :: F) → Kc (a.put op.dst (.int .i64 ((min m n' : Nat) : Int))) W') :
    if Region.wanted op (yielded ops a.tmps) = true then Oper.wp P op a W Kc Q else Kc (a.put op.dst undef) W := by
  obtain ⟨hr, hS⟩ := h.copyRun (P := P) (ty := op.type) (c' := c') (c := c) ht hi hC hb
  rw [if_pos hw]
  unfold Oper.wp execOp
  simp only [ho, resolve, invoke, builtin, Sem.run_bind, Sem.run_pure, Result.andThen_ok, List.map_toArray, List.map_cons, List.map_nil, hs, hd, hr]
  exact k _ hS
end
end
end Sep
end Go.Proofs.Ytjngnigelkgekaa.Kit

/- Ranging over a map whose entries stay. -/
namespace Go.Proofs.Ytjngnigelkgekaa.Kit
set_option linter.unusedVariables false
set_option linter.unusedSimpArgs false
open Go.RowKit Go.Proofs.YtjngnigelkgekaaW.PrintWords Go.Proofs.YtjngnigelkgekaaW.PrintLast Go.Proofs.YtjngnigelkgekaaW.PrintMore
/-- A block, whatever it is. -/
def Ob (g : Nat) (o : Obj) : HP where
  P W ok := (∀ k, ok k ↔ k = g) ∧ W.heap[g]? = some o
  loc := fun h hm => ⟨h.1, (hm _ ((h.1 _).2 rfl)).trans h.2⟩
  bnd := fun h k hk => by rw [(h.1 k).1 hk]; exact blk_lt h.2
namespace Sep
variable {w0 W W' : World} {F : List HP} {g : Nat} {o : Obj}
theorem ob (h : Sep w0 W (Ob g o :: F)) : W.heap[g]? = some o := by
  obtain ⟨ok, hp, _⟩ := h.sep; exact hp.2
theorem newOb (h : Sep w0 W F) (o : Obj) : Sep w0 (W.alloc o) (Ob W.heap.size o :: F) :=
  h.gain (below_alloc (Below.refl _ _) _) (ok := fun k => k = W.heap.size) ⟨fun _ => Iff.rfl, blk_new W _⟩ (fun k hk => by omega)
theorem setOb (h : Sep w0 W (Ob g o :: F)) (o' : Obj) : Sep w0 { W with heap := W.heap.setIfInBounds g o' } (Ob g o' :: F) :=
  h.step ⟨rfl, rfl, rfl, by simp⟩ (fun ok hp => ⟨fun k _ hn => by
    have hne : g ≠ k := fun he => hn ((hp.1 k).2 he.symm)
    simp [Array.getElem?_setIfInBounds, hne], ok, ⟨hp.1, by
    have hlt := blk_lt hp.2
    simp [Array.getElem?_setIfInBounds, hlt]⟩, fun k hk => .inl hk⟩)
theorem drewIt (h : Sep w0 W F) (n : Nat) : Sep w0 { W with drawn := n } F := h.below ⟨rfl, rfl, rfl, Nat.le_refl _, fun _ _ => rfl⟩
end Sep
def itObj (m clock : Nat) (seen : List Nat) : Obj := .mapIter (some m) clock seen.toArray clock
section
variable {P : Program} {T K E : TypeId} {m r clock : Nat} {w0 W : World} {l : List En} {F : List HP}
theorem range_run (hT : P.underlying T = some (.map K E)) (hm : W.heap[m]? = some (.map (ens l) clock)) :
    (Instr.range T (.map (some m))).run P W = .ok (.pointer (some ⟨W.heap.size, 0, none⟩)) (W.alloc (itObj m clock [])) := by
  simp [Instr.range, run_underlying hT, get_map hm, itObj]
theorem get_ob {o : Obj} (h : W.heap[r]? = some o) (hc : ∀ c t f, o ≠ .cells c t f) : (getObj r).run P W = .ok o W := by
  cases o <;> simp_all [getObj, Sem.run]
theorem set_ob {o : Obj} (h : W.heap[r]? = some o) (hc : ∀ c t f, o ≠ .cells c t f) (o' : Obj) : (setObj r o').run P W = .ok () { W with heap := W.heap.setIfInBounds r o' } := by
  cases o <;> simp_all [setObj, Sem.run]
/-- What the next step of a range comes to. -/
theorem next_run {seen : List Nat} (h : Sep w0 W (Ob r (itObj m clock seen) :: MapB m (ens l) clock :: F)) (hb : ∀ e ∈ l, e.born < clock) (hn : (l.map (·.born)).Nodup) (ty : TypeId) :
    ((∀ e ∈ l, e.born ∈ seen) ∧ (Instr.next (.pointer (some ⟨r, 0, none⟩)) false ty).run P W = .ok (.tuple #[.bool false]) W) ∨
    ∃ e ∈ l, e.born ∉ seen ∧ ∃ W', (Instr.next (.pointer (some ⟨r, 0, none⟩)) false ty).run P W = .ok (.tuple #[.bool true, .int .i64 e.k, e.v]) W' ∧
      Sep w0 W' (Ob r (itObj m clock (seen ++ [e.born])) :: MapB m (ens l) clock :: F) ∧ (Instr.entry (.pointer (some ⟨r, 0, none⟩))).run P W' = .ok (.tuple #[.int .i64 e.k, e.v]) W' := by
  have hr := h.ob
  have hm := h.tail.map
  have hold : ∀ x ∈ (ens l).toList, x.born < clock := fun x hx => by
    obtain ⟨e, he, rfl⟩ := List.mem_map.1 (by simpa [ens] using hx)
    exact hb e he
  have hnd : ((ens l).toList.map (·.born)).Nodup := by
    have : (ens l).toList.map (·.born) = l.map (·.born) := by simp [ens, En.toE]
    rw [this]; exact hn
  have hleft : ∀ x, x ∈ (leftOf (ens l) seen.toArray).toList ↔ ∃ e ∈ l, e.toE = x ∧ e.born ∉ seen := fun x => by
    simp only [leftOf, ens, Array.toList_filter, List.mem_filter, List.mem_map]
    constructor
    · rintro ⟨⟨e, he, rfl⟩, h2⟩
      exact ⟨e, he, rfl, by simpa [En.toE] using h2⟩
    · rintro ⟨e, he, rfl, h2⟩
      exact ⟨⟨e, he, rfl⟩, by simpa [En.toE] using h2⟩
  rcases run_next_at (P := P) W ty r m clock clock seen.toArray (ens l) clock hr hm hold (Nat.le_refl _) with ⟨h0, h1⟩ | ⟨x, hx, w1, hw, h1⟩
  · refine .inl ⟨fun e he => Classical.not_not.1 fun hne => ?_, h1⟩
    have := (hleft e.toE).2 ⟨e, he, rfl, hne⟩
    rw [Array.size_eq_zero_iff.1 h0] at this
    simp at this
  · obtain ⟨e, he, rfl, hne⟩ := (hleft x).1 hx
    have hw' : Sep w0 w1 (Ob r (itObj m clock seen) :: MapB m (ens l) clock :: F) := by
      rcases hw with rfl | rfl
      · exact h
      · exact h.drew
    have h2 := hw'.setOb (itObj m clock (seen ++ [e.born]))
    have e1 : (seen.toArray.push e.born) = (seen ++ [e.born]).toArray := by simp
    refine .inr ⟨e, he, hne, _, by rw [h1]; rfl, ?_, ?_⟩
    · have : ChangeMaps.setBlock w1 r (.mapIter (some m) clock (seen.toArray.push e.toE.born) clock) = { w1 with heap := w1.heap.setIfInBounds r (itObj m clock (seen ++ [e.born])) } := by
        simp [ChangeMaps.setBlock, itObj, En.toE]
      rw [this]; exact h2
    · have hq : ChangeMaps.setBlock w1 r (.mapIter (some m) clock (seen.toArray.push e.toE.born) clock) = { w1 with heap := w1.heap.setIfInBounds r (itObj m clock (seen ++ [e.born])) } := by
        simp [ChangeMaps.setBlock, itObj, En.toE]
      rw [hq]
      have hrr := h2.ob
      exact run_entry_at _ r m clock seen.toArray (ens l) clock e.toE (by rw [hrr]; simp [itObj, En.toE]) h2.tail.map (by simp [ens]; exact ⟨e, he, rfl⟩) hnd
end
end Go.Proofs.Ytjngnigelkgekaa.Kit

/- Rows of bytes, sector by sector: plain lists. -/
namespace Go.Proofs.Ytjngnigelkgekaa.Kit
set_option linter.unusedVariables false
/-- The bytes of one sector. -/
def sec (l : List Int) (i : Nat) : List Int := (l.drop (64 * i)).take 64
theorem sec_len {l : List Int} {i : Nat} (h : 64 * (i + 1) ≤ l.length) : (sec l i).length = 64 := by
  unfold sec; rw [List.length_take, List.length_drop]; omega
theorem sec_get (l : List Int) (i j : Nat) (hj : j < 64) : (sec l i)[j]? = l[64 * i + j]? := by
  unfold sec; rw [List.getElem?_take, if_pos hj, List.getElem?_drop]
/-- n sectors in a row. -/
def secs (n : Nat) (f : Nat → List Int) : List Int := (List.range n).flatMap f
theorem secs_succ (n : Nat) (f : Nat → List Int) : secs (n + 1) f = secs n f ++ f n := by
  unfold secs; rw [List.range_succ, List.flatMap_append]; simp
theorem secs_len {f : Nat → List Int} : ∀ {n : Nat}, (∀ i, i < n → (f i).length = 64) → (secs n f).length = 64 * n
  | 0, _ => rfl
  | n + 1, h => by rw [secs_succ, List.length_append, secs_len (fun i hi => h i (by omega)), h n (by omega)]; omega
theorem secs_get {f : Nat → List Int} : ∀ {n : Nat}, (∀ i, i < n → (f i).length = 64) → ∀ p, (secs n f)[p]? = if p < 64 * n then (f (p / 64))[p % 64]? else none
  | 0, _, p => by simp [secs]
  | n + 1, h, p => by
    have hl := secs_len (n := n) (f := f) (fun i hi => h i (by omega))
    rw [secs_succ]
    by_cases h1 : p < 64 * n
    · rw [List.getElem?_append_left (by omega), secs_get (fun i hi => h i (by omega)), if_pos h1, if_pos (by omega)]
    · rw [List.getElem?_append_right (by omega), hl]
      by_cases h2 : p < 64 * (n + 1)
      · rw [if_pos h2, show p / 64 = n by omega, show p - 64 * n = p % 64 by omega]
      · rw [if_neg h2, List.getElem?_eq_none (by have := h n (by omega); omega)]
theorem secs_congr {n : Nat} {f g : Nat → List Int} (h : ∀ i, i < n → f i = g i) : secs n f = secs n g := by
  unfold secs
  rw [List.flatMap_def, List.flatMap_def]
  congr 1
  exact List.map_congr_left (fun i hi => h i (List.mem_range.1 hi))
theorem secs_self {l : List Int} {n : Nat} (h : l.length = 64 * n) : secs n (sec l) = l := by
  apply List.ext_getElem?
  intro p
  rw [secs_get (fun i hi => sec_len (by omega))]
  by_cases hp : p < 64 * n
  · rw [if_pos hp, sec_get _ _ _ (by omega), show 64 * (p / 64) + p % 64 = p by omega]
  · rw [if_neg hp, List.getElem?_eq_none (by omega)]
theorem sec_secs {f : Nat → List Int} {n i : Nat} (h : ∀ i, i < n → (f i).length = 64) (hi : i < n) : sec (secs n f) i = f i := by
  apply List.ext_getElem?
  intro j
  by_cases hj : j < 64
  · rw [sec_get _ _ _ hj, secs_get h, if_pos (by omega), show (64 * i + j) / 64 = i by omega, show (64 * i + j) % 64 = j by omega]
  · rw [List.getElem?_eq_none (by rw [sec_len]; omega; rw [secs_len h]; omega), List.getElem?_eq_none (by rw [h i hi]; omega)]
/-- A sector, or its beginning, laid anew. -/
theorem over_secs {f : Nat → List Int} {n i : Nat} {b : List Int} (h : ∀ i, i < n → (f i).length = 64) (hi : i < n) (hb : b.length ≤ 64) :
    over (secs n f) (64 * i) b = secs n (fun k => if k = i then b ++ (f k).drop b.length else f k) := by
  have hl := secs_len h
  have h' : ∀ k, k < n → ((fun k => if k = i then b ++ (f k).drop b.length else f k) k).length = 64 := fun k hk => by
    have := h k hk
    dsimp only
    split
    · rw [List.length_append, List.length_drop]; omega
    · exact this
  apply List.ext_getElem?
  intro p
  rw [over_get (by omega), secs_get h, secs_get h']
  by_cases hp : p < 64 * n
  · rw [if_pos hp, if_pos hp]
    by_cases hk : p / 64 = i
    · rw [if_pos hk]
      by_cases h1 : p < 64 * i + b.length
      · rw [if_pos (by omega), List.getElem?_append_left (by omega)]; congr 1; omega
      · rw [if_neg (by omega), List.getElem?_append_right (by omega), List.getElem?_drop]; congr 1; omega
    · rw [if_neg hk, if_neg (by omega)]
  · rw [if_neg hp, if_neg hp, if_neg (by omega)]
end Go.Proofs.Ytjngnigelkgekaa.Kit

/- Which sectors wait, in their order; what a crash keeps: plain lists. -/
namespace Go.Proofs.Ytjngnigelkgekaa.Kit
set_option linter.unusedVariables false
abbrev Wt := Nat → Option (List Int)
/-- The sectors that wait. -/
def keysOf (n : Nat) (wt : Wt) : List Nat := (List.range n).filter (fun i => (wt i).isSome)
def rank (wt : Wt) (i : Nat) : Nat := (keysOf i wt).length
theorem keysOf_succ (n : Nat) (wt : Wt) : keysOf (n + 1) wt = keysOf n wt ++ if (wt n).isSome then [n] else [] := by
  unfold keysOf
  rw [List.range_succ, List.filter_append]
  congr 1
  by_cases h : (wt n).isSome = true
  · simp [h]
  · simp [h]
theorem rank_succ (n : Nat) (wt : Wt) : rank wt (n + 1) = rank wt n + if (wt n).isSome then 1 else 0 := by
  unfold rank
  rw [keysOf_succ, List.length_append]
  split <;> rfl
theorem rank_mono (wt : Wt) {i j : Nat} (h : i ≤ j) : rank wt i ≤ rank wt j := by
  induction j with
  | zero => rw [show i = 0 by omega]; exact Nat.le_refl _
  | succ j ih =>
    by_cases hi : i = j + 1
    · rw [hi]; exact Nat.le_refl _
    · have := ih (by omega); rw [rank_succ]; omega
theorem rank_lt {wt : Wt} {i j : Nat} (h : i < j) (hi : (wt i).isSome = true) : rank wt i < rank wt j := by
  have := rank_mono wt (show i + 1 ≤ j by omega)
  rw [rank_succ, if_pos hi] at this
  omega
theorem keys_at (wt : Wt) : ∀ (n j i : Nat), (keysOf n wt)[j]? = some i ↔ i < n ∧ (wt i).isSome = true ∧ rank wt i = j
  | 0, j, i => by simp [keysOf]
  | n + 1, j, i => by
    rw [keysOf_succ]
    by_cases hj : j < (keysOf n wt).length
    · rw [List.getElem?_append_left hj, keys_at wt n j i]
      constructor
      · rintro ⟨h1, h2, h3⟩; exact ⟨by omega, h2, h3⟩
      · rintro ⟨h1, h2, h3⟩
        refine ⟨?_, h2, h3⟩
        rcases Nat.lt_or_ge i n with h | h
        · exact h
        · have : i = n := by omega
          subst this
          unfold rank at h3; omega
    · rw [List.getElem?_append_right (by omega)]
      by_cases hn : (wt n).isSome = true
      · rw [if_pos hn]
        constructor
        · intro h
          have hj0 : j - (keysOf n wt).length = 0 := by
            rcases Nat.eq_zero_or_pos (j - (keysOf n wt).length) with h0 | h0
            · exact h0
            · rw [List.getElem?_eq_none (by simp; omega)] at h; cases h
          rw [hj0] at h
          simp at h
          subst h
          exact ⟨by omega, hn, by unfold rank; omega⟩
        · rintro ⟨h1, h2, h3⟩
          rcases Nat.lt_or_ge i n with h | h
          · have := rank_lt h h2
            unfold rank at this h3; omega
          · have : i = n := by omega
            subst this
            unfold rank at h3
            rw [h3, Nat.sub_self]; rfl
      · rw [if_neg hn]
        constructor
        · intro h; simp at h
        · rintro ⟨h1, h2, h3⟩
          rcases Nat.lt_or_ge i n with h | h
          · have := rank_lt h h2
            unfold rank at this h3; omega
          · have : i = n := by omega
            subst this
            exact absurd h2 hn
theorem keys_len_le (wt : Wt) (n : Nat) : (keysOf n wt).length ≤ n := by
  have := List.length_filter_le (fun i => (wt i).isSome) (List.range n)
  rwa [List.length_range] at this
theorem keys_none (n : Nat) : keysOf n (fun _ => none) = [] := by
  simp [keysOf]
/-- How many bytes of the j-th sector that waits are kept. -/
def cutN (cuts : List Int) (j : Nat) : Nat := if j < cuts.length then (max 0 (min (cuts.getD j 0) 64)).toNat else 0
theorem cutN_le (cuts : List Int) (j : Nat) : cutN cuts j ≤ 64 := by unfold cutN; split <;> omega
def cutS (las : List Int) (wt : Wt) (cuts : List Int) (i : Nat) : List Int :=
  match wt i with
  | none => sec las i
  | some b => b.take (cutN cuts (rank wt i)) ++ (sec las i).drop (cutN cuts (rank wt i))
def crashTo (las : List Int) (wt : Wt) (cuts : List Int) (j : Nat) : List Int := secs (las.length / 64) (fun i => if rank wt i < j then cutS las wt cuts i else sec las i)
def crashed (las : List Int) (wt : Wt) (cuts : List Int) : List Int := secs (las.length / 64) (cutS las wt cuts)
section
variable {las : List Int} {wt : Wt} {cuts : List Int} {n : Nat}
theorem cutS_len (hn : las.length = 64 * n) (hw : ∀ i b, wt i = some b → b.length = 64) : ∀ i, i < n → (cutS las wt cuts i).length = 64 := fun i hi => by
  have hs := sec_len (l := las) (i := i) (by omega)
  unfold cutS
  cases h : wt i with
  | none => exact hs
  | some b =>
    have := hw i b h; have := cutN_le cuts (rank wt i)
    simp only [List.length_append, List.length_take, List.length_drop]; omega
theorem crashTo_zero (hn : las.length = 64 * n) : crashTo las wt cuts 0 = las := by
  unfold crashTo
  rw [show las.length / 64 = n by omega, ← secs_self hn]
  refine secs_congr fun i hi => ?_
  rw [if_neg (by omega), secs_self hn]
theorem crashTo_all (hn : las.length = 64 * n) : crashTo las wt cuts (keysOf n wt).length = crashed las wt cuts := by
  unfold crashTo crashed
  refine secs_congr fun i hi => ?_
  by_cases h : rank wt i < (keysOf n wt).length
  · rw [if_pos h]
  · rw [if_neg h]
    unfold cutS
    cases hw : wt i with
    | none => rfl
    | some b =>
      have := rank_lt (wt := wt) (i := i) (j := n) (by omega) (by rw [hw]; rfl)
      unfold rank at this h; omega
theorem crashTo_skip {j : Nat} (hj : cuts.length ≤ j) (hn : las.length = 64 * n) (hw : ∀ i b, wt i = some b → b.length = 64) : crashTo las wt cuts (j + 1) = crashTo las wt cuts j := by
  unfold crashTo
  refine secs_congr fun i hi => ?_
  by_cases h : rank wt i < j
  · rw [if_pos (by omega), if_pos h]
  · by_cases h2 : rank wt i < j + 1
    · rw [if_pos h2, if_neg h]
      unfold cutS
      cases hb : wt i with
      | none => rfl
      | some b => have : cutN cuts (rank wt i) = 0 := by unfold cutN; rw [if_neg (by omega)]
                  simp [this]
    · rw [if_neg h2, if_neg h]
theorem crashTo_step {j i : Nat} {b : List Int} (hn : las.length = 64 * n) (hw : ∀ i b, wt i = some b → b.length = 64) (hk : (keysOf n wt)[j]? = some i) (hb : wt i = some b) :
    over (crashTo las wt cuts j) (64 * i) (b.take (cutN cuts j)) = crashTo las wt cuts (j + 1) := by
  obtain ⟨h1, h2, h3⟩ := (keys_at wt n j i).1 hk
  have hbl := hw i b hb
  have hc := cutN_le cuts j
  have hlen : ∀ k, k < las.length / 64 → ((fun i => if rank wt i < j then cutS las wt cuts i else sec las i) k).length = 64 := fun k hk => by
    dsimp only
    split
    · exact cutS_len hn hw k (by omega)
    · exact sec_len (by omega)
  unfold crashTo
  rw [over_secs hlen (by omega) (by rw [List.length_take]; omega)]
  refine secs_congr fun k hk => ?_
  by_cases hki : k = i
  · subst hki
    rw [if_pos rfl, if_neg (show ¬ rank wt k < j by omega), if_pos (show rank wt k < j + 1 by omega)]
    unfold cutS
    rw [hb, h3]
    dsimp only
    rw [List.length_take, Nat.min_eq_left (by omega)]
  · rw [if_neg hki]
    by_cases h : rank wt k < j
    · rw [if_pos h, if_pos (by omega)]
    · rw [if_neg h]
      by_cases h4 : rank wt k < j + 1
      · rw [if_pos h4]
        unfold cutS
        cases hwk : wt k with
        | none => rfl
        | some c =>
          exfalso
          have hkk : (wt k).isSome = true := by rw [hwk]; rfl
          rcases Nat.lt_or_ge k i with h5 | h5
          · have := rank_lt h5 hkk; omega
          · have := rank_lt (show i < k by omega) h2; omega
      · rw [if_neg h4]
end
end Go.Proofs.Ytjngnigelkgekaa.Kit

/- engrambook.Within: a number brought into bounds. -/
namespace Go.Proofs.Ytjngnigelkgekaa.Book
set_option linter.unusedVariables false
set_option linter.unusedSimpArgs false
open Go.RowKit Go.Proofs.YtjngnigelkgekaaW.PrintWords Go.Proofs.Ytjngnigelkgekaa.Kit
def withinF (n lo hi : Int) : Int :=
  if lo ≤ n ∧ n ≤ hi then n else lo + (if n.tmod (hi - lo + 1) < 0 then n.tmod (hi - lo + 1) + hi - lo + 1 else n.tmod (hi - lo + 1))
theorem withinF_in {n lo hi : Int} (h : lo ≤ hi) : lo ≤ withinF n lo hi ∧ withinF n lo hi ≤ hi := by
  unfold withinF
  split
  · omega
  · have h1 : n.tmod (hi - lo + 1) < hi - lo + 1 := Int.tmod_lt_of_pos n (by omega)
    have h2 : -(hi - lo + 1) < n.tmod (hi - lo + 1) := Int.lt_tmod_of_pos n (by omega)
    split <;> omega
theorem withinF_id {n lo hi : Int} (h1 : lo ≤ n) (h2 : n ≤ hi) : withinF n lo hi = n := if_pos ⟨h1, h2⟩
set_option maxHeartbeats 400000 in
theorem within_ (n lo hi : Int) (w : World) (h1 : -1073741824 ≤ lo) (h2 : lo ≤ hi) (h3 : hi ≤ 1073741824) :
    Calls Try.prog 19 #[.int .i64 n, .int .i64 lo, .int .i64 hi] w fun e w' => e = .returned (.int .i64 (withinF n lo hi)) ∧ w = w' := by
  have A0 := Aside0.mk (withinF_in (n := n) h2)
  have r1 : n.tmod (hi - lo + 1) < hi - lo + 1 := Int.tmod_lt_of_pos n (by omega)
  have r2 : -(hi - lo + 1) < n.tmod (hi - lo + 1) := Int.lt_tmod_of_pos n (by omega)
  have nz : ¬ (hi - lo + 1 = 0) := by omega
  have fin : ∀ (a : Int), withinF n lo hi = a → Ending.returned (.int .i64 a) = Ending.returned (.int .i64 (withinF n lo hi)) := fun a h => by rw [h]
  have AF := Aside0.mk fin
  clear fin
  by_cases c1 : lo ≤ n
  · by_cases c2 : n ≤ hi
    · have A1 := Aside0.mk (withinF_id c1 c2)
      clear r1 r2 nz
      go_enter Try.func19, Try.ntmps19
      go_wp2
      go_ret
      exact ⟨AF.out _ A1.out, rfl⟩
    · have A1 : Aside0 (withinF n lo hi = lo + (if n.tmod (hi - lo + 1) < 0 then n.tmod (hi - lo + 1) + hi - lo + 1 else n.tmod (hi - lo + 1))) := ⟨if_neg (fun h => c2 h.2)⟩
      by_cases c3 : n.tmod (hi - lo + 1) < 0
      · go_enter Try.func19, Try.ntmps19
        go_wp2
        go_ret
        exact ⟨AF.out _ (by rw [A1.out, if_pos c3]), rfl⟩
      · go_enter Try.func19, Try.ntmps19
        go_wp2
        go_ret
        exact ⟨AF.out _ (by rw [A1.out, if_neg (by omega)]), rfl⟩
  · have A1 : Aside0 (withinF n lo hi = lo + (if n.tmod (hi - lo + 1) < 0 then n.tmod (hi - lo + 1) + hi - lo + 1 else n.tmod (hi - lo + 1))) := ⟨if_neg (fun h => c1 h.1)⟩
    by_cases c3 : n.tmod (hi - lo + 1) < 0
    · go_enter Try.func19, Try.ntmps19
      go_wp2
      go_ret
      exact ⟨AF.out _ (by rw [A1.out, if_pos c3]), rfl⟩
    · go_enter Try.func19, Try.ntmps19
      go_wp2
      go_ret
      exact ⟨AF.out _ (by rw [A1.out, if_neg (by omega)]), rfl⟩
end Go.Proofs.Ytjngnigelkgekaa.Book

/- engrambook.Same: are two rows of numbers the same? -/
namespace Go.Proofs.Ytjngnigelkgekaa.Book
set_option linter.unusedVariables false
set_option linter.unusedSimpArgs false
open Go.RowKit Go.Proofs.YtjngnigelkgekaaW.PrintWords Go.Proofs.YtjngnigelkgekaaW.PrintLast Go.Proofs.YtjngnigelkgekaaW.PrintMore Go.Proofs.Ytjngnigelkgekaa.Kit
theorem rd_eq {xs : List Int} {j : Nat} (h : j < xs.length) : rd xs (j : Int) = xs[j] := by
  unfold rd
  rw [Int.toNat_natCast, List.getD_eq_getElem?_getD, List.getElem?_eq_getElem h]
  rfl
set_option maxHeartbeats 800000 in
set_option maxRecDepth 100000 in
theorem sameI_ {A B : Option Addr} {n c m d : Nat} {xs ys : List Int} {w : World} (h1 : (Kd.int .i64).C w A n xs) (h2 : (Kd.int .i64).C w B m ys) :
    Calls Try.prog 57 #[.slice A n c, .slice B m d] w fun e w' => e = .returned (.bool (decide (xs = ys))) ∧ Below w.heap.size w w' := by
  obtain rfl : xs.length = n := h1.1
  obtain rfl : ys.length = m := h2.1
  have hm1 : xs.length ≤ 9223372036854775807 := h1.2.1
  have hm2 : ys.length ≤ 9223372036854775807 := h2.2.1
  have H1 := Aside0.mk h1
  have H2 := Aside0.mk h2
  clear h1 h2
  by_cases hl : xs.length = ys.length
  · have hl' : (xs.length : Int) = (ys.length : Int) := by omega
    go_enter Try.func57, Try.ntmps57
    go_wp2_with fail
    go_loopg [5] xs.length (fun k p wr => ∃ j : Nat, p = .int .i64 (j : Int) ∧ j + k = xs.length ∧ Below w.heap.size w wr ∧ ∀ i, i < j → xs[i]? = ys[i]?)
    case atStart => exact ⟨0, rfl, by omega, Below.refl _ _, fun i hi => by omega⟩
    case round =>
      obtain ⟨j, rfl, hjk, hB, hp⟩ := hrel
      have AB := Aside0.mk hB
      have AP := Aside0.mk hp
      have AK := Aside0.mk hjk
      clear hB hp
      by_cases hj : j < xs.length
      · clear hjk
        obtain ⟨ad, hA, hc⟩ := Kd.at_int (Kd.C_below H1.out AB.out) (j : Int) (by omega) (by omega)
        obtain ⟨bd, hB, hd⟩ := Kd.at_int (Kd.C_below H2.out AB.out) (j : Int) (by omega) (by omega)
        subst hA hB
        rw [Int.toNat_natCast] at hc hd
        have AR : Aside0 (rd xs (j : Int) = xs[j]) := ⟨rd_eq hj⟩
        have AS : Aside0 (rd ys (j : Int) = ys[j]) := ⟨rd_eq (by omega)⟩
        generalize rd xs (j : Int) = x at *
        generalize rd ys (j : Int) = y at *
        by_cases hxy : x = y
        · go_wp2_with fail
          go_quiet (fail)
          go_wp2_with fail
          go_roundg (gk - 1)
          case measure => have := AK.out; omega
          case rel => exact ⟨j + 1, by go_num, by have := AK.out; omega, pw_below_drewN AB.out _, fun i hi => by
            by_cases hij : i < j
            · exact AP.out i hij
            · obtain rfl : i = j := by omega
              rw [List.getElem?_eq_getElem hj, List.getElem?_eq_getElem (by omega), ← AR.out, ← AS.out, hxy]⟩
        · have hne : xs ≠ ys := fun h => hxy (by rw [AR.out, AS.out]; exact List.getElem_of_eq h hj)
          have ANE := Aside0.mk hne
          have hb : (x != y) = true := by simpa using hxy
          clear hne
          go_wp2_with fail
          go_quiet (fail)
          go_wp2_with fail
          go_ret
          exact ⟨by rw [decide_eq_false ANE.out]; rfl, pw_below_drewN AB.out _⟩
      · have hq : xs = ys := List.ext_getElem? (fun i => by
          by_cases hi : i < j
          · exact AP.out i hi
          · rw [List.getElem?_eq_none (by omega), List.getElem?_eq_none (by omega)])
        have AQ := Aside0.mk hq
        clear hq hjk
        go_wp2_with fail
        go_ret
        exact ⟨by rw [decide_eq_true AQ.out]; rfl, AB.out⟩
  · have hne : xs ≠ ys := fun h => hl (by rw [h])
    have ANE := Aside0.mk hne
    have hl' : ¬ (xs.length : Int) = (ys.length : Int) := by omega
    clear hne
    go_enter Try.func57, Try.ntmps57
    go_wp2_with fail
    go_ret
    exact ⟨by rw [decide_eq_false ANE.out]; rfl, Below.refl _ _⟩
end Go.Proofs.Ytjngnigelkgekaa.Book
