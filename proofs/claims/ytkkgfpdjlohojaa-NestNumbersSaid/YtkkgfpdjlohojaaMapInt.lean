/- Maps of the kind map[int][]byte: what the operations come to, entry by entry. -/
import Derived.Test.YtkkgfpdjlohojaaSep
import Derived.WalkKit
import Derived.KernelRfl
import Derived.Carry
namespace Go.Proofs.Ytkkgfpdjlohojaa.Kit
set_option linter.unusedVariables false
set_option linter.unusedSimpArgs false
open Go.RowKit Go.Proofs.YtkkgfpdjlohojaaW.PrintWords
/-- An entry: key, value, stamp. -/
structure En where
  k : Int
  v : Value
  born : Nat
def En.toE (e : En) : MapEntry := { key := .int .i64 e.k, val := e.v, born := e.born }
def ens (l : List En) : Array MapEntry := (l.map En.toE).toArray
theorem findNow_none (i : Int) : ∀ (l : List En) (j : Nat), (∀ e ∈ l, e.k ≠ i) → Instr.findNow (.int .i64) (.int .i64 i) (l.map En.toE) j = some none
  | [], _, _ => rfl
  | e :: l, j, h => by
    have h1 : (i == e.k) = false := by have := h e (by simp); simpa using fun he => this he.symm
    show (match Instr.sameNow (.int .i64) (.int .i64 i) (.int .i64 e.k) with | some true => _ | some false => _ | none => _) = _
    simp only [Instr.sameNow, if_true, h1]
    exact findNow_none i l (j + 1) (fun x hx => h x (by simp [hx]))
theorem findNow_some (i : Int) (e : En) (post : List En) (he : e.k = i) : ∀ (pre : List En) (j : Nat), (∀ x ∈ pre, x.k ≠ i) → Instr.findNow (.int .i64) (.int .i64 i) ((pre ++ e :: post).map En.toE) j = some (some (j + pre.length, e.v))
  | [], j, _ => by
    have h1 : (i == e.k) = true := by simp [he]
    simp [Instr.findNow, En.toE, Instr.sameNow, h1]
  | x :: pre, j, h => by
    have h1 : (i == x.k) = false := by have := h x (by simp); simpa using fun he => this he.symm
    have h2 := findNow_some i e post he pre (j + 1) (fun y hy => h y (by simp [hy]))
    show (match Instr.sameNow (.int .i64) (.int .i64 i) (.int .i64 x.k) with | some true => _ | some false => _ | none => _) = _
    simp only [Instr.sameNow, if_true, h1]
    refine h2.trans ?_
    rw [List.length_cons]
    congr 3; omega
theorem modify_mid {α : Type} (f : α → α) (x : α) (post : List α) : ∀ pre : List α, (pre ++ x :: post).modify pre.length f = pre ++ f x :: post
  | [] => rfl
  | y :: pre => by
    have := modify_mid f x post pre
    simpa using this
section
variable {P : Program} {T K E : TypeId} {m clock : Nat} {W : World} {l pre post : List En} {e : En}
theorem get_map {es : Array MapEntry} (hm : W.heap[m]? = some (.map es clock)) : (getObj m).run P W = .ok (.map es clock) W := by simp [getObj, Sem.run, hm]
theorem set_map {es : Array MapEntry} (hm : W.heap[m]? = some (.map es clock)) (o : Obj) : (setObj m o).run P W = .ok () { W with heap := W.heap.setIfInBounds m o } := by simp [setObj, Sem.run, hm]
theorem check_int (hK : P.underlying K = some (.int .i64)) (b : Bool) (i : Int) : (Instr.checkKey b 10000 K (.int .i64 i)).run P W = .ok () W := by
  show (Instr.checkKey b (9999 + 1) K (.int .i64 i)).run P W = _
  unfold Instr.checkKey
  simp [run_underlying hK]
theorem lookup_none (hT : P.underlying T = some (.map K E)) (hK : P.underlying K = some (.int .i64)) {z : Value} (hz : ∀ W : World, (zeroValue E).run P W = .ok z W) (hm : W.heap[m]? = some (.map (ens l) clock)) (i : Int) (h : ∀ e ∈ l, e.k ≠ i) :
    (Instr.lookup T (.map (some m)) (.int .i64 i) true).run P W = .ok (.tuple #[z, .bool false]) W := by
  have h1 := findNow_none i l 0 h
  have hc := fun b => check_int (W := W) hK b i
  simp [Instr.lookup, run_underlying hT, get_map hm, hc, run_underlying hK, Instr.findKey, ens, h1, hz]
theorem lookup_some (hT : P.underlying T = some (.map K E)) (hK : P.underlying K = some (.int .i64)) (hm : W.heap[m]? = some (.map (ens (pre ++ e :: post)) clock)) (h : ∀ x ∈ pre, x.k ≠ e.k) :
    (Instr.lookup T (.map (some m)) (.int .i64 e.k) true).run P W = .ok (.tuple #[e.v, .bool true]) W := by
  have h1 := findNow_some e.k e post rfl pre 0 h
  have hc := fun b => check_int (W := W) hK b e.k
  rw [List.map_append, List.map_cons] at h1
  simp [Instr.lookup, run_underlying hT, get_map hm, hc, run_underlying hK, Instr.findKey, ens, h1]
theorem lookup1_some (hT : P.underlying T = some (.map K E)) (hK : P.underlying K = some (.int .i64)) (hm : W.heap[m]? = some (.map (ens (pre ++ e :: post)) clock)) (h : ∀ x ∈ pre, x.k ≠ e.k) :
    (Instr.lookup T (.map (some m)) (.int .i64 e.k) false).run P W = .ok e.v W := by
  have h1 := findNow_some e.k e post rfl pre 0 h
  have hc := fun b => check_int (W := W) hK b e.k
  rw [List.map_append, List.map_cons] at h1
  simp [Instr.lookup, run_underlying hT, get_map hm, hc, run_underlying hK, Instr.findKey, ens, h1]
def World.putMap (W : World) (m : Nat) (l : List En) (clock : Nat) : World := { W with heap := W.heap.setIfInBounds m (.map (ens l) clock) }
theorem update_new (hT : P.underlying T = some (.map K E)) (hK : P.underlying K = some (.int .i64)) (hm : W.heap[m]? = some (.map (ens l) clock)) (i : Int) (v : Value) (h : ∀ e ∈ l, e.k ≠ i) :
    (Instr.mapUpdate T (.map (some m)) (.int .i64 i) v).run P W = .ok () (World.putMap W m (l ++ [⟨i, v, clock⟩]) (clock + 1)) := by
  have h1 := findNow_none i l 0 h
  have hc := fun b => check_int (W := W) hK b i
  simp [Instr.mapUpdate, run_underlying hT, get_map hm, set_map hm, hc, run_underlying hK, Instr.findKey, ens, h1, World.putMap, En.toE]
theorem update_old (hT : P.underlying T = some (.map K E)) (hK : P.underlying K = some (.int .i64)) (hm : W.heap[m]? = some (.map (ens (pre ++ e :: post)) clock)) (v : Value) (h : ∀ x ∈ pre, x.k ≠ e.k) :
    (Instr.mapUpdate T (.map (some m)) (.int .i64 e.k) v).run P W = .ok () (World.putMap W m (pre ++ ⟨e.k, v, e.born⟩ :: post) clock) := by
  have h1 := findNow_some e.k e post rfl pre 0 h
  have h2 : Instr.sameBits 10000 (.int .i64 e.k) (.int .i64 e.k) = true := by simp [Instr.sameBits]
  have h3 := modify_mid (fun x : MapEntry => ({ key := .int .i64 e.k, val := v, born := x.born } : MapEntry)) e.toE (post.map En.toE) (pre.map En.toE)
  rw [List.length_map] at h3
  have hc := fun b => check_int (W := W) hK b e.k
  rw [List.map_append, List.map_cons] at h1
  simp only [En.toE] at h1 h3
  simp [Instr.mapUpdate, run_underlying hT, get_map hm, set_map hm, hc, run_underlying hK, Instr.findKey, ens, h1, World.putMap, Instr.keyThatStays, En.toE, h2]
  rw [h3]
end
end Go.Proofs.Ytkkgfpdjlohojaa.Kit
