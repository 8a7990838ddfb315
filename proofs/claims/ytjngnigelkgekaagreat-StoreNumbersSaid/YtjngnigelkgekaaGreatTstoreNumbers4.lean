/- MapInt, Keys, StSet, Disk1, Disk2, Copy, Secs, Disk3: what StoreNumbers needs. -/
import Derived.Test.YtjngnigelkgekaaGreatTstoreNumbers3
import Derived.WalkKit
import Derived.KernelRfl
import Derived.Carry
import Derived.Test.YtjngnigelkgekaaGreatShelf
import Derived.Maps.Keyed
import Derived.WalkArith
import Derived.Test.YtjngnigelkgekaaGreatProg
import Derived.WalkSpells
import Derived.Deep.QuietTactic
import Derived.BigQuiet
import Derived.Laws.IdiomCopy
set_option linter.unusedVariables false
set_option linter.unusedSimpArgs false
namespace Go.Proofs.YtjngnigelkgekaaGreat.Kit
open Go.RowKit Go.Proofs.YtjngnigelkgekaaGreatW.PrintWords
structure En where
  k : Int
  v : Value
  born : Nat
def En.toE (e : En) : MapEntry := { key := .int .i64 e.k, val := e.v, born := e.born }
def ens (l : List En) : Array MapEntry := (l.map En.toE).toArray
theorem findNow_none (i : Int) : ∀ (l : List En) (j : Nat), (∀ e ∈ l, e.k ≠ i) → Instr.findNow (.int .i64) (.int .i64 i) (l.map En.toE) j = some none
  | [], _, _ => rfl
  | e :: l, j, h => by
    have h1 : (i == e.k) = false := by have := h e (by simp); simpa using fun he => this he.symm
    show (match Instr.sameNow (.int .i64) (.int .i64 i) (.int .i64 e.k) with | some true => _ | some false => _ | none => _) = _
    simp only [Instr.sameNow, if_true, h1]
    exact findNow_none i l (j + 1) (fun x hx => h x (by simp [hx]))
theorem findNow_some (i : Int) (e : En) (post : List En) (he : e.k = i) : ∀ (pre : List En) (j : Nat), (∀ x ∈ pre, x.k ≠ i) → Instr.findNow (.int .i64) (.int .i64 i) ((pre ++ e :: post).map En.toE) j = some (some (j + pre.length, e.v))
  | [], j, _ => by
    have h1 : (i == e.k) = true := by simp [he]
    simp [Instr.findNow, En.toE, Instr.sameNow, h1]
  | x :: pre, j, h => by
    have h1 : (i == x.k) = false := by have := h x (by simp); simpa using fun he => this he.symm
    have h2 := findNow_some i e post he pre (j + 1) (fun y hy => h y (by simp [hy]))
    show (match Instr.sameNow (.int .i64) (.int .i64 i) (.int .i64 x.k) with | some true => _ | some false => _ | none => _) = _
    simp only [Instr.sameNow, if_true, h1]
    refine h2.trans ?_
    rw [List.length_cons]
    congr 3; omega
theorem modify_mid {α : Type} (f : α → α) (x : α) (post : List α) : ∀ pre : List α, (pre ++ x :: post).modify pre.length f = pre ++ f x :: post
  | [] => rfl
  | y :: pre => by
    have := modify_mid f x post pre
    simpa using this
section
variable {P : Program} {T K E : TypeId} {m clock : Nat} {W : World} {l pre post : List En} {e : En}
theorem get_map {es : Array MapEntry} (hm : W.heap[m]? = some (.map es clock)) : (getObj m).run P W = .ok (.map es clock) W := by simp [getObj, Sem.run, hm]
theorem set_map {es : Array MapEntry} (hm : W.heap[m]? = some (.map es clock)) (o : Obj) : (setObj m o).run P W = .ok () { W with heap := W.heap.setIfInBounds m o } := by simp [setObj, Sem.run, hm]
theorem check_int (hK : P.underlying K = some (.int .i64)) (b : Bool) (i : Int) : (Instr.checkKey b 10000 K (.int .i64 i)).run P W = .ok () W := by
  show (Instr.checkKey b (9999 + 1) K (.int .i64 i)).run P W = _
  unfold Instr.checkKey
  simp [run_underlying hK]
theorem lookup_none (hT : P.underlying T = some (.map K E)) (hK : P.underlying K = some (.int .i64)) {z : Value} (hz : ∀ W : World, (zeroValue E).run P W = .ok z W) (hm : W.heap[m]? = some (.map (ens l) clock)) (i : Int) (h : ∀ e ∈ l, e.k ≠ i) :
    (Instr.lookup T (.map (some m)) (.int .i64 i) true).run P W = .ok (.tuple #[z, .bool false]) W := by
  have h1 := findNow_none i l 0 h
  have hc := fun b => check_int (W := W) hK b i
  simp [Instr.lookup, run_underlying hT, get_map hm, hc, run_underlying hK, Instr.findKey, ens, h1, hz]
theorem lookup_some (hT : P.underlying T = some (.map K E)) (hK : P.underlying K = some (.int .i64)) (hm : W.heap[m]? = some (.map (ens (pre ++ e :: post)) clock)) (h : ∀ x ∈ pre, x.k ≠ e.k) :
    (Instr.lookup T (.map (some m)) (.int .i64 e.k) true).run P W = .ok (.tuple #[e.v, .bool true]) W := by
  have h1 := findNow_some e.k e post rfl pre 0 h
  have hc := fun b => check_int (W := W) hK b e.k
  rw [List.map_append, List.map_cons] at h1
  simp [Instr.lookup, run_underlying hT, get_map hm, hc, run_underlying hK, Instr.findKey, ens, h1]
theorem lookup1_some (hT : P.underlying T = some (.map K E)) (hK : P.underlying K = some (.int .i64)) (hm : W.heap[m]? = some (.map (ens (pre ++ e :: post)) clock)) (h : ∀ x ∈ pre, x.k ≠ e.k) :
    (Instr.lookup T (.map (some m)) (.int .i64 e.k) false).run P W = .ok e.v W := by
  have h1 := findNow_some e.k e post rfl pre 0 h
  have hc := fun b => check_int (W := W) hK b e.k
  rw [List.map_append, List.map_cons] at h1
  simp [Instr.lookup, run_underlying hT, get_map hm, hc, run_underlying hK, Instr.findKey, ens, h1]
def World.putMap (W : World) (m : Nat) (l : List En) (clock : Nat) : World := { W with heap := W.heap.setIfInBounds m (.map (ens l) clock) }
theorem update_new (hT : P.underlying T = some (.map K E)) (hK : P.underlying K = some (.int .i64)) (hm : W.heap[m]? = some (.map (ens l) clock)) (i : Int) (v : Value) (h : ∀ e ∈ l, e.k ≠ i) :
    (Instr.mapUpdate T (.map (some m)) (.int .i64 i) v).run P W = .ok () (World.putMap W m (l ++ [⟨i, v, clock⟩]) (clock + 1)) := by
  have h1 := findNow_none i l 0 h
  have hc := fun b => check_int (W := W) hK b i
  simp [Instr.mapUpdate, run_underlying hT, get_map hm, set_map hm, hc, run_underlying hK, Instr.findKey, ens, h1, World.putMap, En.toE]
theorem update_old (hT : P.underlying T = some (.map K E)) (hK : P.underlying K = some (.int .i64)) (hm : W.heap[m]? = some (.map (ens (pre ++ e :: post)) clock)) (v : Value) (h : ∀ x ∈ pre, x.k ≠ e.k) :
    (Instr.mapUpdate T (.map (some m)) (.int .i64 e.k) v).run P W = .ok () (World.putMap W m (pre ++ ⟨e.k, v, e.born⟩ :: post) clock) := by
  have h1 := findNow_some e.k e post rfl pre 0 h
  have h2 : Instr.sameBits 10000 (.int .i64 e.k) (.int .i64 e.k) = true := by simp [Instr.sameBits]
  have h3 := modify_mid (fun x : MapEntry => ({ key := .int .i64 e.k, val := v, born := x.born } : MapEntry)) e.toE (post.map En.toE) (pre.map En.toE)
  rw [List.length_map] at h3
  have hc := fun b => check_int (W := W) hK b e.k
  rw [List.map_append, List.map_cons] at h1
  simp only [En.toE] at h1 h3
  simp [Instr.mapUpdate, run_underlying hT, get_map hm, set_map hm, hc, run_underlying hK, Instr.findKey, ens, h1, World.putMap, Instr.keyThatStays, En.toE, h2]
  rw [h3]
end
end Go.Proofs.YtjngnigelkgekaaGreat.Kit
namespace Go.Proofs.YtjngnigelkgekaaGreat.Kit
open Go.RowKit Go.Maps Go.Shelf Go.Sort Go.Proofs.YtjngnigelkgekaaGreatW.PrintWords
theorem sortsA (m : Nat) : AnyZI.SortsIn Tryz.prog YtjngnigelkgekaaGreat.sortedA_ren Fence.wide m :=
  ⟨fun blk off cap ss W hH hblk hsz => callsIn_wide.2 (AnyM.slices_Sort_int YtjngnigelkgekaaGreat.sortA blk off cap ss W hH hblk hsz),
   fun p cap W => callsIn_wide.2 (AnyM.slices_Sort_int_none YtjngnigelkgekaaGreat.sortA p cap W)⟩
def anyR : Value → Option (DataW Unit × List MemPlace) := fun _ => some (.nil, [])
structure EnOk (l : List En) (clock : Nat) : Prop where
  keys : (l.map (·.k)).Nodup
  borns : (l.map (·.born)).Nodup
  each : ∀ e ∈ l, e.born < clock ∧ -9223372036854775808 ≤ e.k ∧ e.k ≤ 9223372036854775807
  size : l.length ≤ 1000000
theorem enFit {l : List En} {clock : Nat} (h : EnOk l clock) : WideElems.Fit Tryz.prog 3 anyR (ens l) clock := by
  refine ⟨?_, ⟨?_, ?_, ?_⟩, ?_⟩
  · have := h.size; simp only [ens, List.size_toArray, List.length_map, maxLen]; omega
  · intro x hx
    obtain ⟨e, he, rfl⟩ := List.mem_map.1 (by simpa [ens] using hx)
    exact (h.each e he).1
  · have : (ens l).toList.map (·.born) = l.map (·.born) := by simp [ens, En.toE]
    rw [this]; exact h.borns
  · have : (ens l).toList.map (·.key) = (l.map (·.k)).map (Value.int .i64) := by simp [ens, En.toE]
    rw [this]
    exact List.pairwise_map.2 (h.keys.imp fun hne he => hne (by injection he))
  · intro x hx
    obtain ⟨e, he, rfl⟩ := List.mem_map.1 (by simpa [ens] using hx)
    have hw : (Lit.int .i64 e.k).wf = true := by
      have := h.each e he
      exact WalkArith.wf_i64 ⟨this.2.1, this.2.2⟩
    exact ⟨_, by simp [WideElems.rd, En.toE, keyOf_int_mk Tryz.underlying3 hw, anyR]; rfl⟩
theorem enOwns {l : List En} {clock m : Nat} {W : World} (h : EnOk l clock) (hm : W.heap[m]? = some (.map (ens l) clock)) :
    W.ownsMap Tryz.prog 3 anyR m l.length (.map (((ens l).toList.map (WideElems.rg Tryz.prog 3 anyR)).foldr DataW.insert [])) :=
  ⟨ens l, clock, hm, enFit h, by simp [ens], rfl⟩
theorem enKeys {l : List En} {clock : Nat} (h : EnOk l clock) : (intKeys (DataW.map (((ens l).toList.map (WideElems.rg Tryz.prog 3 anyR)).foldr DataW.insert []))).Perm (l.map (·.k)) := by
  have h1 : (((ens l).toList.map (WideElems.rg Tryz.prog 3 anyR)).foldr DataW.insert []).Perm ((ens l).toList.map (WideElems.rg Tryz.prog 3 anyR)) := WideShapes.sorted_perm _
  have h2 := h1.map (fun p => Go.intOf p.1)
  refine h2.trans ?_
  have : ((ens l).toList.map (WideElems.rg Tryz.prog 3 anyR)).map (fun p => Go.intOf p.1) = l.map (·.k) := by
    simp only [ens, List.map_map]
    refine List.map_congr_left fun e he => ?_
    have hw : (Lit.int .i64 e.k).wf = true := by
      have := h.each e he
      exact WalkArith.wf_i64 ⟨this.2.1, this.2.2⟩
    simp [WideElems.rg, WideElems.rd, En.toE, keyOf_int_mk Tryz.underlying3 hw, anyR, Go.intOf]
  rw [this]
theorem enSize {l : List En} {clock : Nat} (h : EnOk l clock) : Maps.size (DataW.map (((ens l).toList.map (WideElems.rg Tryz.prog 3 anyR)).foldr DataW.insert [])) = l.length := by
  have h1 : (((ens l).toList.map (WideElems.rg Tryz.prog 3 anyR)).foldr DataW.insert []).Perm ((ens l).toList.map (WideElems.rg Tryz.prog 3 anyR)) := WideShapes.sorted_perm _
  have := h1.length_eq
  simp only [ens, List.length_map] at this
  simpa [Maps.size, ens] using this
theorem sort_is {ss ks : List Int} (hp : ss.Perm ks) (hs : ks.Pairwise (· ≤ ·)) : ss.mergeSort (fun x y => decide (x ≤ y)) = ks := by
  have tr : ∀ a b c : Int, (fun x y : Int => decide (x ≤ y)) a b = true → (fun x y : Int => decide (x ≤ y)) b c = true → (fun x y : Int => decide (x ≤ y)) a c = true := fun a b c h1 h2 => by simp only [decide_eq_true_eq] at *; omega
  have tot : ∀ a b : Int, ((fun x y : Int => decide (x ≤ y)) a b || (fun x y : Int => decide (x ≤ y)) b a) = true := fun a b => by simp only [Bool.or_eq_true, decide_eq_true_eq]; omega
  refine List.Perm.eq_of_pairwise (le := fun a b => a ≤ b) (fun a b _ _ h1 h2 => by omega) ?_ hs ((List.mergeSort_perm _ _).trans hp)
  exact (List.pairwise_mergeSort tr tot ss).imp (fun h => by simpa using h)
set_option maxHeartbeats 1000000 in
theorem keysA_ (m : Nat) (w : World) : Calls Tryz.prog 96 #[.map (some m)] w fun e w' => e = .returned (.func (.func 121) #[] #[.pointer (some ⟨w.heap.size, 0, none⟩)]) ∧ w' = w.alloc (.cells #[.map (some m)] 98) :=
  callsIn_wide.1 (AnyZI.keys_in YtjngnigelkgekaaGreat.keysA Fence.wide 5 trivial rfl (some m) w)
set_option maxHeartbeats 1000000 in
theorem sortedA_ {l : List En} {clock m : Nat} {w : World} {ks : List Int} (h : EnOk l clock) (hm : w.heap[m]? = some (.map (ens l) clock)) (hk : (l.map (·.k)).Perm ks) (hs : ks.Pairwise (· ≤ ·)) :
    Calls Tryz.prog 92 #[.func (.func 121) #[] #[.pointer (some ⟨w.heap.size, 0, none⟩)]] (w.alloc (.cells #[.map (some m)] 98)) fun e w' => ∃ v, e = .returned v ∧ Sep w w' [Row (Kd.int .i64) 3 v ks] := by
  have hbl : m < w.heap.size := (Array.getElem?_eq_some_iff.1 hm).1
  have hm1 : (w.alloc (.cells #[.map (some m)] 98)).heap[m]? = some (.map (ens l) clock) := (Below.heap_alloc _ _ m hbl).trans hm
  have hseq : SeqGives Fence.wide 2 Tryz.prog 121 #[.pointer (some ⟨w.heap.size, 0, none⟩)] encZ (fun ss => ss.Perm (intKeys (DataW.map (((ens l).toList.map (WideElems.rg Tryz.prog 3 anyR)).foldr DataW.insert [])))) (Maps.size (DataW.map (((ens l).toList.map (WideElems.rg Tryz.prog 3 anyR)).foldr DataW.insert []))) (w.alloc (.cells #[.map (some m)] 98)) :=
    AnyZI.keys_gives (ρ := YtjngnigelkgekaaGreat.keysA_ren) { YtjngnigelkgekaaGreat.keysA with } Fence.wide _ trivial rfl (by omega) w.heap.size m l.length _ _ (by simp) (by simp) (enOwns h hm1)
  rw [enSize h] at hseq
  have cS := AnyZI.sorted_in YtjngnigelkgekaaGreat.sortedA Fence.wide 5 trivial trivial trivial trivial rfl (by omega) (sortsA _) (enters_of Tryz.func117 (by kernel_rfl) rfl) 121 #[.pointer (some ⟨w.heap.size, 0, none⟩)] trivial (enters_of Tryz.func121 (by kernel_rfl) rfl) _ _ (by have := h.size; simp only [maxLen]; omega) (by have := h.size; omega) _ hseq
  refine (callsIn_wide.1 cS).mono ?_
  rintro e w' ⟨v, ss, rfl, hS, hrow, hnil, hb⟩
  refine ⟨v, rfl, ?_⟩
  have hss := sort_is ((hS.trans (enKeys h)).trans hk) hs
  rw [hss] at hrow
  have hl : ss.length = ks.length := ((hS.trans (enKeys h)).trans hk).length_eq
  rw [hl] at hrow
  refine ((Sep.start w).alloc (.cells #[.map (some m)] 98)).newRow (ok := fun _ => True) ?_ hb
  exact Kd.R_of_own hrow (fun _ _ => trivial)
end Go.Proofs.YtjngnigelkgekaaGreat.Kit
namespace Go.Proofs.YtjngnigelkgekaaGreat.Store
open Go.RowKit Go.Maps Go.Shelf Go.Sort Go.Proofs.YtjngnigelkgekaaGreatW.PrintWords Go.Proofs.YtjngnigelkgekaaGreat.Kit
def SetM (m : Nat) (ks : List Int) : HP := Ex fun x : List En × Nat => Star [Pu (EnOk x.1 x.2 ∧ x.1.map (·.k) = ks), MapB m (ens x.1) x.2]
def insK (ks : List Int) (k : Int) : List Int := if k ∈ ks then ks else ks ++ [k]
def sortK (ks : List Int) : List Int := ks.mergeSort (fun x y => decide (x ≤ y))
theorem sortK_perm (ks : List Int) : ks.Perm (sortK ks) := (List.mergeSort_perm _ _).symm
theorem sortK_sorted (ks : List Int) : (sortK ks).Pairwise (· ≤ ·) := by
  have tr : ∀ a b c : Int, (fun x y : Int => decide (x ≤ y)) a b = true → (fun x y : Int => decide (x ≤ y)) b c = true → (fun x y : Int => decide (x ≤ y)) a c = true := fun a b c h1 h2 => by simp only [decide_eq_true_eq] at *; omega
  have tot : ∀ a b : Int, ((fun x y : Int => decide (x ≤ y)) a b || (fun x y : Int => decide (x ≤ y)) b a) = true := fun a b => by simp only [Bool.or_eq_true, decide_eq_true_eq]; omega
  exact (List.pairwise_mergeSort tr tot ks).imp (fun h => by simpa using h)
section
variable {w0 W : World} {F : List HP} {m : Nat} {ks : List Int}
theorem set_open (h : Sep w0 W (SetM m ks :: F)) : ∃ l clock, EnOk l clock ∧ l.map (·.k) = ks ∧ Sep w0 W (MapB m (ens l) clock :: F) := by
  obtain ⟨⟨l, clock⟩, h1⟩ := h.ex
  obtain ⟨⟨h2, h3⟩, h4⟩ := h1.star.pu
  exact ⟨l, clock, h2, h3, h4⟩
theorem set_shut {l : List En} {clock : Nat} (h1 : EnOk l clock) (h2 : l.map (·.k) = ks) (h : Sep w0 W (MapB m (ens l) clock :: F)) : Sep w0 W (SetM m ks :: F) :=
  Sep.unex (l, clock) (Sep.unstar (L := [_, _]) (h.unpu ⟨h1, h2⟩))
theorem enOk_nil (clock : Nat) : EnOk [] clock := ⟨List.nodup_nil, List.nodup_nil, fun e he => (by cases he), by simp⟩
theorem set_new (h : Sep w0 W F) : Sep w0 (W.alloc (.map #[] 0)) (SetM W.heap.size [] :: F) := set_shut (l := []) (enOk_nil 0) rfl h.newMap
theorem putMap_sep {l l' : List En} {clock clock' : Nat} (h : Sep w0 W (MapB m (ens l) clock :: F)) : Sep w0 (World.putMap W m l' clock') (MapB m (ens l') clock' :: F) := h.setMap _ _
theorem set_put {v : Value} (h : Sep w0 W (SetM m ks :: F)) (k : Int) (hk : -9223372036854775808 ≤ k ∧ k ≤ 9223372036854775807) (hs : ks.length < 1000000) :
    ∃ W', (Instr.mapUpdate 106 (.map (some m)) (.int .i64 k) v).run Tryz.prog W = .ok () W' ∧ Sep w0 W' (SetM m (insK ks k) :: F) := by
  obtain ⟨l, clock, hok, hl, hS⟩ := set_open h
  by_cases hin : k ∈ ks
  · have hin2 := hin
    rw [← hl] at hin2
    obtain ⟨e, he, hek⟩ := List.mem_map.1 hin2
    obtain ⟨pre, post, hsp⟩ := List.append_of_mem he
    subst hsp
    have hnd := hok.keys
    rw [List.map_append, List.map_cons, List.nodup_append] at hnd
    have hp : ∀ x ∈ pre, x.k ≠ e.k := fun x hx => hnd.2.2 _ (List.mem_map_of_mem hx) _ (List.mem_cons_self ..)
    rw [← hek]
    refine ⟨_, update_old Tryz.underlying106 Tryz.underlying3 hS.map v hp, ?_⟩
    refine set_shut ?_ ?_ (putMap_sep hS)
    · refine ⟨by have := hok.keys; simpa using this, by have := hok.borns; simpa using this, fun x hx => ?_, by have := hok.size; simpa using this⟩
      rcases List.mem_append.1 hx with h1 | h1
      · exact hok.each x (by simp [h1])
      · rcases List.mem_cons.1 h1 with rfl | h1
        · exact hok.each e (by simp)
        · exact hok.each x (by simp [h1])
    · rw [insK, if_pos (by rw [hek]; exact hin), ← hl]
      simp
  · have hne : ∀ e ∈ l, e.k ≠ k := fun e he h1 => hin (by rw [← hl, ← h1]; exact List.mem_map_of_mem he)
    refine ⟨_, update_new Tryz.underlying106 Tryz.underlying3 hS.map k v hne, ?_⟩
    refine set_shut ?_ ?_ (putMap_sep hS)
    · refine ⟨?_, ?_, fun x hx => ?_, ?_⟩
      · rw [List.map_append, List.nodup_append]
        refine ⟨hok.keys, by simp, fun a ha b hb => ?_⟩
        obtain rfl : b = k := by simpa using hb
        obtain ⟨e, he, rfl⟩ := List.mem_map.1 ha
        exact hne e he
      · rw [List.map_append, List.nodup_append]
        refine ⟨hok.borns, by simp, fun a ha b hb => ?_⟩
        obtain rfl : b = clock := by simpa using hb
        obtain ⟨e, he, rfl⟩ := List.mem_map.1 ha
        have := (hok.each e he).1
        omega
      · rcases List.mem_append.1 hx with h1 | h1
        · have := hok.each x h1
          exact ⟨by omega, this.2⟩
        · obtain rfl := List.mem_singleton.1 h1
          exact ⟨by simp, hk⟩
      · have : l.length = ks.length := by rw [← hl, List.length_map]
        simp; omega
    · rw [insK, if_neg hin, List.map_append, hl]; rfl
theorem set_clear (h : Sep w0 W (SetM m ks :: F)) (ty : TypeId) : ∃ W', (Builtin.clear_ #[106] ty #[.map (some m)]).run Tryz.prog W = .ok (.tuple #[]) W' ∧ Sep w0 W' (SetM m [] :: F) := by
  obtain ⟨l, clock, hok, hl, hS⟩ := set_open h
  refine ⟨_, ?_, set_shut (l := []) (enOk_nil clock) rfl (hS.setMap (ens []) clock)⟩
  simp [Builtin.clear_, run_underlying Tryz.underlying106, get_map hS.map, set_map hS.map, ens]
end
set_option maxHeartbeats 1000000 in
theorem keysB_ (m : Nat) (w : World) : Calls Tryz.prog 93 #[.map (some m)] w fun e w' => e = .returned (.func (.func 118) #[] #[.pointer (some ⟨w.heap.size, 0, none⟩)]) ∧ w' = w.alloc (.cells #[.map (some m)] 106) :=
  callsIn_wide.1 (AnyZI.keys_in YtjngnigelkgekaaGreat.keysB Fence.wide 5 trivial rfl (some m) w)
set_option maxHeartbeats 1000000 in
theorem sortedB_ {l : List En} {clock m : Nat} {w : World} {ks : List Int} (h : EnOk l clock) (hm : w.heap[m]? = some (.map (ens l) clock)) (hk : (l.map (·.k)).Perm ks) (hs : ks.Pairwise (· ≤ ·)) :
    Calls Tryz.prog 92 #[.func (.func 118) #[] #[.pointer (some ⟨w.heap.size, 0, none⟩)]] (w.alloc (.cells #[.map (some m)] 106)) fun e w' => ∃ v, e = .returned v ∧ Sep w w' [Row (Kd.int .i64) 3 v ks] := by
  have hbl : m < w.heap.size := (Array.getElem?_eq_some_iff.1 hm).1
  have hm1 : (w.alloc (.cells #[.map (some m)] 106)).heap[m]? = some (.map (ens l) clock) := (Below.heap_alloc _ _ m hbl).trans hm
  have hseq : SeqGives Fence.wide 2 Tryz.prog 118 #[.pointer (some ⟨w.heap.size, 0, none⟩)] encZ (fun ss => ss.Perm (intKeys (DataW.map (((ens l).toList.map (WideElems.rg Tryz.prog 3 anyR)).foldr DataW.insert [])))) (Maps.size (DataW.map (((ens l).toList.map (WideElems.rg Tryz.prog 3 anyR)).foldr DataW.insert []))) (w.alloc (.cells #[.map (some m)] 106)) :=
    AnyZI.keys_gives (ρ := YtjngnigelkgekaaGreat.keysB_ren) { YtjngnigelkgekaaGreat.keysB with } Fence.wide _ trivial rfl (by omega) w.heap.size m l.length _ _ (by simp) (by simp) (enOwns h hm1)
  rw [enSize h] at hseq
  have cS := AnyZI.sorted_in YtjngnigelkgekaaGreat.sortedA Fence.wide 5 trivial trivial trivial trivial rfl (by omega) (sortsA _) (enters_of Tryz.func117 (by kernel_rfl) rfl) 118 #[.pointer (some ⟨w.heap.size, 0, none⟩)] trivial (enters_of Tryz.func118 (by kernel_rfl) rfl) _ _ (by have := h.size; simp only [maxLen]; omega) (by have := h.size; omega) _ hseq
  refine (callsIn_wide.1 cS).mono ?_
  rintro e w' ⟨v, ss, rfl, hS, hrow, hnil, hb⟩
  refine ⟨v, rfl, ?_⟩
  have hss := sort_is ((hS.trans (enKeys h)).trans hk) hs
  rw [hss] at hrow
  have hl : ss.length = ks.length := ((hS.trans (enKeys h)).trans hk).length_eq
  rw [hl] at hrow
  refine ((Sep.start w).alloc (.cells #[.map (some m)] 106)).newRow (ok := fun _ => True) ?_ hb
  exact Kd.R_of_own hrow (fun _ _ => trivial)
end Go.Proofs.YtjngnigelkgekaaGreat.Store
namespace Go.Proofs.YtjngnigelkgekaaGreat.Disk
open Go.RowKit Go.Proofs.YtjngnigelkgekaaGreatW.PrintWords Go.Proofs.YtjngnigelkgekaaGreatW.PrintLast Go.Proofs.YtjngnigelkgekaaGreatW.PrintMore Go.Proofs.YtjngnigelkgekaaGreat.Kit
theorem infoB : (Tryz.prog.info? 5).map (fun i => (i.zero, i.size, i.bytes)) = some (some (.int .u8 0), 1, 1) := by kernel_rfl
abbrev U8 : Kd Int := Kd.int .u8
structure Ent where
  k : Nat
  b : List Int
  A : Option Addr
  c : Nat
  born : Nat
def Ent.en (e : Ent) : En := ⟨(e.k : Int), .slice e.A 64 e.c, e.born⟩
def Ent.rd (e : Ent) : HP := Rd U8 e.A 64 e.b
structure DskOk (las : List Int) (ents : List Ent) (clock : Nat) (wt : Nat → Option (List Int)) : Prop where
  len : ∃ n, las.length = 64 * n ∧ 1 ≤ n ∧ n ≤ 160
  keys : (ents.map (·.k)).Nodup
  borns : (ents.map (·.born)).Nodup
  each : ∀ e ∈ ents, e.born < clock ∧ 64 * e.k < las.length ∧ e.b.length = 64 ∧ 64 ≤ e.c
  wt : ∀ i, wt i = (ents.find? (fun e => e.k == i)).map (·.b)
def Dsk (g : Nat) (las : List Int) (wt : Nat → Option (List Int)) : HP := Ex fun (x : Value × Nat × List Ent × Nat) =>
  Star (Pu (DskOk las x.2.2.1 x.2.2.2 wt) :: Blk g 100 #[x.1, .map (some x.2.1)] :: Row U8 5 x.1 las :: MapB x.2.1 (ens (x.2.2.1.map Ent.en)) x.2.2.2 :: x.2.2.1.map Ent.rd)
section
variable {w0 W : World} {g : Nat} {las : List Int} {wt : Nat → Option (List Int)} {F : List HP}
theorem open_ (h : Sep w0 W (Dsk g las wt :: F)) : ∃ v m ents clock, DskOk las ents clock wt ∧ Sep w0 W (Blk g 100 #[v, .map (some m)] :: Row U8 5 v las :: MapB m (ens (ents.map Ent.en)) clock :: (ents.map Ent.rd ++ F)) := by
  obtain ⟨⟨v, m, ents, clock⟩, h⟩ := h.ex
  obtain ⟨hok, h⟩ := h.star.pu
  exact ⟨v, m, ents, clock, hok, h⟩
theorem shut_ {v : Value} {m : Nat} {ents : List Ent} {clock : Nat} (hok : DskOk las ents clock wt) (h : Sep w0 W (Blk g 100 #[v, .map (some m)] :: Row U8 5 v las :: MapB m (ens (ents.map Ent.en)) clock :: (ents.map Ent.rd ++ F))) : Sep w0 W (Dsk g las wt :: F) := by
  refine Sep.unex (v, m, ents, clock) (Sep.unstar ?_)
  exact Sep.unpu hok h
theorem DskOk.pos {ents : List Ent} {clock : Nat} (h : DskOk las ents clock wt) : 64 ≤ las.length ∧ las.length ≤ 10240 ∧ (las.length / 64) * 64 = las.length := by
  obtain ⟨n, h1, h2, h3⟩ := h.len
  omega
theorem reads_ (h : Sep w0 W (Dsk g las wt :: F)) : ∃ gl c m, W.cell? ⟨g, 0, none⟩ = some (.slice (some ⟨gl, 0, none⟩) las.length c) ∧ W.cell? ⟨g, 1, none⟩ = some (.map (some m)) ∧ las.length ≤ c ∧ U8.C W (some ⟨gl, 0, none⟩) las.length las ∧ 64 ≤ las.length ∧ las.length ≤ 10240 ∧ (las.length / 64) * 64 = las.length := by
  obtain ⟨v, m, ents, clock, hok, h⟩ := open_ h
  obtain ⟨p1, p2, p3⟩ := hok.pos
  obtain ⟨gl, c, rfl⟩ := h.tail.rowForm (by omega)
  have hr := h.tail.rowC
  exact ⟨gl, c, m, by rw [h.cell 0]; rfl, by rw [h.cell 1]; rfl, hr.2.1, hr.2.2, p1, p2, p3⟩
end
def cloneF (l0 : List Int) : Option (List Int) := if l0.length < 140737488355328 then (some l0) else none
set_option maxHeartbeats 8000000 in
set_option maxRecDepth 100000 in
theorem clone0 (A0 : Option Addr) (c0 : Nat) (l0 : List Int) (r : List Int) (w : World) (hr0 : Kd.C (Kd.int .u8) w A0 l0.length l0) (hc0 : l0.length ≤ c0) (h : cloneF l0 = some r) :
    Calls Tryz.prog 60 #[.slice A0 l0.length c0] w fun e w' => ∃ v0_ : Value, e = .returned (v0_) ∧ Kd.R (Kd.int .u8) 5 w' w.heap.size (fun _ => True) v0_ r ∧ Below w.heap.size w w' := by
  have HR0 := Aside0.mk hr0
  have HC0 := Aside0.mk hc0
  clear hr0 hc0
  have HB := Aside0.mk (Below.refl w.heap.size w)
  have hl : l0.length < 140737488355328 ∧ l0 = r := by
    unfold cloneF at h
    split at h
    · exact ⟨by assumption, Option.some.inj h⟩
    · cases h
  obtain ⟨hl, rfl⟩ := hl
  have LMc3 := Aside0.mk hl
  clear h hl
  cases A0 with
  | none =>
    have hl0 : l0 = [] := by
      have := HR0.out
      cases l0 with
      | nil => rfl
      | cons a t => obtain ⟨ad, e, _⟩ := Kd.at_int HR0.out 0 (by decide) (by simp); cases e
    subst hl0
    have heq : ∀ W : World, Sem.run Tryz.prog (binOp .eql 24 (.slice none 0 c0) (.slice none 0 0)) W = .ok (.bool true) W := fun W => Lib.run_eql_slice_nil W 24 5 none _ c0 0 0 Tryz.underlying24
    show Calls Tryz.prog 60 #[.slice none 0 c0] w _
    go_enter Tryz.func60, Tryz.ntmps60
    go_wp2
    go_ret
    exact ⟨_, rfl, Kd.R_nil _ _ _ _ _, HB.out⟩
  | some a0 =>
    have heq : ∀ W : World, Sem.run Tryz.prog (binOp .eql 24 (.slice (some a0) l0.length c0) (.slice none 0 0)) W = .ok (.bool false) W := fun W => Lib.run_eql_slice_nil W 24 5 (some a0) _ c0 0 0 Tryz.underlying24
    go_enter Tryz.func60, Tryz.ntmps60
    go_wp2_with (first | ((with_reducible refine gate_dst (N := 5) rfl ?_); refine Kd.R_lit (Kd.int .u8) _ 5 ?hg (N := 5) ?hd (xs := ([] : List Int)) (inner := []) (ok := fun _ => True) (okp := fun _ => True) ?hr ?hp (fun _ hk => hk) trivial (Below.refl _ _) (Nat.le_refl _) (by simp) ?_; (case hd => rfl); (case hg => rfl); (case hr => first | (go_simp; done) | (go_simp; rfl)); (case hp => exact (Reps.none _ _)); intro v117 w5 ho6 hb hg_ hnew_; clear hg_ hnew_; have n0_ := Aside0.mk (Kd.R_lower ho6 (below_size (by repeat (first | (with_reducible first | exact HB.out | apply below_alloc | apply pw_below_drewN | apply below_drew1) | exact HB.out)))); have n1_ := Aside0.mk (below_step (by repeat (first | (with_reducible first | exact HB.out | apply below_alloc | apply pw_below_drewN | apply below_drew1) | exact HB.out)) hb); clear HB; have HO118 := n0_; have HB := n1_; clear n0_ n1_; clear hb ho6) | ((with_reducible refine gate_builtin (b := .append) (xs := #[.tmp 5, .tmp 6]) rfl ?_); at_builtin; refine Kd.R_append_rows (Kd.int .u8) (w0 := w) w.heap.size rfl (.tmp 5) (.tmp 6) 24 5 (.int .u8 0) 1 rfl Tryz.underlying24 infoB rfl (by decide) (by omega) v117 [] l0 _ _ _ (fun _ => True) (fun _ => False) rfl rfl ?aO ?aR (fun _ _ h => h) (fun _ h => h.elim) ?aF ?aB ?aS ?aL ?_; (case aR => repeat (first | exact (Kd.C_below HR0.out HB.out) | (with_reducible refine Kd.C_alloc ?_ _) | (with_reducible refine Kd.C_drewN ?_ _) | (with_reducible refine Kd.C_drew ?_))); (case aB => exact (by repeat (first | (with_reducible first | exact HB.out | apply below_alloc | apply pw_below_drewN | apply below_drew1) | exact HB.out))); (case aF => exact (fun _ _ => trivial)); (case aO => exact (by (with_reducible repeat (first | apply Kd.R_alloc | apply Kd.R_drewN | apply Kd.R_drew)); exact HO118.out)); (case aS => exact (below_size (by repeat (first | (with_reducible first | exact HB.out | apply below_alloc | apply pw_below_drewN | apply below_drew1) | exact HB.out)))); (case aL => have := LMc3.out; simp only [List.length_nil]; omega); intro v120 w7 ho hb hg hat; rw [List.nil_append] at ho; have n0_ := Aside0.mk (hb); have n1_ := Aside0.mk (ho); clear HB; clear HO118; have HB := n0_; have HO121 := n1_; clear n0_ n1_; clear ho hb hg hat))
    go_ret
    exact ⟨_, by first | rfl | (simp; done) | (simp [*]; done), by (with_reducible repeat (first | apply Kd.R_alloc | apply Kd.R_drewN | apply Kd.R_drew)); exact Kd.R_mono HO121.out (fun _ hk => trivial), by repeat (first | (with_reducible first | exact HB.out | apply below_alloc | apply pw_below_drewN | apply below_drew1) | exact HB.out)⟩
theorem clone_ {A : Option Addr} {n c : Nat} {l : List Int} {w : World} (hr : U8.C w A n l) (hc : n ≤ c) (hl : n < 140737488355328) :
    Calls Tryz.prog 60 #[.slice A n c] w fun e w' => ∃ v, e = .returned v ∧ Sep w w' [Row U8 5 v l] := by
  obtain rfl : l.length = n := hr.1
  refine (clone0 A c l l w hr hc (if_pos hl)).mono ?_
  rintro e w' ⟨v, rfl, hR, hB⟩
  exact ⟨v, rfl, (Sep.start w).newRow hR hB⟩
set_option maxHeartbeats 400000 in
theorem len_ {w0 W : World} {g : Nat} {las : List Int} {wt : Nat → Option (List Int)} {F : List HP} (h : Sep w0 W (Dsk g las wt :: F)) :
    Calls Tryz.prog 65 #[.pointer (some ⟨g, 0, none⟩)] W fun e w' => e = .returned (.int .i64 ((las.length : Int) / 64)) ∧ W = w' := by
  obtain ⟨gl, c, m, h0, h1, h2, h3, h4, h5, h6⟩ := reads_ h
  clear h h1 h3 h6
  go_enter Tryz.func65, Tryz.ntmps65
  go_wp2
  go_ret
  exact ⟨by first | rfl | (simp; done), rfl⟩
theorem ret_slice {g o o' n n' c c' : Nat} (h1 : o = o') (h2 : n = n') (h3 : c = c') : Ending.returned (.slice (some ⟨g, o, none⟩) n c) = Ending.returned (.slice (some ⟨g, o', none⟩) n' c') := by rw [h1, h2, h3]
set_option maxHeartbeats 400000 in
theorem there_ {w0 W : World} {g : Nat} {las : List Int} {wt : Nat → Option (List Int)} {F : List HP} (h : Sep w0 W (Dsk g las wt :: F)) (i : Int) :
    Calls Tryz.prog 101 #[.pointer (some ⟨g, 0, none⟩), .int .i64 i] W fun e w' => e = .returned (.bool (decide (0 ≤ i ∧ i < (las.length : Int) / 64))) ∧ W = w' := by
  by_cases h0 : 0 ≤ i
  all_goals
    go_enter Tryz.func101, Tryz.ntmps101
    go_wp2_with (go_at_call 65; refine (len_ h).mono ?_; rintro e w' ⟨rfl, rfl⟩)
    go_ret
    exact ⟨by simp [h0] <;> omega, rfl⟩
set_option maxHeartbeats 400000 in
theorem sector_ {W : World} {g gl L c i : Nat} (h0 : W.cell? ⟨g, 0, none⟩ = some (.slice (some ⟨gl, 0, none⟩) L c)) (hi : 64 * (i + 1) ≤ L) (hL : L ≤ 10240) (hc : L ≤ c) :
    Calls Tryz.prog 58 #[.pointer (some ⟨g, 0, none⟩), .int .i64 (i : Int)] W fun e w' => e = .returned (.slice (some ⟨gl, 64 * i, none⟩) 64 (c - 64 * i)) ∧ W = w' := by
  go_enter Tryz.func58, Tryz.ntmps58
  go_wp2
  go_ret
  exact ⟨ret_slice (by omega) (by omega) (by omega), rfl⟩
set_option maxHeartbeats 400000 in
theorem image_ {w0 W : World} {g : Nat} {las : List Int} {wt : Nat → Option (List Int)} {F : List HP} (h : Sep w0 W (Dsk g las wt :: F)) :
    Calls Tryz.prog 21 #[.pointer (some ⟨g, 0, none⟩)] W fun e w' => ∃ v, e = .returned v ∧ Sep w0 w' (Row U8 5 v las :: Dsk g las wt :: F) := by
  obtain ⟨gl, c, m, h0, h1, h2, h3, h4, h5, h6⟩ := reads_ h
  have H3 := Aside0.mk h3
  clear h1 h3 h6
  go_enter Tryz.func21, Tryz.ntmps21
  go_wp2_with (go_at_call 60; refine (clone_ H3.out h2 (by omega)).mono ?_; rintro e w' ⟨v, rfl, hS⟩)
  go_ret
  exact ⟨_, by first | rfl | (simp; done), h.lift1 hS⟩
end Go.Proofs.YtjngnigelkgekaaGreat.Disk
namespace Go.Proofs.YtjngnigelkgekaaGreat.Disk
open Go.RowKit Go.Proofs.YtjngnigelkgekaaGreatW.PrintWords Go.Proofs.YtjngnigelkgekaaGreatW.PrintLast Go.Proofs.YtjngnigelkgekaaGreatW.PrintMore Go.Proofs.YtjngnigelkgekaaGreat.Kit
set_option maxHeartbeats 400000 in
theorem of_ok {A : Option Addr} {m c : Nat} {l : List Int} {w : World} (hr : U8.C w A m l) (hc : m ≤ c) {n : Nat} (hn : m = 64 * n) (h1 : 1 ≤ n) (h2 : n ≤ 160) :
    Calls Tryz.prog 20 #[.slice A m c] w fun e w' => ∃ g, e = .returned (.pointer (some ⟨g, 0, none⟩)) ∧ Sep w w' [Dsk g l (fun _ => none)] := by
  obtain rfl : l.length = m := hr.1
  have HR := Aside0.mk hr
  have HC := Aside0.mk hc
  have hok : DskOk l [] 0 (fun _ => none) := ⟨⟨n, hn, h1, h2⟩, List.nodup_nil, List.nodup_nil, fun _ h => absurd h (by simp), fun _ => rfl⟩
  have HOK := Aside0.mk hok
  have b0 : ¬ l = [] := fun e => by rw [e] at hn; simp at hn; omega
  have b1 : ((l.length : Int) == 0) = false := by simp [b0]
  have b2 : l.length ≤ 10240 := by omega
  have b3 : ((l.length : Int) % 64 != 0) = false := by simp; omega
  have b5 : ¬ (10240 < (l.length : Int)) := by omega
  have hmm := @run_makeMap Tryz.prog
  clear hr hc hn h1 h2 hok
  go_enter Tryz.func20, Tryz.ntmps20
  go_wp2_with (go_at_call 60; refine (clone_ HR.out HC.out (by omega)).mono ?_; rintro e w1 ⟨v, rfl, hS⟩; obtain ⟨A1, c1, rfl⟩ := hS.rowV)
  go_ret
  refine ⟨_, by first | rfl | (simp; done), shut_ (v := .slice A1 l.length c1) (m := w1.heap.size) HOK.out ?_⟩
  have h3 := (hS.newMap.newBlk 100 #[.slice A1 l.length c1, .map (some w1.heap.size)]).sw23
  simpa [ens] using h3
set_option maxHeartbeats 400000 in
theorem of_none {A : Option Addr} {m c : Nat} {l : List Int} {w : World} (hr : U8.C w A m l) (hb : m = 0 ∨ m % 64 ≠ 0 ∨ 10240 < m) :
    Calls Tryz.prog 20 #[.slice A m c] w fun e w' => e = .returned (.pointer none) ∧ w = w' := by
  obtain rfl : l.length = m := hr.1
  have hm : l.length ≤ 9223372036854775807 := hr.2.1
  clear hr
  by_cases b0 : l = []
  · subst b0
    clear hb
    show Calls Tryz.prog 20 #[.slice A 0 c] w _
    go_enter Tryz.func20, Tryz.ntmps20
    go_wp2
    go_ret
    exact ⟨by first | rfl | (simp; done), rfl⟩
  have b1 : ((l.length : Int) == 0) = false := by simp [b0]
  have b4 : ¬ l.length = 0 := by simpa using b0
  by_cases b3 : l.length % 64 = 0
  · have b6 : ((l.length : Int) % 64 != 0) = false := by simp; omega
    have b5 : 10240 < (l.length : Int) := by omega
    clear hb b3 b4
    go_enter Tryz.func20, Tryz.ntmps20
    go_wp2
    go_ret
    exact ⟨by first | rfl | (simp; done), rfl⟩
  · have b6 : ((l.length : Int) % 64 != 0) = true := by simp; omega
    clear hb b3 b4
    go_enter Tryz.func20, Tryz.ntmps20
    go_wp2
    go_ret
    exact ⟨by first | rfl | (simp; done), rfl⟩
set_option maxHeartbeats 400000 in
theorem new_ok {n : Nat} {w : World} (h1 : 1 ≤ n) (h2 : n ≤ 160) :
    Calls Tryz.prog 26 #[.int .i64 (n : Int)] w fun e w' => ∃ g, e = .returned (.pointer (some ⟨g, 0, none⟩)) ∧ Sep w w' [Dsk g (List.replicate (n * 64) 0) (fun _ => none)] := by
  have hmk : ∀ W : World, (Instr.makeSlice 24 (.int .i64 ((n : Int) * 64)) (.int .i64 ((n : Int) * 64))).run Tryz.prog W = .ok (.slice (some ⟨W.heap.size, 0, none⟩) (n * 64) (n * 64)) (W.alloc (.cells (madeCells #[.int .u8 0] (n * 64)) 5)) := by
    intro W
    have := print_make (P := Tryz.prog) 24 5 .u8 1 Tryz.underlying24 infoB (by decide) (n * 64) (by omega) W
    rwa [Int.natCast_mul] at this
  have hS := (Sep.start w).madeRow (h1 := fun _ => rfl) (e := 5) (enc := Value.int .u8) 0 (n * 64) (by omega)
  have HS := Aside0.mk hS
  have h1' : ¬ (n : Int) < 1 := by omega
  have h2' : ¬ 160 < (n : Int) := by omega
  clear hS
  go_enter Tryz.func26, Tryz.ntmps26
  go_wp2_with fail
  refine (of_ok (n := n) (l := List.replicate (n * 64) 0) HS.out.rowRd.rd (Nat.le_refl _) (by omega) h1 h2).mono ?_
  rintro e w1 ⟨g, rfl, hS1⟩
  go_wp2
  go_ret
  exact ⟨g, by first | rfl | (simp; done), ((Sep.start w).alloc _).lift1 hS1⟩
end Go.Proofs.YtjngnigelkgekaaGreat.Disk
namespace Go.Proofs.YtjngnigelkgekaaGreat.Kit
open Go.RowKit Go.Proofs.YtjngnigelkgekaaGreatW.PrintWords Go.Proofs.YtjngnigelkgekaaGreatW.PrintLast Go.Proofs.YtjngnigelkgekaaGreatW.PrintMore
def over {α : Type} (xs : List α) (o : Nat) (ys : List α) : List α := xs.take o ++ ys ++ xs.drop (o + ys.length)
theorem over_nil {α : Type} (xs : List α) (o : Nat) : over xs o [] = xs := by simp [over]
theorem over_len {α : Type} {xs : List α} {o : Nat} {ys : List α} (h : o + ys.length ≤ xs.length) : (over xs o ys).length = xs.length := by
  simp [over]; omega
theorem over_get {α : Type} {xs : List α} {o : Nat} {ys : List α} (h : o + ys.length ≤ xs.length) (j : Nat) : (over xs o ys)[j]? = if o ≤ j ∧ j < o + ys.length then ys[j - o]? else xs[j]? := by
  unfold over
  rw [List.append_assoc]
  by_cases h1 : j < o
  · rw [if_neg (by omega), List.getElem?_append_left (by simp; omega), List.getElem?_take, if_pos h1]
  · rw [List.getElem?_append_right (by simp; omega), List.length_take, Nat.min_eq_left (by omega)]
    by_cases h2 : j < o + ys.length
    · rw [if_pos ⟨by omega, h2⟩, List.getElem?_append_left (by omega)]
    · rw [if_neg (by omega), List.getElem?_append_right (by omega), List.getElem?_drop]
      congr 1; omega
theorem over_cons {α : Type} {xs : List α} {o : Nat} {y : α} {ys : List α} (h : o + (ys.length + 1) ≤ xs.length) : over (xs.set o y) (o + 1) ys = over xs o (y :: ys) := by
  apply List.ext_getElem?
  intro j
  rw [over_get (by simp; omega), over_get (by simp; omega)]
  simp only [List.length_cons]
  by_cases h1 : j = o
  · subst h1
    rw [if_neg (by omega), if_pos (by omega), List.getElem?_set_self (by omega), Nat.sub_self]; rfl
  · rw [List.getElem?_set_ne (by omega)]
    by_cases h2 : o ≤ j ∧ j < o + (ys.length + 1)
    · rw [if_pos (by omega), if_pos h2, show j - o = (j - (o + 1)) + 1 by omega]; rfl
    · rw [if_neg (by omega), if_neg h2]
namespace Sep
variable {w0 W W' : World} {F : List HP}
section
variable {α : Type} {enc : α → Value} {h1 : ∀ x, (enc x).oneCell' = true} {e g n cap : Nat}
theorem putCells : ∀ (ys : List α) (o : Nat) {xs : List α} {W : World}, Sep w0 W (Row (Kd.scalar enc h1) e (.slice (some ⟨g, 0, none⟩) n cap) xs :: F) → o + ys.length ≤ n →
    Sep w0 (W.setCells g o (ys.map enc)) (Row (Kd.scalar enc h1) e (.slice (some ⟨g, 0, none⟩) n cap) (over xs o ys) :: F)
  | [], o, xs, W, h, _ => by rw [over_nil]; exact h
  | y :: ys, o, xs, W, h, hl => by
    have hn : n = xs.length := h.rowC.1
    simp only [List.length_cons] at hl
    have := putCells ys (o + 1) (h.putRow o y) (by omega)
    rwa [over_cons (by omega)] at this
theorem copyRun {P : Program} {t ty : TypeId} {xs ys : List α} {A : Option Addr} {o n' c' m c : Nat} (h : Sep w0 W (Row (Kd.scalar enc h1) e (.slice (some ⟨g, 0, none⟩) n cap) xs :: F)) (ht : P.underlying t = some (.slice e)) (hi : (P.info? e).map (·.size) = some 1)
    (hC : (Kd.scalar enc h1).C W A m ys) (hb : o + n' ≤ n) :
    (Builtin.copy_ #[t, t] ty #[.slice (some ⟨g, o, none⟩) n' c', .slice A m c]).run P W = .ok (.int .i64 ((min m n' : Nat) : Int)) (W.setCells g o ((ys.take n').map enc)) ∧
      Sep w0 (W.setCells g o ((ys.take n').map enc)) (Row (Kd.scalar enc h1) e (.slice (some ⟨g, 0, none⟩) n cap) (over xs o (ys.take n')) :: F) := by
  have hl : ys.length = m := hC.1
  have hlen : (ys.take n').length = min m n' := by rw [List.length_take, hl, Nat.min_comm]
  refine ⟨?_, h.putCells (ys.take n') o (by rw [List.length_take]; omega)⟩
  rcases Nat.eq_zero_or_pos (min m n') with h0 | h0
  · have hy : ys.take n' = [] := List.eq_nil_of_length_eq_zero (by omega)
    rw [hy, h0]
    exact run_copy_none W t t ty e _ _ _ _ _ _ ht hi h0
  · obtain ⟨ad, rfl, hc⟩ := hC.2.2 (by omega)
    have := run_copy_cells (P := P) W t t ty e g o n' c' ad m c ((ys.take n').map enc) ht hi (by rw [List.length_map]; exact hlen) ?_ ?_ ?_ ?_
    · rw [this, List.length_map, hlen]; rfl
    · intro j v hj
      rw [List.getElem?_map, List.getElem?_take] at hj
      split at hj
      · obtain ⟨y, hy, rfl⟩ := Option.map_eq_some_iff.1 hj
        obtain ⟨cs, hsz, hK, hcell⟩ := hc j y hy
        have hK : cs = [enc y] := hK
        subst hK
        have := hcell 0 _ rfl
        simpa [Kd.scalar] using this
      · cases hj
    · intro j hj
      rw [List.length_map, hlen] at hj
      have hx := h.rowC
      have : o + j < xs.length := by omega
      rw [(h.rowCell (xs[o + j]) (o + j) (by omega)).1]; rfl
    · intro j hj
      rw [List.length_map, hlen] at hj
      have hx := h.rowC
      have : o + j < xs.length := by omega
      exact (h.rowCell (xs[o + j]) (o + j) (by omega)).2
    · intro v hv
      obtain ⟨x, _, rfl⟩ := List.mem_map.1 hv
      exact h1 x
section
variable {P : Program} {ops : Array Oper} {rest : List Oper} {op : Oper} {a : Act} {Q : Exit → Act → World → Prop}
theorem copyRow {t : TypeId} {xs ys : List α} {A : Option Addr} {o n' c' m c : Nat} (h : Sep w0 W (Row (Kd.scalar enc h1) e (.slice (some ⟨g, 0, none⟩) n cap) xs :: F)) (hgd : op.guard = none) (d s : Operand)
    (ho : op.op = .call { callee := .builtin .copy, args := #[d, s], argTypes := #[t, t] }) (ht : P.underlying t = some (.slice e)) (hi : (P.info? e).map (·.size) = some 1)
    (hd : a.eval d = .slice (some ⟨g, o, none⟩) n' c') (hs : a.eval s = .slice A m c) (hC : (Kd.scalar enc h1).C W A m ys) (hb : o + n' ≤ n)
    (k : ∀ W', Sep w0 W' (Row (Kd.scalar enc h1) e (.slice (some ⟨g, 0, none⟩) n cap) (over xs o (ys.take n')) :: F) → wpList P ops Q rest (a.put op.dst (.int .i64 ((min m n' : Nat) : Int))) W') : wpList P ops Q (op :: rest) a W := by
  obtain ⟨hr, hS⟩ := h.copyRun (P := P) (ty := op.type) (c' := c') (c := c) ht hi hC hb
  refine wpList_plain hgd fun K hK => ?_
  unfold Oper.wp execOp
  simp only [ho, resolve, invoke, builtin, Sem.run_bind, Sem.run_pure, Result.andThen_ok, List.map_toArray, List.map_cons, List.map_nil, hs, hd, hr]
  exact hK _ _ (k _ hS)
theorem copyStep {Kc : Act → World → Prop} {t : TypeId} {xs ys : List α} {A : Option Addr} {o n' c' m c : Nat} (h : Sep w0 W (Row (Kd.scalar enc h1) e (.slice (some ⟨g, 0, none⟩) n cap) xs :: F)) (hw : Region.wanted op (yielded ops a.tmps) = true) (d s : Operand)
    (ho : op.op = .call { callee := .builtin .copy, args := #[d, s], argTypes := #[t, t] }) (ht : P.underlying t = some (.slice e)) (hi : (P.info? e).map (·.size) = some 1)
    (hd : a.eval d = .slice (some ⟨g, o, none⟩) n' c') (hs : a.eval s = .slice A m c) (hC : (Kd.scalar enc h1).C W A m ys) (hb : o + n' ≤ n)
    (k : ∀ W', Sep w0 W' (Row (Kd.scalar enc h1) e (.slice (some ⟨g, 0, none⟩) n cap) (over xs o (ys.take n')) :: F) → Kc (a.put op.dst (.int .i64 ((min m n' : Nat) : Int))) W') :
    if Region.wanted op (yielded ops a.tmps) = true then Oper.wp P op a W Kc Q else Kc (a.put op.dst undef) W := by
  obtain ⟨hr, hS⟩ := h.copyRun (P := P) (ty := op.type) (c' := c') (c := c) ht hi hC hb
  rw [if_pos hw]
  unfold Oper.wp execOp
  simp only [ho, resolve, invoke, builtin, Sem.run_bind, Sem.run_pure, Result.andThen_ok, List.map_toArray, List.map_cons, List.map_nil, hs, hd, hr]
  exact k _ hS
end
end
end Sep
end Go.Proofs.YtjngnigelkgekaaGreat.Kit
namespace Go.Proofs.YtjngnigelkgekaaGreat.Kit
def sec (l : List Int) (i : Nat) : List Int := (l.drop (64 * i)).take 64
theorem sec_len {l : List Int} {i : Nat} (h : 64 * (i + 1) ≤ l.length) : (sec l i).length = 64 := by
  unfold sec; rw [List.length_take, List.length_drop]; omega
theorem sec_get (l : List Int) (i j : Nat) (hj : j < 64) : (sec l i)[j]? = l[64 * i + j]? := by
  unfold sec; rw [List.getElem?_take, if_pos hj, List.getElem?_drop]
def secs (n : Nat) (f : Nat → List Int) : List Int := (List.range n).flatMap f
theorem secs_succ (n : Nat) (f : Nat → List Int) : secs (n + 1) f = secs n f ++ f n := by
  unfold secs; rw [List.range_succ, List.flatMap_append]; simp
theorem secs_len {f : Nat → List Int} : ∀ {n : Nat}, (∀ i, i < n → (f i).length = 64) → (secs n f).length = 64 * n
  | 0, _ => rfl
  | n + 1, h => by rw [secs_succ, List.length_append, secs_len (fun i hi => h i (by omega)), h n (by omega)]; omega
theorem secs_get {f : Nat → List Int} : ∀ {n : Nat}, (∀ i, i < n → (f i).length = 64) → ∀ p, (secs n f)[p]? = if p < 64 * n then (f (p / 64))[p % 64]? else none
  | 0, _, p => by simp [secs]
  | n + 1, h, p => by
    have hl := secs_len (n := n) (f := f) (fun i hi => h i (by omega))
    rw [secs_succ]
    by_cases h1 : p < 64 * n
    · rw [List.getElem?_append_left (by omega), secs_get (fun i hi => h i (by omega)), if_pos h1, if_pos (by omega)]
    · rw [List.getElem?_append_right (by omega), hl]
      by_cases h2 : p < 64 * (n + 1)
      · rw [if_pos h2, show p / 64 = n by omega, show p - 64 * n = p % 64 by omega]
      · rw [if_neg h2, List.getElem?_eq_none (by have := h n (by omega); omega)]
theorem secs_congr {n : Nat} {f g : Nat → List Int} (h : ∀ i, i < n → f i = g i) : secs n f = secs n g := by
  unfold secs
  rw [List.flatMap_def, List.flatMap_def]
  congr 1
  exact List.map_congr_left (fun i hi => h i (List.mem_range.1 hi))
theorem secs_self {l : List Int} {n : Nat} (h : l.length = 64 * n) : secs n (sec l) = l := by
  apply List.ext_getElem?
  intro p
  rw [secs_get (fun i hi => sec_len (by omega))]
  by_cases hp : p < 64 * n
  · rw [if_pos hp, sec_get _ _ _ (by omega), show 64 * (p / 64) + p % 64 = p by omega]
  · rw [if_neg hp, List.getElem?_eq_none (by omega)]
theorem sec_secs {f : Nat → List Int} {n i : Nat} (h : ∀ i, i < n → (f i).length = 64) (hi : i < n) : sec (secs n f) i = f i := by
  apply List.ext_getElem?
  intro j
  by_cases hj : j < 64
  · rw [sec_get _ _ _ hj, secs_get h, if_pos (by omega), show (64 * i + j) / 64 = i by omega, show (64 * i + j) % 64 = j by omega]
  · rw [List.getElem?_eq_none (by rw [sec_len]; omega; rw [secs_len h]; omega), List.getElem?_eq_none (by rw [h i hi]; omega)]
theorem over_secs {f : Nat → List Int} {n i : Nat} {b : List Int} (h : ∀ i, i < n → (f i).length = 64) (hi : i < n) (hb : b.length ≤ 64) :
    over (secs n f) (64 * i) b = secs n (fun k => if k = i then b ++ (f k).drop b.length else f k) := by
  have hl := secs_len h
  have h' : ∀ k, k < n → ((fun k => if k = i then b ++ (f k).drop b.length else f k) k).length = 64 := fun k hk => by
    have := h k hk
    dsimp only
    split
    · rw [List.length_append, List.length_drop]; omega
    · exact this
  apply List.ext_getElem?
  intro p
  rw [over_get (by omega), secs_get h, secs_get h']
  by_cases hp : p < 64 * n
  · rw [if_pos hp, if_pos hp]
    by_cases hk : p / 64 = i
    · rw [if_pos hk]
      by_cases h1 : p < 64 * i + b.length
      · rw [if_pos (by omega), List.getElem?_append_left (by omega)]; congr 1; omega
      · rw [if_neg (by omega), List.getElem?_append_right (by omega), List.getElem?_drop]; congr 1; omega
    · rw [if_neg hk, if_neg (by omega)]
  · rw [if_neg hp, if_neg hp, if_neg (by omega)]
end Go.Proofs.YtjngnigelkgekaaGreat.Kit
namespace Go.Proofs.YtjngnigelkgekaaGreat.Disk
open Go.RowKit Go.Proofs.YtjngnigelkgekaaGreatW.PrintWords Go.Proofs.YtjngnigelkgekaaGreatW.PrintLast Go.Proofs.YtjngnigelkgekaaGreatW.PrintMore Go.Proofs.YtjngnigelkgekaaGreat.Kit
theorem C_piece {W : World} {g n : Nat} {l : List Int} (h : U8.C W (some ⟨g, 0, none⟩) n l) (o m : Nat) (hm : o + m ≤ n) : U8.C W (some ⟨g, o, none⟩) m ((l.drop o).take m) := by
  have hl := h.1
  have hr := Kd.reads_of_C (d := (0 : Int)) h
  refine Kd.C_of_reads (d := (0 : Int)) ⟨by rw [List.length_take, List.length_drop]; omega, by have := h.2.1; omega, fun h0 => ⟨_, rfl, fun j hj => ?_⟩⟩
  obtain ⟨ad, ha, hc⟩ := hr.2.2 (by omega)
  cases ha
  have := hc (o + j) (by omega)
  rw [add_at, Nat.zero_add] at this
  rw [add_at, this]
  congr 2
  rw [List.getD_eq_getElem?_getD, List.getD_eq_getElem?_getD, List.getElem?_take, if_pos hj, List.getElem?_drop]
theorem find_split {ents : List Ent} {i : Nat} {e : Ent} (h : ents.find? (fun e => e.k == i) = some e) : ∃ pre post, ents = pre ++ e :: post ∧ e.k = i ∧ ∀ x ∈ pre, x.k ≠ i := by
  rw [List.find?_eq_some_iff_append] at h
  obtain ⟨h1, pre, post, h2, h3⟩ := h
  exact ⟨pre, post, h2, by simpa using h1, fun x hx => by have := h3 x hx; simpa using this⟩
theorem find_not {ents : List Ent} {i : Nat} (h : ents.find? (fun e => e.k == i) = none) : ∀ x ∈ ents, x.k ≠ i := by
  rw [List.find?_eq_none] at h
  exact fun x hx => by have := h x hx; simpa using this
theorem zeroS (W : World) : (zeroValue 24).run Tryz.prog W = .ok (.slice none 0 0) W := by kernel_rfl
theorem look_ {w0 W : World} {g m clock : Nat} {ents : List Ent} {las : List Int} {wt : Nat → Option (List Int)} {F : List HP} (hok : DskOk las ents clock wt) (h : Sep w0 W (MapB m (ens (ents.map Ent.en)) clock :: (ents.map Ent.rd ++ F))) (i : Nat) :
    (wt i = none ∧ (Instr.lookup 98 (.map (some m)) (.int .i64 (i : Int)) true).run Tryz.prog W = .ok (.tuple #[.slice none 0 0, .bool false]) W) ∨
    ∃ b A c, wt i = some b ∧ 64 ≤ c ∧ b.length = 64 ∧ U8.C W A 64 b ∧ (Instr.lookup 98 (.map (some m)) (.int .i64 (i : Int)) true).run Tryz.prog W = .ok (.tuple #[.slice A 64 c, .bool true]) W ∧
      (Instr.lookup 98 (.map (some m)) (.int .i64 (i : Int)) false).run Tryz.prog W = .ok (.slice A 64 c) W := by
  have hw := hok.wt i
  cases hf : ents.find? (fun e => e.k == i) with
  | none =>
    rw [hf] at hw
    refine .inl ⟨hw, lookup_none Tryz.underlying98 Tryz.underlying3 zeroS h.map _ (fun e he => ?_)⟩
    obtain ⟨x, hx, rfl⟩ := List.mem_map.1 he
    have := find_not hf x hx
    show (x.k : Int) ≠ i
    omega
  | some e =>
    rw [hf] at hw
    obtain ⟨pre, post, rfl, rfl, hp⟩ := find_split hf
    have he := hok.each e (by simp)
    have hm := h.map
    rw [List.map_append, List.map_cons] at hm
    have hpre : ∀ x ∈ pre.map Ent.en, x.k ≠ e.en.k := fun y hy => by
      obtain ⟨x, hx, rfl⟩ := List.mem_map.1 hy
      have := hp x hx
      show (x.k : Int) ≠ (e.k : Int)
      omega
    have hC : U8.C W e.A 64 e.b := by
      have h2 := h.tail
      rw [List.map_append, List.map_cons, List.append_assoc, List.cons_append] at h2
      exact h2.weak.rd
    exact .inr ⟨e.b, e.A, e.c, hw, he.2.2.2, he.2.2.1, hC, lookup_some (e := e.en) Tryz.underlying98 Tryz.underlying3 hm hpre, lookup1_some (e := e.en) Tryz.underlying98 Tryz.underlying3 hm hpre⟩
set_option maxHeartbeats 400000 in
theorem read_out {w0 W : World} {g : Nat} {las : List Int} {wt : Nat → Option (List Int)} {F : List HP} (h : Sep w0 W (Dsk g las wt :: F)) (i : Int) (hi : ¬ (0 ≤ i ∧ i < (las.length : Int) / 64)) :
    Calls Tryz.prog 108 #[.pointer (some ⟨g, 0, none⟩), .int .i64 i] W fun e w' => e = .returned (.tuple #[.slice none 0 0, .bool false]) ∧ W = w' := by
  have hd : decide (0 ≤ i ∧ i < (las.length : Int) / 64) = false := decide_eq_false hi
  clear hi
  go_enter Tryz.func108, Tryz.ntmps108
  go_wp2_with (go_at_call 101; refine (there_ h i).mono ?_; rintro e w' ⟨rfl, rfl⟩; rw [hd])
  go_ret2
  exact ⟨by first | rfl | (simp; done), rfl⟩
set_option maxHeartbeats 400000 in
theorem read_in {w0 W : World} {g : Nat} {las : List Int} {wt : Nat → Option (List Int)} {F : List HP} (h : Sep w0 W (Dsk g las wt :: F)) (i : Nat) (hi : 64 * (i + 1) ≤ las.length) :
    Calls Tryz.prog 108 #[.pointer (some ⟨g, 0, none⟩), .int .i64 (i : Int)] W fun e w' => ∃ v, e = .returned (.tuple #[v, .bool true]) ∧ Sep w0 w' (Row U8 5 v ((wt i).getD (sec las i)) :: Dsk g las wt :: F) := by
  obtain ⟨v, m, ents, clock, hok, hs⟩ := open_ h
  obtain ⟨p1, p2, p3⟩ := hok.pos
  obtain ⟨gl, c, rfl⟩ := hs.tail.rowForm (by omega)
  have hr := hs.tail.rowC
  have c0 : W.cell? ⟨g, 0, none⟩ = some (.slice (some ⟨gl, 0, none⟩) las.length c) := by rw [hs.cell 0]; rfl
  have c1 : W.cell? ⟨g, 1, none⟩ = some (.map (some m)) := by rw [hs.cell 1]; rfl
  have hd : decide (0 ≤ (i : Int) ∧ (i : Int) < (las.length : Int) / 64) = true := decide_eq_true (by omega)
  have HP3 := Aside0.mk hr
  have HC := Aside0.mk (C_piece hr.2.2 (64 * i) 64 (by omega))
  have hlook := look_ (g := g) hok hs.tail.tail i
  clear p3 hr hok
  rcases hlook with ⟨hn, hl⟩ | ⟨b, A, cb, hn, hcb, hbl, hCb, hl, -⟩
  · have HN := Aside0.mk hn
    clear hn
    go_enter Tryz.func108, Tryz.ntmps108
    go_wp2_with (first | (go_at_call 101; refine (there_ h i).mono ?_; rintro e w' ⟨rfl, rfl⟩; rw [hd]) | (go_at_call 58; refine (sector_ c0 hi p2 HP3.out.2.1).mono ?_; rintro e w' ⟨rfl, rfl⟩) | (go_at_call 60; refine (clone_ HC.out (by have := HP3.out.2.1; omega) (by omega)).mono ?_; rintro e w1 ⟨v, rfl, hS⟩))
    go_ret2
    refine ⟨_, by first | rfl | (simp; done), ?_⟩
    rw [HN.out]
    exact h.lift1 hS
  · have HN := Aside0.mk hn
    have HB := Aside0.mk hbl
    clear hn hbl
    go_enter Tryz.func108, Tryz.ntmps108
    go_wp2_with (first | (go_at_call 101; refine (there_ h i).mono ?_; rintro e w' ⟨rfl, rfl⟩; rw [hd]) | (go_at_call 60; refine (clone_ hCb (by omega) (by omega)).mono ?_; rintro e w1 ⟨v, rfl, hS⟩))
    go_ret2
    refine ⟨_, by first | rfl | (simp; done), ?_⟩
    rw [HN.out]
    exact h.lift1 hS
end Go.Proofs.YtjngnigelkgekaaGreat.Disk
