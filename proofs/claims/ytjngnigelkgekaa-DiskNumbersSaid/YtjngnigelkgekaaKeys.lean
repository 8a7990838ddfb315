/- A map's keys, sorted: by the library's contracts. -/
import Derived.Test.YtjngnigelkgekaaShelf
import Derived.Test.YtjngnigelkgekaaMapInt
import Derived.Maps.Keyed
import Derived.WalkArith
namespace Go.Proofs.Ytjngnigelkgekaa.Kit
set_option linter.unusedVariables false
set_option linter.unusedSimpArgs false
open Go.RowKit Go.Maps Go.Shelf Go.Sort Go.Proofs.YtjngnigelkgekaaW.PrintWords
theorem sortsA (m : Nat) : AnyZI.SortsIn Try.prog Ytjngnigelkgekaa.sortedA_ren Fence.wide m :=
  ⟨fun blk off cap ss W hH hblk hsz => callsIn_wide.2 (AnyM.slices_Sort_int Ytjngnigelkgekaa.sortA blk off cap ss W hH hblk hsz),
   fun p cap W => callsIn_wide.2 (AnyM.slices_Sort_int_none Ytjngnigelkgekaa.sortA p cap W)⟩
def anyR : Value → Option (DataW Unit × List MemPlace) := fun _ => some (.nil, [])
/-- What is known of a map's entries: no key twice, no stamp twice. -/
structure EnOk (l : List En) (clock : Nat) : Prop where
  keys : (l.map (·.k)).Nodup
  borns : (l.map (·.born)).Nodup
  each : ∀ e ∈ l, e.born < clock ∧ -9223372036854775808 ≤ e.k ∧ e.k ≤ 9223372036854775807
  size : l.length ≤ 1000000
theorem enFit {l : List En} {clock : Nat} (h : EnOk l clock) : WideElems.Fit Try.prog 3 anyR (ens l) clock := by
  refine ⟨?_, ⟨?_, ?_, ?_⟩, ?_⟩
  · have := h.size; simp only [ens, List.size_toArray, List.length_map, maxLen]; omega
  · intro x hx
    obtain ⟨e, he, rfl⟩ := List.mem_map.1 (by simpa [ens] using hx)
    exact (h.each e he).1
  · have : (ens l).toList.map (·.born) = l.map (·.born) := by simp [ens, En.toE]
    rw [this]; exact h.borns
  · have : (ens l).toList.map (·.key) = (l.map (·.k)).map (Value.int .i64) := by simp [ens, En.toE]
    rw [this]
    exact List.pairwise_map.2 (h.keys.imp fun hne he => hne (by injection he))
  · intro x hx
    obtain ⟨e, he, rfl⟩ := List.mem_map.1 (by simpa [ens] using hx)
    have hw : (Lit.int .i64 e.k).wf = true := by
      have := h.each e he
      exact WalkArith.wf_i64 ⟨this.2.1, this.2.2⟩
    exact ⟨_, by simp [WideElems.rd, En.toE, keyOf_int_mk Try.underlying3 hw, anyR]; rfl⟩
theorem enOwns {l : List En} {clock m : Nat} {W : World} (h : EnOk l clock) (hm : W.heap[m]? = some (.map (ens l) clock)) :
    W.ownsMap Try.prog 3 anyR m l.length (.map (((ens l).toList.map (WideElems.rg Try.prog 3 anyR)).foldr DataW.insert [])) :=
  ⟨ens l, clock, hm, enFit h, by simp [ens], rfl⟩
theorem enKeys {l : List En} {clock : Nat} (h : EnOk l clock) : (intKeys (DataW.map (((ens l).toList.map (WideElems.rg Try.prog 3 anyR)).foldr DataW.insert []))).Perm (l.map (·.k)) := by
  have h1 : (((ens l).toList.map (WideElems.rg Try.prog 3 anyR)).foldr DataW.insert []).Perm ((ens l).toList.map (WideElems.rg Try.prog 3 anyR)) := WideShapes.sorted_perm _
  have h2 := h1.map (fun p => Go.intOf p.1)
  refine h2.trans ?_
  have : ((ens l).toList.map (WideElems.rg Try.prog 3 anyR)).map (fun p => Go.intOf p.1) = l.map (·.k) := by
    simp only [ens, List.map_map]
    refine List.map_congr_left fun e he => ?_
    have hw : (Lit.int .i64 e.k).wf = true := by
      have := h.each e he
      exact WalkArith.wf_i64 ⟨this.2.1, this.2.2⟩
    simp [WideElems.rg, WideElems.rd, En.toE, keyOf_int_mk Try.underlying3 hw, anyR, Go.intOf]
  rw [this]
theorem enSize {l : List En} {clock : Nat} (h : EnOk l clock) : Maps.size (DataW.map (((ens l).toList.map (WideElems.rg Try.prog 3 anyR)).foldr DataW.insert [])) = l.length := by
  have h1 : (((ens l).toList.map (WideElems.rg Try.prog 3 anyR)).foldr DataW.insert []).Perm ((ens l).toList.map (WideElems.rg Try.prog 3 anyR)) := WideShapes.sorted_perm _
  have := h1.length_eq
  simp only [ens, List.length_map] at this
  simpa [Maps.size, ens] using this
theorem sort_is {ss ks : List Int} (hp : ss.Perm ks) (hs : ks.Pairwise (· ≤ ·)) : ss.mergeSort (fun x y => decide (x ≤ y)) = ks := by
  have tr : ∀ a b c : Int, (fun x y : Int => decide (x ≤ y)) a b = true → (fun x y : Int => decide (x ≤ y)) b c = true → (fun x y : Int => decide (x ≤ y)) a c = true := fun a b c h1 h2 => by simp only [decide_eq_true_eq] at *; omega
  have tot : ∀ a b : Int, ((fun x y : Int => decide (x ≤ y)) a b || (fun x y : Int => decide (x ≤ y)) b a) = true := fun a b => by simp only [Bool.or_eq_true, decide_eq_true_eq]; omega
  refine List.Perm.eq_of_pairwise (le := fun a b => a ≤ b) (fun a b _ _ h1 h2 => by omega) ?_ hs ((List.mergeSort_perm _ _).trans hp)
  exact (List.pairwise_mergeSort tr tot ss).imp (fun h => by simpa using h)
set_option maxHeartbeats 1000000 in
theorem keysA_ (m : Nat) (w : World) : Calls Try.prog 95 #[.map (some m)] w fun e w' => e = .returned (.func (.func 127) #[] #[.pointer (some ⟨w.heap.size, 0, none⟩)]) ∧ w' = w.alloc (.cells #[.map (some m)] 94) :=
  callsIn_wide.1 (AnyZI.keys_in Ytjngnigelkgekaa.keysA Fence.wide 5 trivial rfl (some m) w)
set_option maxHeartbeats 1000000 in
theorem sortedA_ {l : List En} {clock m : Nat} {w : World} {ks : List Int} (h : EnOk l clock) (hm : w.heap[m]? = some (.map (ens l) clock)) (hk : (l.map (·.k)).Perm ks) (hs : ks.Pairwise (· ≤ ·)) :
    Calls Try.prog 76 #[.func (.func 127) #[] #[.pointer (some ⟨w.heap.size, 0, none⟩)]] (w.alloc (.cells #[.map (some m)] 94)) fun e w' => ∃ v, e = .returned v ∧ Sep w w' [Row (Kd.int .i64) 3 v ks] := by
  have hbl : m < w.heap.size := (Array.getElem?_eq_some_iff.1 hm).1
  have hm1 : (w.alloc (.cells #[.map (some m)] 94)).heap[m]? = some (.map (ens l) clock) := (Below.heap_alloc _ _ m hbl).trans hm
  have hseq : SeqGives Fence.wide 2 Try.prog 127 #[.pointer (some ⟨w.heap.size, 0, none⟩)] encZ (fun ss => ss.Perm (intKeys (DataW.map (((ens l).toList.map (WideElems.rg Try.prog 3 anyR)).foldr DataW.insert [])))) (Maps.size (DataW.map (((ens l).toList.map (WideElems.rg Try.prog 3 anyR)).foldr DataW.insert []))) (w.alloc (.cells #[.map (some m)] 94)) :=
    AnyZI.keys_gives (ρ := Ytjngnigelkgekaa.keysA_ren) { Ytjngnigelkgekaa.keysA with } Fence.wide _ trivial rfl (by omega) w.heap.size m l.length _ _ (by simp) (by simp) (enOwns h hm1)
  rw [enSize h] at hseq
  have cS := AnyZI.sorted_in Ytjngnigelkgekaa.sortedA Fence.wide 5 trivial trivial trivial trivial rfl (by omega) (sortsA _) (enters_of Try.func119 (by kernel_rfl) rfl) 127 #[.pointer (some ⟨w.heap.size, 0, none⟩)] trivial (enters_of Try.func127 (by kernel_rfl) rfl) _ _ (by have := h.size; simp only [maxLen]; omega) (by have := h.size; omega) _ hseq
  refine (callsIn_wide.1 cS).mono ?_
  rintro e w' ⟨v, ss, rfl, hS, hrow, hnil, hb⟩
  refine ⟨v, rfl, ?_⟩
  have hss := sort_is ((hS.trans (enKeys h)).trans hk) hs
  rw [hss] at hrow
  have hl : ss.length = ks.length := ((hS.trans (enKeys h)).trans hk).length_eq
  rw [hl] at hrow
  refine ((Sep.start w).alloc (.cells #[.map (some m)] 94)).newRow (ok := fun _ => True) ?_ hb
  exact Kd.R_of_own hrow (fun _ _ => trivial)
end Go.Proofs.Ytjngnigelkgekaa.Kit
