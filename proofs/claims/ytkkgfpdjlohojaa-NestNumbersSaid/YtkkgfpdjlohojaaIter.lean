/- Ranging over a map whose entries stay. -/
import Derived.Test.YtkkgfpdjlohojaaCopy
import Derived.Maps.RangeRun
namespace Go.Proofs.Ytkkgfpdjlohojaa.Kit
set_option linter.unusedVariables false
set_option linter.unusedSimpArgs false
open Go.RowKit Go.Proofs.YtkkgfpdjlohojaaW.PrintWords Go.Proofs.YtkkgfpdjlohojaaW.PrintLast Go.Proofs.YtkkgfpdjlohojaaW.PrintMore
/-- A block, whatever it is. -/
def Ob (g : Nat) (o : Obj) : HP where
  P W ok := (∀ k, ok k ↔ k = g) ∧ W.heap[g]? = some o
  loc := fun h hm => ⟨h.1, (hm _ ((h.1 _).2 rfl)).trans h.2⟩
  bnd := fun h k hk => by rw [(h.1 k).1 hk]; exact blk_lt h.2
namespace Sep
variable {w0 W W' : World} {F : List HP} {g : Nat} {o : Obj}
theorem ob (h : Sep w0 W (Ob g o :: F)) : W.heap[g]? = some o := by
  obtain ⟨ok, hp, _⟩ := h.sep; exact hp.2
theorem newOb (h : Sep w0 W F) (o : Obj) : Sep w0 (W.alloc o) (Ob W.heap.size o :: F) :=
  h.gain (below_alloc (Below.refl _ _) _) (ok := fun k => k = W.heap.size) ⟨fun _ => Iff.rfl, blk_new W _⟩ (fun k hk => by omega)
theorem setOb (h : Sep w0 W (Ob g o :: F)) (o' : Obj) : Sep w0 { W with heap := W.heap.setIfInBounds g o' } (Ob g o' :: F) :=
  h.step ⟨rfl, rfl, rfl, by simp⟩ (fun ok hp => ⟨fun k _ hn => by
    have hne : g ≠ k := fun he => hn ((hp.1 k).2 he.symm)
    simp [Array.getElem?_setIfInBounds, hne], ok, ⟨hp.1, by
    have hlt := blk_lt hp.2
    simp [Array.getElem?_setIfInBounds, hlt]⟩, fun k hk => .inl hk⟩)
theorem drewIt (h : Sep w0 W F) (n : Nat) : Sep w0 { W with drawn := n } F := h.below ⟨rfl, rfl, rfl, Nat.le_refl _, fun _ _ => rfl⟩
end Sep
def itObj (m clock : Nat) (seen : List Nat) : Obj := .mapIter (some m) clock seen.toArray clock
section
variable {P : Program} {T K E : TypeId} {m r clock : Nat} {w0 W : World} {l : List En} {F : List HP}
theorem range_run (hT : P.underlying T = some (.map K E)) (hm : W.heap[m]? = some (.map (ens l) clock)) :
    (Instr.range T (.map (some m))).run P W = .ok (.pointer (some ⟨W.heap.size, 0, none⟩)) (W.alloc (itObj m clock [])) := by
  simp [Instr.range, run_underlying hT, get_map hm, itObj]
theorem get_ob {o : Obj} (h : W.heap[r]? = some o) (hc : ∀ c t f, o ≠ .cells c t f) : (getObj r).run P W = .ok o W := by
  cases o <;> simp_all [getObj, Sem.run]
theorem set_ob {o : Obj} (h : W.heap[r]? = some o) (hc : ∀ c t f, o ≠ .cells c t f) (o' : Obj) : (setObj r o').run P W = .ok () { W with heap := W.heap.setIfInBounds r o' } := by
  cases o <;> simp_all [setObj, Sem.run]
/-- What the next step of a range comes to. -/
theorem next_run {seen : List Nat} (h : Sep w0 W (Ob r (itObj m clock seen) :: MapB m (ens l) clock :: F)) (hb : ∀ e ∈ l, e.born < clock) (hn : (l.map (·.born)).Nodup) (ty : TypeId) :
    ((∀ e ∈ l, e.born ∈ seen) ∧ (Instr.next (.pointer (some ⟨r, 0, none⟩)) false ty).run P W = .ok (.tuple #[.bool false]) W) ∨
    ∃ e ∈ l, e.born ∉ seen ∧ ∃ W', (Instr.next (.pointer (some ⟨r, 0, none⟩)) false ty).run P W = .ok (.tuple #[.bool true, .int .i64 e.k, e.v]) W' ∧
      Sep w0 W' (Ob r (itObj m clock (seen ++ [e.born])) :: MapB m (ens l) clock :: F) ∧ (Instr.entry (.pointer (some ⟨r, 0, none⟩))).run P W' = .ok (.tuple #[.int .i64 e.k, e.v]) W' := by
  have hr := h.ob
  have hm := h.tail.map
  have hold : ∀ x ∈ (ens l).toList, x.born < clock := fun x hx => by
    obtain ⟨e, he, rfl⟩ := List.mem_map.1 (by simpa [ens] using hx)
    exact hb e he
  have hnd : ((ens l).toList.map (·.born)).Nodup := by
    have : (ens l).toList.map (·.born) = l.map (·.born) := by simp [ens, En.toE]
    rw [this]; exact hn
  have hleft : ∀ x, x ∈ (leftOf (ens l) seen.toArray).toList ↔ ∃ e ∈ l, e.toE = x ∧ e.born ∉ seen := fun x => by
    simp only [leftOf, ens, Array.toList_filter, List.mem_filter, List.mem_map]
    constructor
    · rintro ⟨⟨e, he, rfl⟩, h2⟩
      exact ⟨e, he, rfl, by simpa [En.toE] using h2⟩
    · rintro ⟨e, he, rfl, h2⟩
      exact ⟨⟨e, he, rfl⟩, by simpa [En.toE] using h2⟩
  rcases run_next_at (P := P) W ty r m clock clock seen.toArray (ens l) clock hr hm hold (Nat.le_refl _) with ⟨h0, h1⟩ | ⟨x, hx, w1, hw, h1⟩
  · refine .inl ⟨fun e he => Classical.not_not.1 fun hne => ?_, h1⟩
    have := (hleft e.toE).2 ⟨e, he, rfl, hne⟩
    rw [Array.size_eq_zero_iff.1 h0] at this
    simp at this
  · obtain ⟨e, he, rfl, hne⟩ := (hleft x).1 hx
    have hw' : Sep w0 w1 (Ob r (itObj m clock seen) :: MapB m (ens l) clock :: F) := by
      rcases hw with rfl | rfl
      · exact h
      · exact h.drew
    have h2 := hw'.setOb (itObj m clock (seen ++ [e.born]))
    have e1 : (seen.toArray.push e.born) = (seen ++ [e.born]).toArray := by simp
    refine .inr ⟨e, he, hne, _, by rw [h1]; rfl, ?_, ?_⟩
    · have : ChangeMaps.setBlock w1 r (.mapIter (some m) clock (seen.toArray.push e.toE.born) clock) = { w1 with heap := w1.heap.setIfInBounds r (itObj m clock (seen ++ [e.born])) } := by
        simp [ChangeMaps.setBlock, itObj, En.toE]
      rw [this]; exact h2
    · have hq : ChangeMaps.setBlock w1 r (.mapIter (some m) clock (seen.toArray.push e.toE.born) clock) = { w1 with heap := w1.heap.setIfInBounds r (itObj m clock (seen ++ [e.born])) } := by
        simp [ChangeMaps.setBlock, itObj, En.toE]
      rw [hq]
      have hrr := h2.ob
      exact run_entry_at _ r m clock seen.toArray (ens l) clock e.toE (by rw [hrr]; simp [itObj, En.toE]) h2.tail.map (by simp [ens]; exact ⟨e, he, rfl⟩) hnd
end
end Go.Proofs.Ytkkgfpdjlohojaa.Kit
