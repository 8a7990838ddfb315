/- Runes of a string; an iterator over a string in its block. -/
import Derived.Test.YtkkgfpdjlohojaaSep
import Derived.Test.YtkkgfpdjlohojaaBook
import Derived.Laws.RangeAny
namespace Go.Proofs.Ytkkgfpdjlohojaa.Kit
set_option linter.unusedVariables false
set_option linter.unusedSimpArgs false
open Go.RowKit Go.Proofs.YtkkgfpdjlohojaaW.PrintWords Go.Proofs.YtkkgfpdjlohojaaW.PrintLast Go.Proofs.YtkkgfpdjlohojaaW.PrintMore
def runesF (s : ByteArray) : Nat → Nat → List Int
  | 0, _ => []
  | m + 1, pos => if pos < s.size then ((Utf8.decode s pos).1 : Int) :: runesF s m (pos + (Utf8.decode s pos).2) else []
def runesS (s : ByteArray) : List Int := runesF s s.size 0
theorem width_pos (s : ByteArray) (pos : Nat) (h : pos < s.size) : 1 ≤ (Utf8.decode s pos).2 := by
  by_cases ha : (s[pos]'h).toNat < 128
  · rw [decode_ascii s pos h ha]
    exact Nat.le_refl _
  · exact (decode_high s pos h (by omega)).2
theorem runesF_end (s : ByteArray) (m pos : Nat) (h : ¬ pos < s.size) : runesF s m pos = [] := by
  cases m with
  | zero => rfl
  | succ f => simp [runesF, h]
theorem runesF_step (s : ByteArray) (m pos : Nat) (h : pos < s.size) : runesF s (m + 1) pos = ((Utf8.decode s pos).1 : Int) :: runesF s m (pos + (Utf8.decode s pos).2) := by
  rw [runesF, if_pos h]
theorem runesF_len (s : ByteArray) : ∀ (m pos : Nat), (runesF s m pos).length ≤ s.size - pos
  | 0, pos => Nat.zero_le _
  | m + 1, pos => by
    by_cases h : pos < s.size
    · rw [runesF_step s m pos h, List.length_cons]
      have := runesF_len s m (pos + (Utf8.decode s pos).2)
      have := width_pos s pos h
      omega
    · rw [runesF_end s _ pos h]; exact Nat.zero_le _
theorem runesS_len (s : ByteArray) : (runesS s).length ≤ s.size := by
  have := runesF_len s s.size 0
  unfold runesS
  omega
theorem runesF_range (s : ByteArray) : ∀ (m pos : Nat), ∀ r ∈ runesF s m pos, 0 ≤ r ∧ r ≤ 2147483647
  | 0, pos, r, h => by cases h
  | m + 1, pos, r, h => by
    by_cases hp : pos < s.size
    · rw [runesF_step s m pos hp] at h
      rcases List.mem_cons.1 h with rfl | h
      · have := decode_le s pos; omega
      · exact runesF_range s m _ r h
    · rw [runesF_end s _ pos hp] at h; cases h
/-- An iterator over a string. -/
def SIt (g : Nat) (s : ByteArray) (pos : Nat) : HP where
  P W ok := (∀ k, ok k ↔ k = g) ∧ W.heap[g]? = some (.stringIter s pos)
  loc := fun h hm => ⟨h.1, (hm _ ((h.1 _).2 rfl)).trans h.2⟩
  bnd := fun h k hk => by rw [(h.1 k).1 hk]; exact blk_lt h.2
def iterTo (w : World) (k : Nat) (s : ByteArray) (pos : Nat) : World := { w with heap := w.heap.setIfInBounds k (.stringIter s pos) }
namespace Sep
variable {w0 W : World} {F : List HP} {g : Nat} {s : ByteArray} {pos : Nat}
theorem sit (h : Sep w0 W (SIt g s pos :: F)) : W.heap[g]? = some (.stringIter s pos) := by
  obtain ⟨ok, hp, _⟩ := h.sep
  exact hp.2
theorem newIt (h : Sep w0 W F) (s : ByteArray) (pos : Nat) : Sep w0 (World.iter W s pos) (SIt W.heap.size s pos :: F) :=
  h.gain (below_alloc (Below.refl _ _) _) (ok := fun k => k = W.heap.size) ⟨fun _ => Iff.rfl, World.iter_heap W s pos⟩ (fun k hk => by omega)
theorem stepIt (h : Sep w0 W (SIt g s pos :: F)) (pos' : Nat) : Sep w0 (iterTo W g s pos') (SIt g s pos' :: F) :=
  h.step ⟨rfl, rfl, rfl, by simp [iterTo]⟩ (fun ok hp => ⟨fun k _ hn => by
    have hne : g ≠ k := fun he => hn ((hp.1 k).2 he.symm)
    simp [iterTo, Array.getElem?_setIfInBounds, hne], ok, ⟨hp.1, by
    have hlt := blk_lt hp.2
    simp [iterTo, Array.getElem?_setIfInBounds, hlt]⟩, fun k hk => .inl hk⟩)
end Sep
section
variable {P : Program} {W : World} {g : Nat} {s : ByteArray} {pos : Nat}
theorem nextAt (ty : TypeId) (hk : W.heap[g]? = some (.stringIter s pos)) (h : pos < s.size) :
    (Instr.next (.pointer (some ⟨g, 0, none⟩)) true ty).run P W = .ok (.tuple #[.bool true, .int .i64 pos, .int .i32 (Utf8.decode s pos).1]) (iterTo W g s (pos + (Utf8.decode s pos).2)) := by
  simp only [Instr.next, getObj, setObj, Sem.run_bind, Sem.run, hk, Result.andThen, h, if_true]
  simp [goInt, iterTo]
theorem nextEnd (ty : TypeId) (hk : W.heap[g]? = some (.stringIter s pos)) (h : ¬ pos < s.size) :
    (Instr.next (.pointer (some ⟨g, 0, none⟩)) true ty).run P W = .ok (.tuple #[.bool false]) W := by
  simp [Instr.next, getObj, Sem.run, hk, h]
end
end Go.Proofs.Ytkkgfpdjlohojaa.Kit
