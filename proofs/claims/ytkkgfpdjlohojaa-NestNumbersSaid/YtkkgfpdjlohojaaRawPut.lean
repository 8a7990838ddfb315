/- A cell of a row of elements of several cells is turned. -/
import Derived.Test.YtkkgfpdjlohojaaRaw
namespace Go.Proofs.Ytkkgfpdjlohojaa.Kit
set_option linter.unusedVariables false
set_option linter.unusedSimpArgs false
open Go.RowKit Go.Proofs.YtkkgfpdjlohojaaW.PrintWords Go.Proofs.YtkkgfpdjlohojaaW.PrintLast Go.Proofs.YtkkgfpdjlohojaaW.PrintMore
theorem reps_put {sz j q : Nat} {xs : List (List Value)} {inner : List Value} {M : List Value → List Value → Prop} (hM : ∀ p c, M p c ↔ (c = p ∧ p.length = sz ∧ ∀ u ∈ p, u.oneCell' = true)) (h : Reps M sz xs inner) (hj : j < xs.length) (hq : q < sz) {u : Value} (hu : u.oneCell' = true) :
    Reps M sz (xs.set j ((xs.getD j []).set q u)) (inner.set (j * sz + q) u) := by
  refine ⟨by rw [List.length_set, List.length_set]; exact h.1, fun i p hi => ?_⟩
  rw [hM]
  have hx := h.2 j _ (List.getElem?_eq_getElem hj)
  rw [hM] at hx
  have hg : xs.getD j [] = xs[j] := by rw [List.getD_eq_getElem?_getD, List.getElem?_eq_getElem hj]; rfl
  rw [hg] at hi
  by_cases hij : i = j
  · subst hij
    rw [List.getElem?_set_self hj] at hi
    cases hi
    refine ⟨?_, by rw [List.length_set]; exact hx.2.1, fun v hv => ?_⟩
    · rw [← hx.1]
      apply List.ext_getElem?
      intro t
      rw [List.getElem?_take, List.getElem?_set, List.getElem?_take, List.getElem?_drop, List.getElem?_drop, List.getElem?_set, List.length_take, List.length_drop]
      by_cases ht : t < sz
      · rw [if_pos ht, if_pos ht]
        by_cases htq : q = t
        · subst htq
          have hl : (xs[i]).length = sz := hx.2.1
          have h3 := congrArg List.length hx.1
          rw [List.length_take, List.length_drop, hl] at h3
          rw [if_pos rfl, if_pos rfl, if_pos (by omega), if_pos (by omega)]
        · rw [if_neg (by omega), if_neg htq]
      · rw [if_neg ht, if_neg ht, if_neg (by omega)]
    · rcases List.mem_or_eq_of_mem_set hv with hv | rfl
      · exact hx.2.2 v hv
      · exact hu
  · rw [List.getElem?_set_ne (fun hq => hij hq.symm)] at hi
    have hy := h.2 i p hi
    rw [hM] at hy
    refine ⟨?_, hy.2⟩
    rw [← hy.1]
    apply List.ext_getElem?
    intro t
    rw [List.getElem?_take, List.getElem?_take, List.getElem?_drop, List.getElem?_drop, List.getElem?_set]
    by_cases ht : t < sz
    · rw [if_pos ht, if_pos ht, if_neg]
      intro he
      rcases Nat.lt_or_gt_of_ne hij with h1 | h1
      · have : (i + 1) * sz ≤ j * sz := Nat.mul_le_mul_right _ h1
        rw [Nat.add_mul] at this
        omega
      · have : (j + 1) * sz ≤ i * sz := Nat.mul_le_mul_right _ h1
        rw [Nat.add_mul] at this
        omega
    · rw [if_neg ht, if_neg ht]
namespace Sep
theorem pull (A : List HP) {w0 W : World} {p : HP} {B : List HP} (h : Sep w0 W (A ++ p :: B)) : Sep w0 W (p :: (A ++ B)) := h.perm List.perm_middle
theorem push (A : List HP) {w0 W : World} {p : HP} {B : List HP} (h : Sep w0 W (p :: (A ++ B))) : Sep w0 W (A ++ p :: B) := h.perm List.perm_middle.symm
variable {w0 W : World} {F : List HP} {g n cap sz j q e : Nat} {xs : List (List Value)} {u : Value}
theorem putRaw (h : Sep w0 W (Row (Kd.raw sz) e (.slice (some ⟨g, 0, none⟩) n cap) xs :: F)) (hj : j < xs.length) (hq : q < sz) (hu : u.oneCell' = true) :
    Sep w0 (W.setCell ⟨g, j * sz + q, none⟩ u) (Row (Kd.raw sz) e (.slice (some ⟨g, 0, none⟩) n cap) (xs.set j ((xs.getD j []).set q u)) :: F) := by
  have hn : n = xs.length := h.rowC.1
  subst hn
  exact h.step ⟨rfl, rfl, rfl, by simp [World.setCell]⟩ (fun ok hp => ⟨fun k _ hn => Below.heap_setCell W _ _ k (fun he => hn (by
      have := hp.1.1 g rfl
      rw [he]; exact this)), ok, ⟨by
    obtain ⟨h1, inner, ho, hr⟩ := hp.1
    refine ⟨h1, inner.set (j * sz + q) u, ?_, reps_put (fun p c => ?_) hr hj hq hu⟩
    · have := (ho.stored (j * sz + q) u).1
      rwa [List.length_set]
    · exact ⟨fun ⟨h1, h2, h3⟩ => ⟨h1, by rw [← h1]; exact h2, by rw [← h1]; exact h3⟩, fun ⟨h1, h2, h3⟩ => ⟨h1, by rw [h1]; exact h2, by rw [h1]; exact h3⟩⟩, fun k hk => by simpa [World.setCell] using hp.2 k hk⟩, fun k hk => .inl hk⟩)
/-- A row cut short: what lies behind is its own still. -/
theorem rowTake {α : Type} {d : Kd α} {A : Option Addr} {m c : Nat} {ys : List α} (h : Sep w0 W (Row d e (.slice A n c) ys :: F)) (hm : m ≤ ys.length) : Sep w0 W (Row d e (.slice A m c) (ys.take m) :: F) :=
  h.imp (fun ok hp => ⟨Kd.R_take hp.1 hm, hp.2⟩)
end Sep
end Go.Proofs.Ytkkgfpdjlohojaa.Kit
