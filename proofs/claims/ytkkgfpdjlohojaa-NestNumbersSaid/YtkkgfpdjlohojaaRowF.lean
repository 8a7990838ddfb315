/- Rows of elements that hold rows themselves: the cells are one's own, what lies in them is read. -/
import Derived.Test.YtkkgfpdjlohojaaRaw
import Derived.Test.YtkkgfpdjlohojaaFx
namespace Go.Proofs.Ytkkgfpdjlohojaa.Kit
set_option linter.unusedVariables false
set_option linter.unusedSimpArgs false
open Go.RowKit Go.Proofs.YtkkgfpdjlohojaaW.PrintWords Go.Proofs.YtkkgfpdjlohojaaW.PrintLast Go.Proofs.YtkkgfpdjlohojaaW.PrintMore
/-- What the cells of a row say, element by element. -/
def Each {α : Type} (d : Kd α) (xs : List α) (cs : List (List Value)) (W : World) : Prop := xs.length = cs.length ∧ ∀ (j : Nat) x c, xs[j]? = some x → cs[j]? = some c → d.K W x c
theorem Each.nil {α : Type} (d : Kd α) (W : World) : Each d [] [] W := ⟨rfl, fun j x c h => by simp at h⟩
theorem Each.snoc {α : Type} {d : Kd α} {xs : List α} {cs : List (List Value)} {W : World} {x : α} {c : List Value} (h : Each d xs cs W) (hx : d.K W x c) : Each d (xs ++ [x]) (cs ++ [c]) W := by
  refine ⟨by simp [h.1], fun j y b hy hb => ?_⟩
  by_cases hj : j < xs.length
  · rw [List.getElem?_append_left hj] at hy
    rw [List.getElem?_append_left (by rw [← h.1]; exact hj)] at hb
    exact h.2 j y b hy hb
  · rw [List.getElem?_append_right (by omega)] at hy
    rw [List.getElem?_append_right (by have := h.1; omega)] at hb
    have : j - xs.length = 0 := by
      rcases Nat.eq_zero_or_pos (j - xs.length) with h0 | h0
      · exact h0
      · rw [List.getElem?_eq_none (by simp; omega)] at hy; cases hy
    rw [this] at hy
    rw [show j - cs.length = 0 by have := h.1; omega] at hb
    simp at hy hb
    subst hy hb
    exact hx
theorem Each.set {α : Type} {d : Kd α} {xs : List α} {cs : List (List Value)} {W : World} {x : α} {c : List Value} (i : Nat) (h : Each d xs cs W) (hx : d.K W x c) : Each d (xs.set i x) (cs.set i c) W := by
  refine ⟨by simp [h.1], fun j y b hy hb => ?_⟩
  by_cases hj : i = j
  · subst hj
    rw [List.getElem?_set] at hy hb
    simp only [if_true] at hy hb
    split at hy
    · split at hb
      · cases hy; cases hb; exact hx
      · cases hb
    · cases hy
  · rw [List.getElem?_set_ne hj] at hy hb
    exact h.2 j y b hy hb
theorem Each.app {α : Type} {d : Kd α} {xs ys : List α} {cs bs : List (List Value)} {W : World} (h : Each d xs cs W) (k : Each d ys bs W) : Each d (xs ++ ys) (cs ++ bs) W := by
  refine ⟨by simp [h.1, k.1], fun j y b hy hb => ?_⟩
  by_cases hj : j < xs.length
  · rw [List.getElem?_append_left hj] at hy
    rw [List.getElem?_append_left (by rw [← h.1]; exact hj)] at hb
    exact h.2 j y b hy hb
  · rw [List.getElem?_append_right (by omega)] at hy
    rw [List.getElem?_append_right (by have := h.1; omega)] at hb
    rw [show j - cs.length = j - xs.length by have := h.1; omega] at hb
    exact k.2 _ y b hy hb
theorem Each.take {α : Type} {d : Kd α} {xs : List α} {cs : List (List Value)} {W : World} (h : Each d xs cs W) (k : Nat) : Each d (xs.take k) (cs.take k) W := by
  refine ⟨by simp [h.1], fun j y b hy hb => ?_⟩
  rw [List.getElem?_take] at hy hb
  split at hy
  · rename_i hj
    rw [if_pos hj] at hb
    exact h.2 j y b hy hb
  · cases hy
theorem Each.drop {α : Type} {d : Kd α} {xs : List α} {cs : List (List Value)} {W : World} (h : Each d xs cs W) (k : Nat) : Each d (xs.drop k) (cs.drop k) W := by
  refine ⟨by simp [h.1], fun j y b hy hb => ?_⟩
  rw [List.getElem?_drop] at hy hb
  exact h.2 _ y b hy hb
/-- A row read, cell by cell, with what the cells say. -/
theorem raw_C {α : Type} {d : Kd α} {W : World} {A : Option Addr} {n : Nat} {xs : List α} {cs : List (List Value)} (hC : (Kd.raw d.sz).C W A n cs) (h : Each d xs cs W) : d.C W A n xs := by
  refine ⟨h.1.trans hC.1, hC.2.1, fun hp => ?_⟩
  obtain ⟨ad, e, hr⟩ := hC.2.2 hp
  refine ⟨ad, e, fun j x hx => ?_⟩
  have hlt : j < cs.length := by
    rw [← h.1]
    exact (List.getElem?_eq_some_iff.1 hx).1
  obtain ⟨c, hl, hk, hc⟩ := hr j _ (List.getElem?_eq_getElem hlt)
  have hk1 : c = cs[j] := hk.1
  exact ⟨c, hl, by rw [hk1]; exact h.2 j x _ hx (List.getElem?_eq_getElem hlt), hc⟩
def RowF {α : Type} (d : Kd α) (e : Nat) (v : Value) (xs : List α) : HP := Ex fun cs : List (List Value) => Star [Row (Kd.raw d.sz) e v cs, Fx (Each d xs cs)]
/-- One element's cells, with what lies in them. -/
def Cl {α : Type} (d : Kd α) (x : α) (c : List Value) : HP := Fx (fun W => d.K W x c)
namespace Sep
variable {w0 W W' : World} {F : List HP} {α : Type} {d : Kd α} {e n c : Nat} {v : Value} {A : Option Addr} {xs : List α} {φ ψ : World → Prop}
theorem rowF_open (h : Sep w0 W (RowF d e v xs :: F)) : ∃ cs, Sep w0 W (Row (Kd.raw d.sz) e v cs :: Fx (Each d xs cs) :: F) := by
  obtain ⟨cs, h⟩ := h.ex
  exact ⟨cs, h.star⟩
theorem rowF_shut {cs : List (List Value)} (h : Sep w0 W (Row (Kd.raw d.sz) e v cs :: Fx (Each d xs cs) :: F)) : Sep w0 W (RowF d e v xs :: F) := Sep.unex cs (Sep.unstar (L := [_, _]) h)
theorem fxPure (h : Sep w0 W F) (hp : ∀ W, φ W) : Sep w0 W (Fx φ :: F) := h.fxTrue.fxImp (fun W _ => hp W)
theorem rowF_nil (h : Sep w0 W F) (d : Kd α) (e : Nat) : Sep w0 W (RowF d e (.slice none 0 0) [] :: F) := rowF_shut (cs := []) ((h.fxPure (fun W => Each.nil d W)).nilRow _ _)
theorem rowFV (h : Sep w0 W (RowF d e v xs :: F)) : ∃ A c, v = .slice A xs.length c := by
  obtain ⟨cs, h⟩ := h.rowF_open
  obtain ⟨A, c, hv⟩ := h.rowV
  exact ⟨A, c, by rw [hv, h.at2.fx.1]⟩
theorem rowFN (h : Sep w0 W (RowF d e v xs :: F)) (hn : xs.length = n) : ∃ A c, v = .slice A n c := by subst hn; exact h.rowFV
theorem rowFC (h : Sep w0 W (RowF d e (.slice A n c) xs :: F)) : n = xs.length ∧ n ≤ c ∧ d.C W A n xs := by
  obtain ⟨cs, h⟩ := h.rowF_open
  obtain ⟨h1, h2, h3⟩ := h.rowC
  have hE := h.at2.fx
  rw [← h1] at h3
  exact ⟨by rw [h1, hE.1], h2, raw_C h3 hE⟩
theorem rowFx (h : Sep w0 W (RowF d e (.slice A n c) xs :: F)) : Sep w0 W (Fx (fun W => d.C W A n xs) :: F) := by
  obtain ⟨cs, h⟩ := h.rowF_open
  exact h.fxRow.fxAnd.fxImp (fun W h2 => raw_C h2.1 h2.2)
/-- An element of a slice: out of the slice's own row. -/
theorem clSlice {β : Type} {d : Kd β} {e n c : Nat} {A : Option Addr} {xs : List β} (h : Sep w0 W (Row d e (.slice A n c) xs :: F)) : Sep w0 W (Cl (Kd.slice e d) xs [.slice A n c] :: F) := by
  have h1 := h.rowC
  exact h.fxRow.fxImp (fun W hC => ⟨A, c, by rw [h1.1], by rw [← h1.1]; exact h1.2.1, by rw [← h1.1]; exact hC⟩)
theorem clPair {β γ : Type} {a : Kd β} {b : Kd γ} {x : β} {y : γ} {p q : List Value} (h : Sep w0 W (Cl b y q :: F)) (hp : ∀ W, a.K W x p) : Sep w0 W (Cl (Kd.pair a b) (x, y) (p ++ q) :: F) :=
  h.fxImp (fun W hq => ⟨p, q, rfl, hp W, hq⟩)
section
variable {P : Program} {ops : Array Oper} {rest : List Oper} {o : Oper} {a : Act} {Q : Exit → Act → World → Prop}
/-- append(v, x): the literal's block holds the element's cells. -/
theorem appendF {x : α} {cl : List Value} (h : Sep w0 W (RowF d e v xs :: Cl d x cl :: F)) (hgd : o.guard = none) (s y : Operand) (t : TypeId) (z : Value) (bytes : Nat)
    (ho : o.op = .call { callee := .builtin .append, args := #[s, y], argTypes := #[t, t] })
    (ht : P.underlying t = some (.slice e)) (hinfo : (P.info? e).map (fun i => (i.zero, i.size, i.bytes)) = some (some z, d.sz, bytes)) (hz : z.cells.size = d.sz) (hs0 : 0 < d.sz) (hb0 : 0 < bytes)
    (A : Option Addr) (m : Nat) (hs : a.eval s = v) (hx : a.eval y = .slice A 1 m) (hC : (Kd.raw d.sz).C W A 1 [cl]) (hl : (xs.length + 1) * bytes ≤ 140737488355328)
    (k : ∀ v1 w1, Sep w0 w1 (RowF d e v1 (xs ++ [x]) :: F) → wpList P ops Q rest (a.put o.dst v1) w1) : wpList P ops Q (o :: rest) a W := by
  obtain ⟨cs, h⟩ := h.rowF_open
  have hlen := h.at2.fx.1
  refine h.appendRaw hgd s y t z bytes ho ht hinfo hz hs0 hb0 A 1 m hs hx hC (by rw [← hlen]; exact hl) (fun v1 w1 h1 => k v1 w1 ?_)
  refine rowF_shut (cs := cs ++ [cl]) ?_
  have h2 := (h1.at2.perm (.cons _ (.swap _ _ _))).fxAnd (φ := Each d xs cs) (ψ := fun W => d.K W x cl)
  exact (h2.fxImp (fun W hW => hW.1.snoc hW.2)).at2
end
end Sep
end Go.Proofs.Ytkkgfpdjlohojaa.Kit
