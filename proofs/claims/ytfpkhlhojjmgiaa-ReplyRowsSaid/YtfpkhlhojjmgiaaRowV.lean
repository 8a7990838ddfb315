/- Rows of elements of one cell each: the cells are one's own, what they lead to is read. -/
import Derived.Test.YtfpkhlhojjmgiaaRowF
namespace Go.Proofs.Ytfpkhlhojjmgiaa.Kit
set_option linter.unusedVariables false
set_option linter.unusedSimpArgs false
open Go.RowKit Go.Proofs.YtfpkhlhojjmgiaaW.PrintWords Go.Proofs.YtfpkhlhojjmgiaaW.PrintLast Go.Proofs.YtfpkhlhojjmgiaaW.PrintMore
/-- A value that is one cell. -/
abbrev OV := { v : Value // v.oneCell' = true }
abbrev KV : Kd OV := Kd.scalar (fun x => x.1) (fun x => x.2)
def EachV {α : Type} (d : Kd α) (xs : List α) (cs : List OV) (W : World) : Prop := xs.length = cs.length ∧ ∀ (j : Nat) x c, xs[j]? = some x → cs[j]? = some c → d.K W x [c.1]
theorem EachV.nil {α : Type} (d : Kd α) (W : World) : EachV d [] [] W := ⟨rfl, fun j x c h => by simp at h⟩
theorem EachV.snoc {α : Type} {d : Kd α} {xs : List α} {cs : List OV} {W : World} {x : α} {c : OV} (h : EachV d xs cs W) (hx : d.K W x [c.1]) : EachV d (xs ++ [x]) (cs ++ [c]) W := by
  refine ⟨by simp [h.1], fun j y b hy hb => ?_⟩
  by_cases hj : j < xs.length
  · rw [List.getElem?_append_left hj] at hy
    rw [List.getElem?_append_left (by rw [← h.1]; exact hj)] at hb
    exact h.2 j y b hy hb
  · rw [List.getElem?_append_right (by omega)] at hy
    rw [List.getElem?_append_right (by have := h.1; omega)] at hb
    have : j - xs.length = 0 := by
      rcases Nat.eq_zero_or_pos (j - xs.length) with h0 | h0
      · exact h0
      · rw [List.getElem?_eq_none (by simp; omega)] at hy; cases hy
    rw [this] at hy
    rw [show j - cs.length = 0 by have := h.1; omega] at hb
    simp at hy hb
    subst hy hb
    exact hx
theorem EachV.set {α : Type} {d : Kd α} {xs : List α} {cs : List OV} {W : World} {x : α} {c : OV} (i : Nat) (h : EachV d xs cs W) (hx : d.K W x [c.1]) : EachV d (xs.set i x) (cs.set i c) W := by
  refine ⟨by simp [h.1], fun j y b hy hb => ?_⟩
  by_cases hj : i = j
  · subst hj
    rw [List.getElem?_set] at hy hb
    simp only [if_true] at hy hb
    split at hy
    · split at hb
      · cases hy; cases hb; exact hx
      · cases hb
    · cases hy
  · rw [List.getElem?_set_ne hj] at hy hb
    exact h.2 j y b hy hb
theorem eachV_C {α : Type} {d : Kd α} {W : World} {A : Option Addr} {n : Nat} {xs : List α} {cs : List OV} (hd : d.sz = 1) (hC : KV.C W A n cs) (h : EachV d xs cs W) : d.C W A n xs := by
  refine ⟨h.1.trans hC.1, hC.2.1, fun hp => ?_⟩
  obtain ⟨ad, e, hr⟩ := hC.2.2 hp
  refine ⟨ad, e, fun j x hx => ?_⟩
  have hlt : j < cs.length := by
    rw [← h.1]
    exact (List.getElem?_eq_some_iff.1 hx).1
  obtain ⟨c, hl, hk, hc⟩ := hr j _ (List.getElem?_eq_getElem hlt)
  have hk1 : c = [(cs[j]).1] := hk
  subst hk1
  rw [hd]
  exact ⟨_, rfl, h.2 j x _ hx (List.getElem?_eq_getElem hlt), hc⟩
def RowV {α : Type} (d : Kd α) (e : Nat) (v : Value) (xs : List α) : HP := Ex fun cs : List OV => Star [Row KV e v cs, Fx (EachV d xs cs)]
namespace Sep
variable {w0 W W' : World} {F : List HP} {α : Type} {d : Kd α} {e n c : Nat} {v : Value} {A : Option Addr} {xs : List α}
theorem rowV_open (h : Sep w0 W (RowV d e v xs :: F)) : ∃ cs, Sep w0 W (Row KV e v cs :: Fx (EachV d xs cs) :: F) := by
  obtain ⟨cs, h⟩ := h.ex
  exact ⟨cs, h.star⟩
theorem rowV_shut {cs : List OV} (h : Sep w0 W (Row KV e v cs :: Fx (EachV d xs cs) :: F)) : Sep w0 W (RowV d e v xs :: F) := Sep.unex cs (Sep.unstar (L := [_, _]) h)
theorem rowV_nil (h : Sep w0 W F) (d : Kd α) (e : Nat) : Sep w0 W (RowV d e (.slice none 0 0) [] :: F) := rowV_shut (cs := []) ((h.fxPure (fun W => EachV.nil d W)).nilRow _ _)
theorem rowVN (h : Sep w0 W (RowV d e v xs :: F)) (hn : xs.length = n) : ∃ A c, v = .slice A n c := by
  obtain ⟨cs, h⟩ := h.rowV_open
  exact h.rowN (n := n) (by rw [← h.at2.fx.1]; exact hn)
theorem rowVC (hd : d.sz = 1) (h : Sep w0 W (RowV d e (.slice A n c) xs :: F)) : n = xs.length ∧ n ≤ c ∧ d.C W A n xs := by
  obtain ⟨cs, h⟩ := h.rowV_open
  obtain ⟨h1, h2, h3⟩ := h.rowC
  have hE := h.at2.fx
  rw [← h1] at h3
  exact ⟨by rw [h1, hE.1], h2, eachV_C hd h3 hE⟩
section
variable {P : Program} {ops : Array Oper} {rest : List Oper} {o : Oper} {a : Act} {Q : Exit → Act → World → Prop}
/-- append(v, x): the literal's block holds the element's one cell. -/
theorem appendV {x : α} {cl : OV} (h : Sep w0 W (RowV d e v xs :: Cl d x [cl.1] :: F)) (hgd : o.guard = none) (s y : Operand) (t : TypeId) (z : Value) (bytes : Nat)
    (ho : o.op = .call { callee := .builtin .append, args := #[s, y], argTypes := #[t, t] })
    (ht : P.underlying t = some (.slice e)) (hinfo : (P.info? e).map (fun i => (i.zero, i.size, i.bytes)) = some (some z, 1, bytes)) (hz : z.cells.size = 1) (hb0 : 0 < bytes)
    (hs : a.eval s = v) (hx : a.eval y = .slice (some ⟨W.heap.size, 0, none⟩) 1 1) (hl : (xs.length + 1) * bytes ≤ 140737488355328)
    (k : ∀ v1 w1, Sep w0 w1 (RowV d e v1 (xs ++ [x]) :: F) → wpList P ops Q rest (a.put o.dst v1) w1) : wpList P ops Q (o :: rest) a (W.alloc (.cells #[cl.1] e)) := by
  obtain ⟨cs, h⟩ := h.rowV_open
  have hlen := h.at2.fx.1
  have hL := h.litRow (enc := fun x : OV => x.1) (h1 := fun x => x.2) (e := e) [cl] (by simp)
  have hL2 : Sep w0 (W.alloc (.cells #[cl.1] e)) (Row KV e v cs :: Row KV e (.slice (some ⟨W.heap.size, 0, none⟩) 1 1) [cl] :: Fx (EachV d xs cs) :: Cl d x [cl.1] :: F) := hL.at2
  refine hL2.appendRow hgd s y t z bytes ho ht hinfo hz hb0 (some ⟨W.heap.size, 0, none⟩) 1 1 hs hx hL2.at2.rowC.2.2 (by rw [← hlen]; exact hl) (fun v1 w1 h1 => k v1 w1 ?_)
  refine rowV_shut (cs := cs ++ [cl]) ?_
  have h2 := (h1.drop2.at2.perm (.cons _ (.swap _ _ _))).fxAnd (φ := EachV d xs cs) (ψ := fun W => d.K W x [cl.1])
  exact (h2.fxImp (fun W hW => hW.1.snoc hW.2)).at2
end
theorem rowVForm (h : Sep w0 W (RowV d e (.slice A n c) xs :: F)) (hp : 0 < n) : ∃ g, A = some ⟨g, 0, none⟩ := by
  obtain ⟨cs, h⟩ := h.rowV_open
  obtain ⟨g, cap, he⟩ := h.rowFormN (n := n) h.rowC.1.symm hp
  injection he with h1 h2 h3
  exact ⟨g, h1⟩
theorem rowVFrozen {g cap i : Nat} (h : Sep w0 W (RowV d e (.slice (some ⟨g, 0, none⟩) n cap) xs :: F)) (hi : i < n) : ∃ u, W.cell? ⟨g, i, none⟩ = some u ∧ W.frozen? ⟨g, i, none⟩ = false := by
  obtain ⟨cs, h⟩ := h.rowV_open
  exact ⟨_, h.rowCell (enc := fun x : OV => x.1) ⟨.int .i64 0, rfl⟩ i hi⟩
/-- A cell turned: it leads to another element. -/
theorem putV {g cap i : Nat} {x : α} {cl : OV} (h : Sep w0 W (RowV d e (.slice (some ⟨g, 0, none⟩) n cap) xs :: Cl d x [cl.1] :: F)) : Sep w0 (W.setCell ⟨g, i, none⟩ cl.1) (RowV d e (.slice (some ⟨g, 0, none⟩) n cap) (xs.set i x) :: F) := by
  obtain ⟨cs, h⟩ := h.rowV_open
  have h1 := h.putRow (enc := fun x : OV => x.1) i cl
  refine rowV_shut (cs := cs.set i cl) ?_
  have h2 := (h1.at2.perm (.cons _ (.swap _ _ _))).fxAnd (φ := EachV d xs cs) (ψ := fun W => d.K W x [cl.1])
  exact (h2.fxImp (fun W hW => hW.1.set i hW.2)).at2
end Sep
end Go.Proofs.Ytfpkhlhojjmgiaa.Kit
