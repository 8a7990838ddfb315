/- RowG: what StoreNumbers needs. -/
import Derived.Test.YtjngnigelkgekaaGreatTstoreNumbers23
set_option linter.unusedVariables false
set_option linter.unusedSimpArgs false
namespace Go.Proofs.YtjngnigelkgekaaGreat.Kit
open Go.RowKit Go.Proofs.YtjngnigelkgekaaGreatW.PrintWords Go.Proofs.YtjngnigelkgekaaGreatW.PrintLast Go.Proofs.YtjngnigelkgekaaGreatW.PrintMore
theorem raw_C {α : Type} {d : Kd α} {W : World} {A : Option Addr} {n : Nat} {xs : List α} {cs : List (List Value)} (hC : (Kd.raw d.sz).C W A n cs) (h : Each d xs cs W) : d.C W A n xs := by
  refine ⟨h.1.trans hC.1, hC.2.1, fun hp => ?_⟩
  obtain ⟨ad, e, hr⟩ := hC.2.2 hp
  refine ⟨ad, e, fun j x hx => ?_⟩
  have hlt : j < cs.length := by
    rw [← h.1]
    exact (List.getElem?_eq_some_iff.1 hx).1
  obtain ⟨c, hl, hk, hc⟩ := hr j _ (List.getElem?_eq_getElem hlt)
  have hk1 : c = cs[j] := hk.1
  exact ⟨c, hl, by rw [hk1]; exact h.2 j x _ hx (List.getElem?_eq_getElem hlt), hc⟩
def RowF {α : Type} (d : Kd α) (e : Nat) (v : Value) (xs : List α) : HP := Ex fun cs : List (List Value) => Star [Row (Kd.raw d.sz) e v cs, Fx (Each d xs cs)]
namespace Sep
variable {w0 W W' : World} {F : List HP} {α : Type} {d : Kd α} {e n c : Nat} {v : Value} {A : Option Addr} {xs : List α} {φ ψ : World → Prop}
theorem rowF_open (h : Sep w0 W (RowF d e v xs :: F)) : ∃ cs, Sep w0 W (Row (Kd.raw d.sz) e v cs :: Fx (Each d xs cs) :: F) := by
  obtain ⟨cs, h⟩ := h.ex
  exact ⟨cs, h.star⟩
theorem rowF_shut {cs : List (List Value)} (h : Sep w0 W (Row (Kd.raw d.sz) e v cs :: Fx (Each d xs cs) :: F)) : Sep w0 W (RowF d e v xs :: F) := Sep.unex cs (Sep.unstar (L := [_, _]) h)
theorem rowF_nil (h : Sep w0 W F) (d : Kd α) (e : Nat) : Sep w0 W (RowF d e (.slice none 0 0) [] :: F) := rowF_shut (cs := []) ((h.fxPure (fun W => Each.nil d W)).nilRow _ _)
theorem rowFV (h : Sep w0 W (RowF d e v xs :: F)) : ∃ A c, v = .slice A xs.length c := by
  obtain ⟨cs, h⟩ := h.rowF_open
  obtain ⟨A, c, hv⟩ := h.rowV
  exact ⟨A, c, by rw [hv, h.at2.fx.1]⟩
theorem rowFN (h : Sep w0 W (RowF d e v xs :: F)) (hn : xs.length = n) : ∃ A c, v = .slice A n c := by subst hn; exact h.rowFV
theorem rowFC (h : Sep w0 W (RowF d e (.slice A n c) xs :: F)) : n = xs.length ∧ n ≤ c ∧ d.C W A n xs := by
  obtain ⟨cs, h⟩ := h.rowF_open
  obtain ⟨h1, h2, h3⟩ := h.rowC
  have hE := h.at2.fx
  rw [← h1] at h3
  exact ⟨by rw [h1, hE.1], h2, raw_C h3 hE⟩
theorem clPair {β γ : Type} {a : Kd β} {b : Kd γ} {x : β} {y : γ} {p q : List Value} (h : Sep w0 W (Cl b y q :: F)) (hp : ∀ W, a.K W x p) : Sep w0 W (Cl (Kd.pair a b) (x, y) (p ++ q) :: F) :=
  h.fxImp (fun W hq => ⟨p, q, rfl, hp W, hq⟩)
end Sep
namespace Sep
section
variable {w0 W W' : World} {F : List HP} {P : Program} {ops : Array Oper} {rest : List Oper} {o : Oper} {a : Act} {Q : Exit → Act → World → Prop} {sz : Nat}
theorem appendRawStep {Kc : Act → World → Prop} {e : Nat} {v : Value} {xs ys : List (List Value)} (h : Sep w0 W (Row (Kd.raw sz) e v xs :: F)) (hw : Region.wanted o (yielded ops a.tmps) = true) (s x : Operand) (t : TypeId) (z : Value) (bytes : Nat)
    (ho : o.op = .call { callee := .builtin .append, args := #[s, x], argTypes := #[t, t] })
    (ht : P.underlying t = some (.slice e)) (hinfo : (P.info? e).map (fun i => (i.zero, i.size, i.bytes)) = some (some z, sz, bytes)) (hz : z.cells.size = sz) (hs0 : 0 < sz) (hb0 : 0 < bytes)
    (A : Option Addr) (m c : Nat) (hs : a.eval s = v) (hx : a.eval x = .slice A m c) (hC : (Kd.raw sz).C W A m ys) (hl : (xs.length + ys.length) * bytes ≤ 140737488355328)
    (k : ∀ v1 w1, Sep w0 w1 (Row (Kd.raw sz) e v1 (xs ++ ys) :: F) → Kc (a.put o.dst v1) w1) : if Region.wanted o (yielded ops a.tmps) = true then Oper.wp P o a W Kc Q else Kc (a.put o.dst undef) W := by
  obtain ⟨ok, hp, hd, hF⟩ := h.sep
  refine Kd.R_append_rows_step (Kd.raw sz) (Rr := (Kd.raw sz).K W) (w0 := W) 0 hw s x t e z bytes ho ht hinfo hz hs0 hb0 v xs ys A m c (fun k => ok k ∨ W.heap.size ≤ k) (fun _ => False) hs hx
    (Kd.R_mono hp.1 (fun k hk => .inl hk)) hC (fun x cs h => h) (fun _ h => h.elim) (fun k hk => .inr hk) (Below.refl 0 W) (Nat.zero_le _) (by rw [← hC.1]; exact hl) (fun v1 w1 hr hb hg hat => k v1 w1 ?_)
  exact h.stepOk hd hF ⟨hg.os, hg.tape, hg.output, hg.size⟩ (fun k hlt hn => hg.block k hlt (fun he => hn (hp.1.1 k he.symm))) (ok' := fun k => (ok k ∨ W.heap.size ≤ k) ∧ k < w1.heap.size)
    ⟨Kd.R_mono (Kd.R_bound hr) (fun k hk => ⟨hk.1, hk.2.2.1⟩), fun k hk => hk.2⟩ (fun k hk => hk.1)
theorem newLit {α : Type} {d : Kd α} {xs : List α} {inner : List Value} {e : Nat} (h : Sep w0 W F) (hrep : Reps (d.M W W.heap.size (fun _ => False)) d.sz xs inner) (hm : xs.length ≤ 9223372036854775807) :
    Sep w0 (W.alloc (.cells inner.toArray e)) (Row d e (.slice (some ⟨W.heap.size, 0, none⟩) xs.length xs.length) xs :: F) := by
  refine h.newRow (ok := fun _ => True) ⟨fun _ _ => trivial, inner, ?_, ?_⟩ (below_alloc (Below.refl _ _) _)
  · have h2 := World.ownsRow_lit (base := W.heap.size) (e := e) (size := d.sz) W inner.toArray xs.length (Nat.le_refl _) (by simpa [maxLen] using hm) (by simpa using hrep.1)
    simpa using h2
  · exact hrep.imp_ (fun p c hp => d.M_mono (fun k hk => hk.1.elim) (Kd.M_below (d.M_bound hp) (below_alloc (Below.refl _ _) _)))
theorem litOne {α : Type} {d : Kd α} {x : α} {cl : List Value} {e : Nat} (h : Sep w0 W (Cl d x cl :: F)) (hs : cl.length = d.sz) (h1 : ∀ u ∈ cl, u.oneCell' = true) :
    Sep w0 (W.alloc (.cells cl.toArray e)) (Row (Kd.raw d.sz) e (.slice (some ⟨W.heap.size, 0, none⟩) 1 1) [cl] :: Cl d x cl :: F) :=
  h.newLit (d := Kd.raw d.sz) (xs := [cl]) (inner := cl) ⟨by rw [List.length_singleton, Nat.one_mul]; exact hs, fun j c hj => by
    match j, hj with
    | 0, hj =>
      cases hj
      rw [Nat.zero_mul, List.drop_zero, List.take_of_length_le (by show cl.length ≤ d.sz; omega)]
      exact ⟨rfl, hs, h1⟩⟩ (by simp)
theorem litFx {α : Type} {d : Kd α} {x : α} {cl : List Value} {e g : Nat} (h : Sep w0 W (Row (Kd.raw d.sz) e (.slice (some ⟨g, 0, none⟩) 1 1) [cl] :: Cl d x cl :: F)) : Sep w0 W (Fx (fun W => d.C W (some ⟨g, 0, none⟩) 1 [x]) :: F) :=
  (h.fxRow.fxAnd (ψ := fun W => d.K W x cl)).fxImp (fun W hW => raw_C hW.1 ((Each.nil d W).snoc hW.2))
end
end Sep
end Go.Proofs.YtjngnigelkgekaaGreat.Kit
