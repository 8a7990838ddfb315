/- Cuts of rows of any elements; rows told by their cells: append in a region. -/
import Derived.Test.YtkkgfpdjlohojaaRowF
namespace Go.Proofs.Ytkkgfpdjlohojaa.Kit
set_option linter.unusedVariables false
set_option linter.unusedSimpArgs false
open Go.RowKit Go.Proofs.YtkkgfpdjlohojaaW.PrintWords Go.Proofs.YtkkgfpdjlohojaaW.PrintLast Go.Proofs.YtkkgfpdjlohojaaW.PrintMore
section
variable {P : Program} {T E : TypeId} {sz bytes : Nat} {z : Value}
theorem elem_of (ht : P.underlying T = some (.slice E)) : P.elem T = E := by simp [Program.elem, ht]
theorem cutHi (ht : P.underlying T = some (.slice E)) (hinfo : (P.info? E).map (fun i => (i.zero, i.size, i.bytes)) = some (some z, sz, bytes)) (A : Option Addr) (n c b : Nat) {K : Int} (hK : K = (b : Int)) (h1 : b ≤ n) (h2 : n ≤ c) (W : World) :
    (Instr.slice T (.slice A n c) none (some (.int .i64 K)) none).run P W = .ok (.slice A b c) W := by
  subst hK
  obtain ⟨t, hi, hz⟩ := Option.map_eq_some_iff.1 hinfo
  simp only [Prod.mk.injEq] at hz
  rw [run_slice_h W T A n c (by rw [elem_of ht]; exact ht) .i64 (b : Int) (by omega) (by omega), elem_of ht]
  have e : (A.map fun x => x.add 0) = A := by
    cases A with
    | none => rfl
    | some a => simp [Addr.add]
  simp [sizeOf, typeInfo, hi, hz.2.1, sliced, Result.andThen, e]
theorem cutLo (ht : P.underlying T = some (.slice E)) (hinfo : (P.info? E).map (fun i => (i.zero, i.size, i.bytes)) = some (some z, sz, bytes)) (A : Option Addr) (n c a : Nat) {J : Int} (hJ : J = (a : Int)) (h1 : a ≤ n) (h2 : n ≤ c) (W : World) :
    (Instr.slice T (.slice A n c) (some (.int .i64 J)) none none).run P W = .ok (.slice (if c = a then A else A.map (·.add (a * sz))) (n - a) (c - a)) W := by
  subst hJ
  obtain ⟨t, hi, hz⟩ := Option.map_eq_some_iff.1 hinfo
  simp only [Prod.mk.injEq] at hz
  rw [run_slice_l W T A n c (by rw [elem_of ht]; exact ht) .i64 (a : Int) (by omega) (by omega), elem_of ht]
  simp [sizeOf, typeInfo, hi, hz.2.1, sliced, Result.andThen]
end
theorem C_hi {α : Type} {d : Kd α} {W : World} {A : Option Addr} {n c b : Nat} {l : List α} (h : d.C W A n l) (hb : b ≤ n) (hc : n ≤ c) : d.C W A b (l.take b) := by
  obtain rfl : l.length = n := h.1
  have := Kd.C_take h hb
  rwa [List.length_take, Nat.min_eq_left hb] at this
theorem C_lo {α : Type} {d : Kd α} {W : World} {A : Option Addr} {n c a : Nat} {l : List α} (h : d.C W A n l) (ha : a ≤ n) (hc : n ≤ c) : d.C W (if c = a then A else A.map (·.add (a * d.sz))) (n - a) (l.drop a) := by
  obtain rfl : l.length = n := h.1
  have := Kd.C_drop (m := a) (c := c) h ha hc
  rwa [List.length_drop] at this
/-- What is read is read cell by cell. -/
theorem raw_of_C {α : Type} {d : Kd α} {W : World} {A : Option Addr} {n : Nat} {xs : List α} (h : d.C W A n xs) :
    ∃ cs, (Kd.raw d.sz).C W A n cs ∧ Each d xs cs W := by
  obtain rfl : xs.length = n := h.1
  by_cases hp : 0 < xs.length
  · obtain ⟨ad, e, hr⟩ := h.2.2 hp
    have hex : ∀ i : Fin xs.length, ∃ cs : List Value, cs.length = d.sz ∧ d.K W xs[i] cs ∧ ∀ j u, cs[j]? = some u → W.cell? (ad.add (i * d.sz + j)) = some u := fun i => hr i _ (List.getElem?_eq_getElem i.2)
    have hf := fun i => Classical.choose_spec (hex i)
    refine ⟨List.ofFn (fun i => Classical.choose (hex i)), ⟨by simp, h.2.1, fun _ => ⟨ad, e, fun i x hx => ?_⟩⟩, by simp, fun j x c hx hc => ?_⟩
    · rw [List.getElem?_ofFn] at hx
      split at hx
      · rename_i hi
        cases hx
        obtain ⟨g1, g2, g3⟩ := hf ⟨i, hi⟩
        exact ⟨_, g1, ⟨rfl, g1, (d.K_one g2)⟩, g3⟩
      · cases hx
    · rw [List.getElem?_ofFn] at hc
      split at hc
      · rename_i hi
        cases hc
        rw [List.getElem?_eq_getElem hi] at hx
        cases hx
        exact (hf ⟨j, hi⟩).2.1
      · cases hc
  · have h0 : xs = [] := List.eq_nil_of_length_eq_zero (by omega)
    subst h0
    exact ⟨[], ⟨rfl, h.2.1, fun hp => absurd hp (by simp)⟩, Each.nil _ _⟩
namespace Sep
section
variable {w0 W W' : World} {F : List HP} {P : Program} {ops : Array Oper} {rest : List Oper} {o : Oper} {a : Act} {Q : Exit → Act → World → Prop} {sz : Nat}
theorem appendRawStep {Kc : Act → World → Prop} {e : Nat} {v : Value} {xs ys : List (List Value)} (h : Sep w0 W (Row (Kd.raw sz) e v xs :: F)) (hw : Region.wanted o (yielded ops a.tmps) = true) (s x : Operand) (t : TypeId) (z : Value) (bytes : Nat)
    (ho : o.op = .call { callee := .builtin .append, args := #[s, x], argTypes := #[t, t] })
    (ht : P.underlying t = some (.slice e)) (hinfo : (P.info? e).map (fun i => (i.zero, i.size, i.bytes)) = some (some z, sz, bytes)) (hz : z.cells.size = sz) (hs0 : 0 < sz) (hb0 : 0 < bytes)
    (A : Option Addr) (m c : Nat) (hs : a.eval s = v) (hx : a.eval x = .slice A m c) (hC : (Kd.raw sz).C W A m ys) (hl : (xs.length + ys.length) * bytes ≤ 140737488355328)
    (k : ∀ v1 w1, Sep w0 w1 (Row (Kd.raw sz) e v1 (xs ++ ys) :: F) → Kc (a.put o.dst v1) w1) : if Region.wanted o (yielded ops a.tmps) = true then Oper.wp P o a W Kc Q else Kc (a.put o.dst undef) W := by
  obtain ⟨ok, hp, hd, hF⟩ := h.sep
  refine Kd.R_append_rows_step (Kd.raw sz) (Rr := (Kd.raw sz).K W) (w0 := W) 0 hw s x t e z bytes ho ht hinfo hz hs0 hb0 v xs ys A m c (fun k => ok k ∨ W.heap.size ≤ k) (fun _ => False) hs hx
    (Kd.R_mono hp.1 (fun k hk => .inl hk)) hC (fun x cs h => h) (fun _ h => h.elim) (fun k hk => .inr hk) (Below.refl 0 W) (Nat.zero_le _) (by rw [← hC.1]; exact hl) (fun v1 w1 hr hb hg hat => k v1 w1 ?_)
  exact h.stepOk hd hF ⟨hg.os, hg.tape, hg.output, hg.size⟩ (fun k hlt hn => hg.block k hlt (fun he => hn (hp.1.1 k he.symm))) (ok' := fun k => (ok k ∨ W.heap.size ≤ k) ∧ k < w1.heap.size)
    ⟨Kd.R_mono (Kd.R_bound hr) (fun k hk => ⟨hk.1, hk.2.2.1⟩), fun k hk => hk.2⟩ (fun k hk => hk.1)
theorem rowC' {α : Type} {d : Kd α} {e n c : Nat} {A : Option Addr} {xs : List α} (h : Sep w0 W (Row d e (.slice A n c) xs :: F)) : d.C W A n xs := by
  have h1 := h.rowC
  have := h1.2.2
  rwa [← h1.1] at this
/-- A literal: its cells are one's own. -/
theorem newLit {α : Type} {d : Kd α} {xs : List α} {inner : List Value} {e : Nat} (h : Sep w0 W F) (hrep : Reps (d.M W W.heap.size (fun _ => False)) d.sz xs inner) (hm : xs.length ≤ 9223372036854775807) :
    Sep w0 (W.alloc (.cells inner.toArray e)) (Row d e (.slice (some ⟨W.heap.size, 0, none⟩) xs.length xs.length) xs :: F) := by
  refine h.newRow (ok := fun _ => True) ⟨fun _ _ => trivial, inner, ?_, ?_⟩ (below_alloc (Below.refl _ _) _)
  · have h2 := World.ownsRow_lit (base := W.heap.size) (e := e) (size := d.sz) W inner.toArray xs.length (Nat.le_refl _) (by simpa [maxLen] using hm) (by simpa using hrep.1)
    simpa using h2
  · exact hrep.imp_ (fun p c hp => d.M_mono (fun k hk => hk.1.elim) (Kd.M_below (d.M_bound hp) (below_alloc (Below.refl _ _) _)))
theorem rawLit0 (h : Sep w0 W F) (sz e : Nat) : Sep w0 (W.alloc (.cells #[] e)) (Row (Kd.raw sz) e (.slice (some ⟨W.heap.size, 0, none⟩) 0 0) [] :: F) := h.newLit (d := Kd.raw sz) (xs := []) (inner := []) (Reps.none _ _) (by simp)
end
end Sep
end Go.Proofs.Ytkkgfpdjlohojaa.Kit
