/- Tokens as cells. -/
import Derived.Test.YtkkgfpdjlohojaaTokP
import Derived.Test.YtkkgfpdjlohojaaElem
import Derived.Test.YtkkgfpdjlohojaaRawPut
import Derived.Test.YtkkgfpdjlohojaaCutsAny
import Derived.Test.YtkkgfpdjlohojaaBook
namespace Go.Proofs.Ytkkgfpdjlohojaa.Tok
set_option linter.unusedVariables false
set_option linter.unusedSimpArgs false
open Go.RowKit Go.Proofs.YtkkgfpdjlohojaaW.PrintWords Go.Proofs.YtkkgfpdjlohojaaW.PrintLast Go.Proofs.YtkkgfpdjlohojaaW.PrintMore Go.Proofs.Ytkkgfpdjlohojaa.Kit
open Go.Proofs.Ytkkgfpdjlohojaa.TokP
def cellT (t : Tok) : List Value := [.int .i32 t.sign, .int .i64 t.num, .int .i32 t.name]
def TC (W : World) (A : Option Addr) (n : Nat) (l : List Tok) : Prop := (Kd.raw 3).C W A n (l.map cellT)
def sgn (l : List Tok) : List Int := l.map (·.sign)
abbrev RowT (v : Value) (l : List Tok) : HP := Row (Kd.raw 3) 42 v (l.map cellT)
theorem TC.len {W : World} {A : Option Addr} {n : Nat} {l : List Tok} (h : TC W A n l) : l.length = n := by
  have := h.1
  rwa [List.length_map] at this
theorem TC.lt {W : World} {A : Option Addr} {n : Nat} {l : List Tok} (h : TC W A n l) : n ≤ 9223372036854775807 := h.2.1
theorem TC.at_ {W : World} {A : Option Addr} {n : Nat} {l : List Tok} (h : TC W A n l) {i : Nat} (hi : i < n) :
    ∃ (a : Addr) (t : Tok), A = some a ∧ l[i]? = some t ∧ W.cell? (a.add (i * 3)) = some (.int .i32 t.sign) ∧ W.cell? ⟨(a.add (i * 3)).block, (a.add (i * 3)).off + 1, none⟩ = some (.int .i64 t.num) ∧ W.cell? ⟨(a.add (i * 3)).block, (a.add (i * 3)).off + 2, none⟩ = some (.int .i32 t.name) := by
  obtain ⟨hx, a, cs, ha, hK, h0, hj⟩ := elem_ h hi
  have hl : i < l.length := by rw [h.len]; exact hi
  have hK1 : cs = (l.map cellT)[i] := hK.1
  rw [List.getElem_map] at hK1
  subst hK1
  exact ⟨a, l[i], ha, List.getElem?_eq_getElem hl, h0 _ rfl, hj 1 _ (by decide) rfl, hj 2 _ (by decide) rfl⟩
theorem TC.below {W W' : World} {A : Option Addr} {n : Nat} {l : List Tok} (h : TC W A n l) (hb : Below W.heap.size W W') : TC W' A n l := Kd.C_below h hb
theorem infoTok : (Try.prog.info? 42).map (fun i => (i.zero, i.size, i.bytes)) = some (some (.agg #[.int .i32 0, .int .i64 0, .int .i32 0]), 3, 24) := by kernel_rfl
theorem rowT_TC {w0 W : World} {F : List HP} {A : Option Addr} {n c : Nat} {l : List Tok} (h : Sep w0 W (RowT (.slice A n c) l :: F)) : TC W A n l := by
  exact h.rowC'
theorem one_raw {cl : List Value} {sz : Nat} {W : World} (hs : cl.length = sz) (h1 : ∀ u ∈ cl, u.oneCell' = true) : Reps ((Kd.raw sz).M W W.heap.size (fun _ => False)) (Kd.raw sz).sz [cl] cl :=
  ⟨by rw [List.length_singleton, Nat.one_mul]; exact hs, fun j c hj => by
    match j, hj with
    | 0, hj =>
      cases hj
      rw [Nat.zero_mul, List.drop_zero, List.take_of_length_le (by show cl.length ≤ sz; omega)]
      exact ⟨rfl, hs, h1⟩⟩
/-- A token in a block of its own. -/
theorem oneTok {w0 W : World} {F : List HP} (h : Sep w0 W F) (t : Tok) : Sep w0 (W.alloc (.cells (cellT t).toArray 42)) (RowT (.slice (some ⟨W.heap.size, 0, none⟩) 1 1) [t] :: F) :=
  h.newLit (d := Kd.raw 3) (xs := [cellT t]) (inner := cellT t) (e := 42) (one_raw rfl (by
    intro u hu
    simp only [cellT, List.mem_cons, List.not_mem_nil, or_false] at hu
    rcases hu with rfl | rfl | rfl <;> rfl)) (by simp)
end Go.Proofs.Ytkkgfpdjlohojaa.Tok
