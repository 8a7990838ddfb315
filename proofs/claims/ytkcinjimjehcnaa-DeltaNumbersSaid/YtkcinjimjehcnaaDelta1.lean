/- Package delta: a small number put; changes as bytes; are they right; how long. -/
import Derived.Test.YtkcinjimjehcnaaBase
import Derived.Test.YtkcinjimjehcnaaElem
import Derived.Test.YtkcinjimjehcnaaBytes
import Derived.Deep.RegionWith
import Derived.Deep.LoopGhost
namespace Go.Proofs.Ytkcinjimjehcnaa.Delta
set_option linter.unusedVariables false
set_option linter.unusedSimpArgs false
open Go.RowKit Go.Proofs.YtkcinjimjehcnaaW.PrintWords Go.Proofs.YtkcinjimjehcnaaW.PrintLast Go.Proofs.YtkcinjimjehcnaaW.PrintMore Go.Proofs.Ytkcinjimjehcnaa.Kit Go.Proofs.Ytkcinjimjehcnaa.Base Go.Proofs.Ytkcinjimjehcnaa.Plain
abbrev Chg := Int × List Int
abbrev KC : Kd Chg := Kd.pair (Kd.int .i64) (Kd.slice 5 (Kd.int .u8))
def two (n : Int) : List Int := [n / 256 % 256, n % 256]
def oneF (c : Chg) : List Int := two c.1 ++ c.2
def deltaF (l : List Chg) : List Int := two (l.length : Int) ++ l.flatMap oneF
def okF (pages : Int) : Int → List Chg → Bool
  | _, [] => true
  | last, c :: r => decide (¬ c.1 ≤ last ∧ ¬ pages ≤ c.1 ∧ c.2.length = 64) && okF pages c.1 r
def rightF (l : List Chg) (pages : Int) : Bool := decide (pages ≤ 64) && okF pages (-1) l
def needF (n : Int) : Int := if n < 0 ∨ 64 < n then 0 else 18 + n * 66
theorem flat_snoc (l : List Chg) (c : Chg) : (l ++ [c]).flatMap oneF = l.flatMap oneF ++ (two c.1 ++ c.2) := by rw [List.flatMap_append]; simp [oneF]
theorem flat_take_le (l : List Chg) (j : Nat) : ((l.take j).flatMap oneF).length ≤ (l.flatMap oneF).length := by
  conv => rhs; rw [← List.take_append_drop j l, List.flatMap_append, List.length_append]
  omega
theorem take_get {α : Type} {l : List α} {j : Nat} (h : j < l.length) : l.take (j + 1) = l.take j ++ [l[j]] := by
  rw [List.take_add_one, List.getElem?_eq_getElem h]; rfl
section
variable {w0 W : World} {F : List HP}
set_option maxHeartbeats 400000 in
theorem small_ {v : Value} {xs : List Int} (h : Sep w0 W (Row U8 5 v xs :: F)) (n : Int) (hl : xs.length ≤ 1000000) :
    Calls Try.prog 46 #[v, .int .i64 n] W fun e w' => ∃ v', e = .returned v' ∧ Sep w0 w' (Row U8 5 v' (xs ++ two n) :: F) := by
  obtain ⟨A, c, rfl⟩ := h.rowV
  have L0 := Aside0.mk (h.litRow (enc := Value.int .u8) (h1 := fun _ => rfl) (e := 5) (two n) (by simp [two])).at2
  clear h
  go_enter Try.func46, Try.ntmps46
  go_wp2_with (first | (refine gate_builtin (b := .append) (xs := #[.tmp 5, .tmp 11]) rfl ?_; go_loud (refine L0.out.appendRow rfl (.tmp 5) (.tmp 11) 22 (.int .u8 0) 1 rfl Try.underlying22 infoB rfl (by decide) (some ⟨W.heap.size, 0, none⟩) 2 2 rfl rfl L0.out.at2.rowC.2.2 (by simp [two]; omega) ?_; intro v1 w1 hS1; have A1 := Aside0.mk hS1; clear hS1)))
  go_ret
  exact ⟨_, by first | rfl | (simp; done), A1.out.drop2⟩
theorem need_ (n : Int) (W : World) : Calls Try.prog 24 #[.int .i64 n] W fun e w' => e = .returned (.int .i64 (needF n)) ∧ W = w' := by
  by_cases h0 : n < 0
  · go_enter Try.func24, Try.ntmps24
    go_wp2
    go_ret
    exact ⟨by rw [show needF n = 0 from if_pos (.inl h0)]; first | rfl | (simp; done), rfl⟩
  · by_cases h1 : 64 < n
    · go_enter Try.func24, Try.ntmps24
      go_wp2
      go_ret
      exact ⟨by rw [show needF n = 0 from if_pos (.inr h1)]; first | rfl | (simp; done), rfl⟩
    · have h2 : n ≤ 64 := by omega
      have h3 : 0 ≤ n := by omega
      go_enter Try.func24, Try.ntmps24
      go_wp2
      go_ret
      exact ⟨by rw [show needF n = 18 + n * 66 from if_neg (by omega)]; first | rfl | (simp; done), rfl⟩
end
end Go.Proofs.Ytkcinjimjehcnaa.Delta
