/- engrambook.Within: a number brought into bounds. -/
import Derived.Test.YtkkgfpdjlohojaaProg
import Derived.Test.YtkkgfpdjlohojaaSep
import Derived.WalkKit
import Derived.KernelRfl
import Derived.WalkSpells
namespace Go.Proofs.Ytkkgfpdjlohojaa.Book
set_option linter.unusedVariables false
set_option linter.unusedSimpArgs false
open Go.RowKit Go.Proofs.YtkkgfpdjlohojaaW.PrintWords Go.Proofs.Ytkkgfpdjlohojaa.Kit
def withinF (n lo hi : Int) : Int :=
  if lo ≤ n ∧ n ≤ hi then n else lo + (if n.tmod (hi - lo + 1) < 0 then n.tmod (hi - lo + 1) + hi - lo + 1 else n.tmod (hi - lo + 1))
theorem withinF_in {n lo hi : Int} (h : lo ≤ hi) : lo ≤ withinF n lo hi ∧ withinF n lo hi ≤ hi := by
  unfold withinF
  split
  · omega
  · have h1 : n.tmod (hi - lo + 1) < hi - lo + 1 := Int.tmod_lt_of_pos n (by omega)
    have h2 : -(hi - lo + 1) < n.tmod (hi - lo + 1) := Int.lt_tmod_of_pos n (by omega)
    split <;> omega
theorem withinF_id {n lo hi : Int} (h1 : lo ≤ n) (h2 : n ≤ hi) : withinF n lo hi = n := if_pos ⟨h1, h2⟩
set_option maxHeartbeats 400000 in
theorem within_ (n lo hi : Int) (w : World) (h1 : -1073741824 ≤ lo) (h2 : lo ≤ hi) (h3 : hi ≤ 1073741824) :
    Calls Try.prog 17 #[.int .i64 n, .int .i64 lo, .int .i64 hi] w fun e w' => e = .returned (.int .i64 (withinF n lo hi)) ∧ w = w' := by
  have A0 := Aside0.mk (withinF_in (n := n) h2)
  have r1 : n.tmod (hi - lo + 1) < hi - lo + 1 := Int.tmod_lt_of_pos n (by omega)
  have r2 : -(hi - lo + 1) < n.tmod (hi - lo + 1) := Int.lt_tmod_of_pos n (by omega)
  have nz : ¬ (hi - lo + 1 = 0) := by omega
  have fin : ∀ (a : Int), withinF n lo hi = a → Ending.returned (.int .i64 a) = Ending.returned (.int .i64 (withinF n lo hi)) := fun a h => by rw [h]
  have AF := Aside0.mk fin
  clear fin
  by_cases c1 : lo ≤ n
  · by_cases c2 : n ≤ hi
    · have A1 := Aside0.mk (withinF_id c1 c2)
      clear r1 r2 nz
      go_enter Try.func17, Try.ntmps17
      go_wp2
      go_ret
      exact ⟨AF.out _ A1.out, rfl⟩
    · have A1 : Aside0 (withinF n lo hi = lo + (if n.tmod (hi - lo + 1) < 0 then n.tmod (hi - lo + 1) + hi - lo + 1 else n.tmod (hi - lo + 1))) := ⟨if_neg (fun h => c2 h.2)⟩
      by_cases c3 : n.tmod (hi - lo + 1) < 0
      · go_enter Try.func17, Try.ntmps17
        go_wp2
        go_ret
        exact ⟨AF.out _ (by rw [A1.out, if_pos c3]), rfl⟩
      · go_enter Try.func17, Try.ntmps17
        go_wp2
        go_ret
        exact ⟨AF.out _ (by rw [A1.out, if_neg (by omega)]), rfl⟩
  · have A1 : Aside0 (withinF n lo hi = lo + (if n.tmod (hi - lo + 1) < 0 then n.tmod (hi - lo + 1) + hi - lo + 1 else n.tmod (hi - lo + 1))) := ⟨if_neg (fun h => c1 h.1)⟩
    by_cases c3 : n.tmod (hi - lo + 1) < 0
    · go_enter Try.func17, Try.ntmps17
      go_wp2
      go_ret
      exact ⟨AF.out _ (by rw [A1.out, if_pos c3]), rfl⟩
    · go_enter Try.func17, Try.ntmps17
      go_wp2
      go_ret
      exact ⟨AF.out _ (by rw [A1.out, if_neg (by omega)]), rfl⟩
end Go.Proofs.Ytkkgfpdjlohojaa.Book
