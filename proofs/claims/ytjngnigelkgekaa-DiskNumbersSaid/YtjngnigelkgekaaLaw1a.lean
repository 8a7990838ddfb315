/- Chapter 1's laws: the sector that is made; what is known. -/
import Derived.Test.YtjngnigelkgekaaDisk9
import Derived.Test.YtjngnigelkgekaaBook
namespace Go.Proofs.Ytjngnigelkgekaa.Disk
set_option linter.unusedVariables false
set_option linter.unusedSimpArgs false
open Go.RowKit Go.Proofs.YtjngnigelkgekaaW.PrintWords Go.Proofs.YtjngnigelkgekaaW.PrintLast Go.Proofs.YtjngnigelkgekaaW.PrintMore Go.Proofs.Ytjngnigelkgekaa.Kit
theorem make_ {m : Nat} (hm : m ≤ 100000) : ∀ W : World, (Instr.makeSlice 30 (.int .i64 (m : Int)) (.int .i64 (m : Int))).run Try.prog W = .ok (.slice (some ⟨W.heap.size, 0, none⟩) m m) (W.alloc (.cells (madeCells #[.int .u8 0] m) 5)) :=
  print_make (P := Try.prog) 30 5 .u8 1 Try.underlying30 infoB (by decide) m (by omega)
theorem madeB {w0 W : World} {F : List HP} (m : Nat) (h : Sep w0 W F) (hm : m ≤ 100000) : Sep w0 (W.alloc (.cells (madeCells #[.int .u8 0] m) 5)) (Row U8 5 (.slice (some ⟨W.heap.size, 0, none⟩) m m) (List.replicate m 0) :: F) :=
  h.madeRow (h1 := fun _ => rfl) (e := 5) (enc := Value.int .u8) 0 m (by omega)
/-- 64 bytes, of which the first are told. -/
def padTo (n : Nat) (b : List Int) : List Int := over (List.replicate n 0) 0 (b.take n)
theorem padTo_len (n : Nat) (b : List Int) : (padTo n b).length = n := by
  unfold padTo; rw [over_len (by simp; omega), List.length_replicate]
set_option maxHeartbeats 400000 in
set_option maxRecDepth 100000 in
theorem sector1_ {A : Option Addr} {n c : Nat} {b : List Int} {w : World} (hr : U8.C w A n b) :
    Calls Try.prog 53 #[.slice A n c] w fun e w' => ∃ v, e = .returned v ∧ Sep w w' [Row U8 5 v (padTo 64 b)] := by
  have hmk : ∀ W : World, (Instr.makeSlice 30 (.int .i64 64) (.int .i64 64)).run Try.prog W = .ok (.slice (some ⟨W.heap.size, 0, none⟩) 64 64) (W.alloc (.cells (madeCells #[.int .u8 0] 64) 5)) := make_ (m := 64) (by omega)
  have hS := madeB (F := []) 64 (Sep.start w) (by omega)
  have HS := Aside0.mk hS
  have HR := Aside0.mk (Kd.C_alloc hr (.cells (madeCells #[.int .u8 0] 64) 5))
  clear hS hr
  go_enter Try.func53, Try.ntmps53
  go_wp2_with (first | (refine gate_builtin (b := .copy) (xs := #[.tmp 5, .tmp 6]) rfl ?_; refine HS.out.copyRow rfl (.tmp 5) (.tmp 6) rfl Try.underlying30 size1 (o := 0) (n' := 64) (c' := 64) (m := n) (c := c) (A := A) (ys := b) rfl rfl HR.out (by omega) ?_; intro W2 hS2; have AS2 := Aside0.mk hS2; clear hS2))
  go_ret
  exact ⟨_, by first | rfl | (simp; done), AS2.out⟩
end Go.Proofs.Ytjngnigelkgekaa.Disk
