/- The disk: made of bytes; of zeros. -/
import Derived.Test.YtjngnigelkgekaaDisk1
import Derived.Carry
namespace Go.Proofs.Ytjngnigelkgekaa.Disk
set_option linter.unusedVariables false
set_option linter.unusedSimpArgs false
open Go.RowKit Go.Proofs.YtjngnigelkgekaaW.PrintWords Go.Proofs.YtjngnigelkgekaaW.PrintLast Go.Proofs.YtjngnigelkgekaaW.PrintMore Go.Proofs.Ytjngnigelkgekaa.Kit
set_option maxHeartbeats 400000 in
theorem of_ok {A : Option Addr} {m c : Nat} {l : List Int} {w : World} (hr : U8.C w A m l) (hc : m ≤ c) {n : Nat} (hn : m = 64 * n) (h1 : 1 ≤ n) (h2 : n ≤ 160) :
    Calls Try.prog 47 #[.slice A m c] w fun e w' => ∃ g, e = .returned (.pointer (some ⟨g, 0, none⟩)) ∧ Sep w w' [Dsk g l (fun _ => none)] := by
  obtain rfl : l.length = m := hr.1
  have HR := Aside0.mk hr
  have HC := Aside0.mk hc
  have hok : DskOk l [] 0 (fun _ => none) := ⟨⟨n, hn, h1, h2⟩, List.nodup_nil, List.nodup_nil, fun _ h => absurd h (by simp), fun _ => rfl⟩
  have HOK := Aside0.mk hok
  have b0 : ¬ l = [] := fun e => by rw [e] at hn; simp at hn; omega
  have b1 : ((l.length : Int) == 0) = false := by simp [b0]
  have b2 : l.length ≤ 10240 := by omega
  have b3 : ((l.length : Int) % 64 != 0) = false := by simp; omega
  have b5 : ¬ (10240 < (l.length : Int)) := by omega
  have hmm := @run_makeMap Try.prog
  clear hr hc hn h1 h2 hok
  go_enter Try.func47, Try.ntmps47
  go_wp2_with (go_at_call 94; refine (clone_ HR.out HC.out (by omega)).mono ?_; rintro e w1 ⟨v, rfl, hS⟩; obtain ⟨A1, c1, rfl⟩ := hS.rowV)
  go_ret
  refine ⟨_, by first | rfl | (simp; done), shut_ (v := .slice A1 l.length c1) (m := w1.heap.size) HOK.out ?_⟩
  have h3 := (hS.newMap.newBlk 96 #[.slice A1 l.length c1, .map (some w1.heap.size)]).sw23
  simpa [ens] using h3
set_option maxHeartbeats 400000 in
theorem of_none {A : Option Addr} {m c : Nat} {l : List Int} {w : World} (hr : U8.C w A m l) (hb : m = 0 ∨ m % 64 ≠ 0 ∨ 10240 < m) :
    Calls Try.prog 47 #[.slice A m c] w fun e w' => e = .returned (.pointer none) ∧ w = w' := by
  obtain rfl : l.length = m := hr.1
  have hm : l.length ≤ 9223372036854775807 := hr.2.1
  clear hr
  by_cases b0 : l = []
  · subst b0
    clear hb
    show Calls Try.prog 47 #[.slice A 0 c] w _
    go_enter Try.func47, Try.ntmps47
    go_wp2
    go_ret
    exact ⟨by first | rfl | (simp; done), rfl⟩
  have b1 : ((l.length : Int) == 0) = false := by simp [b0]
  have b4 : ¬ l.length = 0 := by simpa using b0
  by_cases b3 : l.length % 64 = 0
  · have b6 : ((l.length : Int) % 64 != 0) = false := by simp; omega
    have b5 : 10240 < (l.length : Int) := by omega
    clear hb b3 b4
    go_enter Try.func47, Try.ntmps47
    go_wp2
    go_ret
    exact ⟨by first | rfl | (simp; done), rfl⟩
  · have b6 : ((l.length : Int) % 64 != 0) = true := by simp; omega
    clear hb b3 b4
    go_enter Try.func47, Try.ntmps47
    go_wp2
    go_ret
    exact ⟨by first | rfl | (simp; done), rfl⟩
set_option maxHeartbeats 400000 in
theorem new_ok {n : Nat} {w : World} (h1 : 1 ≤ n) (h2 : n ≤ 160) :
    Calls Try.prog 20 #[.int .i64 (n : Int)] w fun e w' => ∃ g, e = .returned (.pointer (some ⟨g, 0, none⟩)) ∧ Sep w w' [Dsk g (List.replicate (n * 64) 0) (fun _ => none)] := by
  have hmk : ∀ W : World, (Instr.makeSlice 30 (.int .i64 ((n : Int) * 64)) (.int .i64 ((n : Int) * 64))).run Try.prog W = .ok (.slice (some ⟨W.heap.size, 0, none⟩) (n * 64) (n * 64)) (W.alloc (.cells (madeCells #[.int .u8 0] (n * 64)) 5)) := by
    intro W
    have := print_make (P := Try.prog) 30 5 .u8 1 Try.underlying30 infoB (by decide) (n * 64) (by omega) W
    rwa [Int.natCast_mul] at this
  have hS := (Sep.start w).madeRow (h1 := fun _ => rfl) (e := 5) (enc := Value.int .u8) 0 (n * 64) (by omega)
  have HS := Aside0.mk hS
  have h1' : ¬ (n : Int) < 1 := by omega
  have h2' : ¬ 160 < (n : Int) := by omega
  clear hS
  go_enter Try.func20, Try.ntmps20
  go_wp2_with fail
  refine (of_ok (n := n) (l := List.replicate (n * 64) 0) HS.out.rowRd.rd (Nat.le_refl _) (by omega) h1 h2).mono ?_
  rintro e w1 ⟨g, rfl, hS1⟩
  go_wp2
  go_ret
  exact ⟨g, by first | rfl | (simp; done), ((Sep.start w).alloc _).lift1 hS1⟩
set_option maxHeartbeats 400000 in
theorem new_none {n : Int} {w : World} (h1 : n < 1 ∨ 160 < n) :
    Calls Try.prog 20 #[.int .i64 n] w fun e w' => e = .returned (.pointer none) ∧ w = w' := by
  by_cases h2 : n < 1
  · clear h1
    go_enter Try.func20, Try.ntmps20
    go_wp2
    go_ret
    exact ⟨by first | rfl | (simp; done), rfl⟩
  · have h3 : 160 < n := by omega
    clear h1
    go_enter Try.func20, Try.ntmps20
    go_wp2
    go_ret
    exact ⟨by first | rfl | (simp; done), rfl⟩
end Go.Proofs.Ytjngnigelkgekaa.Disk
