/- DiskOf: the law's walk. -/
import Derived.Test.YtjngnigelkgekaaLaw1b
namespace Go.Proofs.Ytjngnigelkgekaa.Disk
set_option linter.unusedVariables false
set_option linter.unusedSimpArgs false
open Go.RowKit Go.Proofs.YtjngnigelkgekaaW.PrintWords Go.Proofs.YtjngnigelkgekaaW.PrintLast Go.Proofs.YtjngnigelkgekaaW.PrintMore Go.Proofs.Ytjngnigelkgekaa.Kit
theorem str_ {w0 W : World} {F : List HP} {A : Option Addr} {n c : Nat} {xs : List Int} (h : Sep w0 W (Row U8 5 (.slice A n c) xs :: F)) : (convert 30 9 (.slice A n c)).run Try.prog W = .ok (.string (strOfNums xs)) W := by
  obtain rfl : n = xs.length := h.rowC.1
  exact Kd.C_string (P := Try.prog) (c := c) Try.underlying30 Try.underlying5 Try.underlying9 h.rowC.2.2
theorem flushed_none {las : List Int} {n : Nat} (h : las.length = 64 * n) : flushed las (fun _ => none) = las := by
  unfold flushed
  rw [show las.length / 64 = n by omega]
  exact secs_self h
set_option maxHeartbeats 1600000 in
set_option maxRecDepth 100000 in
theorem diskOf_ {A : Option Addr} {n c : Nat} {b : List Int} {k : Int} (w : World) (hr : U8.C w A n b) :
    Calls Try.prog 8 #[.slice A n c, .int .i64 k] w fun e w' => e = .returned (.bool true) ∧ Below w.heap.size w w' := by
  obtain ⟨q1, q2⟩ := Book.withinF_in (n := k) (lo := 1) (hi := 9) (by omega)
  obtain ⟨m, hm⟩ : ∃ m : Nat, Book.withinF k 1 9 = (m : Int) := ⟨(Book.withinF k 1 9).toNat, by omega⟩
  have m1 : 1 ≤ m := by omega
  have m2 : m ≤ 9 := by omega
  have HR := Aside0.mk hr
  have hmk : ∀ W : World, (Instr.makeSlice 30 (.int .i64 ((m : Int) * 64)) (.int .i64 ((m : Int) * 64))).run Try.prog W = .ok (.slice (some ⟨W.heap.size, 0, none⟩) (m * 64) (m * 64)) (W.alloc (.cells (madeCells #[.int .u8 0] (m * 64)) 5)) := by
    intro W
    have := make_ (m := m * 64) (by omega) W
    rwa [Int.natCast_mul] at this
  have HB := Aside0.mk (madeB (F := []) (m * 64) (Sep.start w) (by omega))
  clear hr
  go_enter Try.func8, Try.ntmps8
  go_wp2_with fail
  refine (Book.within_ k 1 9 w (by omega) (by omega) (by omega)).mono ?_
  rintro e w1 ⟨rfl, rfl⟩
  rw [hm]
  clear q1 q2 hm
  go_wp2_with (first | (refine gate_builtin (b := .copy) (xs := #[.tmp 15, .tmp 16]) rfl ?_; refine HB.out.copyRow rfl (.tmp 15) (.tmp 16) rfl Try.underlying30 size1 (o := 0) (n' := m * 64) (c' := m * 64) (m := n) (c := c) (A := A) (ys := b) rfl rfl (Kd.C_alloc HR.out _) (by omega) ?_; intro W2 hS2; have hs2 := str_ hS2; have AS2 := Aside0.mk hS2; clear hS2))
  obtain ⟨B, hB, hBl⟩ : ∃ B, over (List.replicate (m * 64) 0) 0 (List.take (m * 64) b) = B ∧ B.length = m * 64 := ⟨_, rfl, by rw [over_len (by rw [List.length_take, List.length_replicate]; omega), List.length_replicate]⟩
  rw [hB] at hs2 AS2 ⊢
  have ABL := Aside0.mk hBl
  clear hB hBl hmk HB HR
  have hCB : U8.C W2 (some ⟨w.heap.size, 0, none⟩) (m * 64) B := by have := AS2.out.rowC.2.2; rwa [ABL.out] at this
  refine (of_ok (n := m) (l := B) hCB (Nat.le_refl _) (by omega) m1 (by omega)).mono ?_
  rintro e w3 ⟨g, rfl, hS3⟩
  have hS := AS2.out.lift1 hS3
  clear hs2 hCB hS3
  go_wp2_with fail
  refine (image_ hS).mono ?_
  rintro e w4 ⟨v4, rfl, hS4⟩
  obtain ⟨A4, c4, rfl⟩ := hS4.rowN ABL.out
  have hs4 := str_ hS4
  have A4' := Aside0.mk hS4.tail
  clear hS4 hS
  go_wp2_with fail
  refine (waits_ A4'.out).mono ?_
  rintro e w5 ⟨v5, rfl, hS5⟩
  have hk : keysI B (fun _ => none) = [] := by unfold keysI; rw [keys_none]; rfl
  rw [hk] at hS5
  obtain ⟨A5, c5, rfl⟩ := hS5.rowN (n := 0) rfl
  have A5' := Aside0.mk hS5.tail.at2
  clear hs4 hS5 hk
  go_wp2_with fail
  go_loopg [39] (m * 64) (fun k p wr => ∃ j : Nat, p = .int .i64 (j : Int) ∧ j + k = m * 64 ∧ ∃ ys : List Int, Sep w wr (Row U8 5 (.slice (some ⟨w.heap.size, 0, none⟩) (m * 64) (m * 64)) ys :: [Dsk g B (fun _ => none)]))
  case atStart => exact ⟨0, rfl, by omega, B, A5'.out⟩
  case round =>
    obtain ⟨j, rfl, hjk, ys, hS⟩ := hrel
    by_cases hj : j < m * 64
    · obtain ⟨f1, f2⟩ := hS.rowCell (0 : Int) j hj
      have AS := Aside0.mk hS
      have AK := Aside0.mk hjk
      clear hS hjk
      go_wp2
      go_roundg (gk - 1)
      case measure => have := AK.out; omega
      case rel => exact ⟨j + 1, by go_num, by have := AK.out; omega, _, AS.out.putRow j _⟩
    · have AS := Aside0.mk hS
      clear hS hjk
      go_wp2_with fail
      refine (image_ AS.out.at2).mono ?_
      rintro e w6 ⟨v6, rfl, hS6⟩
      obtain ⟨g6, c6, rfl⟩ := hS6.rowFormN ABL.out (by omega)
      have A6 := Aside0.mk hS6
      clear hS6 AS
      go_wp2_with fail
      go_loopg [53] (m * 64) (fun k p wr => ∃ j : Nat, p = .int .i64 (j : Int) ∧ j + k = m * 64 ∧ ∃ zs : List Int, Sep w wr (Row U8 5 (.slice (some ⟨g6, 0, none⟩) (m * 64) c6) zs :: Dsk g B (fun _ => none) :: [Row U8 5 (.slice (some ⟨w.heap.size, 0, none⟩) (m * 64) (m * 64)) ys]))
      case atStart => exact ⟨0, rfl, by omega, B, A6.out⟩
      case round =>
        obtain ⟨i, rfl, hik, zs, hS⟩ := hrel
        by_cases hi : i < m * 64
        · obtain ⟨f1, f2⟩ := hS.rowCell (0 : Int) i hi
          have AS := Aside0.mk hS
          have AK := Aside0.mk hik
          clear hS hik
          go_wp2
          go_roundg (gk - 1)
          case measure => have := AK.out; omega
          case rel => exact ⟨i + 1, by go_num, by have := AK.out; omega, _, AS.out.putRow i _⟩
        · have AS := Aside0.mk hS.tail
          clear hS hik
          go_wp2_with fail
          refine (image_ AS.out).mono ?_
          rintro e w7 ⟨v7, rfl, hS7⟩
          obtain ⟨A7, c7, rfl⟩ := hS7.rowN ABL.out
          have hs7 := str_ hS7
          have A7' := Aside0.mk hS7.tail
          clear hS7 AS
          go_wp2_with fail
          refine (seen_ A7'.out).mono ?_
          rintro e w8 ⟨v8, rfl, hS8⟩
          rw [flushed_none (n := m) (by rw [ABL.out]; omega)] at hS8
          obtain ⟨A8, c8, rfl⟩ := hS8.rowN ABL.out
          have hs8 := str_ hS8
          have A8' := Aside0.mk hS8.tail
          clear hS8 hs7
          go_wp2_with fail
          refine (len_ A8'.out).mono ?_
          rintro e w9 ⟨rfl, rfl⟩
          rw [show ((B.length : Int) / 64) = (m : Int) by rw [ABL.out]; omega]
          clear hs8
          go_wp2_with fail
          refine (known_ _).mono ?_
          rintro e w10 ⟨rfl, hb10⟩
          have A10 := Aside0.mk (A8'.out.below hb10).toBelow
          clear hb10
          go_wp2_with fail
          go_ret
          exact ⟨by first | rfl | (simp; done), A10.out⟩
end Go.Proofs.Ytjngnigelkgekaa.Disk
