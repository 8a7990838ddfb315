/- Law1a, Law1b, DiskOf, Law1c in one. -/
import Derived.Test.YtjngnigelkgekaaDisk9
import Derived.Test.YtjngnigelkgekaaKM
import Derived.RegionCalls
import Derived.Deep.RegionWith
/- Chapter 1's laws: the sector that is made; what is known. -/
namespace Go.Proofs.Ytjngnigelkgekaa.Disk
set_option linter.unusedVariables false
set_option linter.unusedSimpArgs false
open Go.RowKit Go.Proofs.YtjngnigelkgekaaW.PrintWords Go.Proofs.YtjngnigelkgekaaW.PrintLast Go.Proofs.YtjngnigelkgekaaW.PrintMore Go.Proofs.Ytjngnigelkgekaa.Kit
theorem make_ {m : Nat} (hm : m ≤ 100000) : ∀ W : World, (Instr.makeSlice 30 (.int .i64 (m : Int)) (.int .i64 (m : Int))).run Try.prog W = .ok (.slice (some ⟨W.heap.size, 0, none⟩) m m) (W.alloc (.cells (madeCells #[.int .u8 0] m) 5)) :=
  print_make (P := Try.prog) 30 5 .u8 1 Try.underlying30 infoB (by decide) m (by omega)
theorem madeB {w0 W : World} {F : List HP} (m : Nat) (h : Sep w0 W F) (hm : m ≤ 100000) : Sep w0 (W.alloc (.cells (madeCells #[.int .u8 0] m) 5)) (Row U8 5 (.slice (some ⟨W.heap.size, 0, none⟩) m m) (List.replicate m 0) :: F) :=
  h.madeRow (h1 := fun _ => rfl) (e := 5) (enc := Value.int .u8) 0 m (by omega)
/-- 64 bytes, of which the first are told. -/
def padTo (n : Nat) (b : List Int) : List Int := over (List.replicate n 0) 0 (b.take n)
theorem padTo_len (n : Nat) (b : List Int) : (padTo n b).length = n := by
  unfold padTo; rw [over_len (by simp; omega), List.length_replicate]
set_option maxHeartbeats 400000 in
set_option maxRecDepth 100000 in
theorem sector1_ {A : Option Addr} {n c : Nat} {b : List Int} {w : World} (hr : U8.C w A n b) :
    Calls Try.prog 53 #[.slice A n c] w fun e w' => ∃ v, e = .returned v ∧ Sep w w' [Row U8 5 v (padTo 64 b)] := by
  have hmk : ∀ W : World, (Instr.makeSlice 30 (.int .i64 64) (.int .i64 64)).run Try.prog W = .ok (.slice (some ⟨W.heap.size, 0, none⟩) 64 64) (W.alloc (.cells (madeCells #[.int .u8 0] 64) 5)) := make_ (m := 64) (by omega)
  have hS := madeB (F := []) 64 (Sep.start w) (by omega)
  have HS := Aside0.mk hS
  have HR := Aside0.mk (Kd.C_alloc hr (.cells (madeCells #[.int .u8 0] 64) 5))
  clear hS hr
  go_enter Try.func53, Try.ntmps53
  go_wp2_with (first | (refine gate_builtin (b := .copy) (xs := #[.tmp 5, .tmp 6]) rfl ?_; refine HS.out.copyRow rfl (.tmp 5) (.tmp 6) rfl Try.underlying30 size1 (o := 0) (n' := 64) (c' := 64) (m := n) (c := c) (A := A) (ys := b) rfl rfl HR.out (by omega) ?_; intro W2 hS2; have AS2 := Aside0.mk hS2; clear hS2))
  go_ret
  exact ⟨_, by first | rfl | (simp; done), AS2.out⟩
end Go.Proofs.Ytjngnigelkgekaa.Disk

/- Chapter 1's laws: what is known. -/
namespace Go.Proofs.Ytjngnigelkgekaa.Disk
set_option linter.unusedVariables false
set_option linter.unusedSimpArgs false
open Go.RowKit Go.Proofs.YtjngnigelkgekaaW.PrintWords Go.Proofs.YtjngnigelkgekaaW.PrintLast Go.Proofs.YtjngnigelkgekaaW.PrintMore Go.Proofs.Ytjngnigelkgekaa.Kit
def onesAt (j : Nat) : List Int := List.replicate j 1 ++ List.replicate (64 - j) 0
theorem ones_set {j : Nat} (hj : j < 64) : (onesAt j).set j 1 = onesAt (j + 1) := by
  unfold onesAt
  rw [List.set_append_right _ _ (by simp), List.length_replicate, Nat.sub_self, show 64 - j = (64 - (j + 1)) + 1 by omega, List.replicate_succ, List.set_cons_zero, List.replicate_succ', List.append_assoc]
  rfl
def wt1 : Wt := fun j => if j = 1 then some (onesAt 64) else none
def las1 : List Int := List.replicate 64 0 ++ [1, 1, 1] ++ List.replicate 61 0
theorem crash1 : crashed (List.replicate (2 * 64) 0) wt1 [3] = las1 := by kernel_rfl
theorem crash2 : crashed las1 (fun _ => none) [] = las1 := by kernel_rfl
theorem sec1 : sec las1 1 = [1, 1, 1] ++ List.replicate 61 0 := by kernel_rfl
set_option maxHeartbeats 1600000 in
set_option maxRecDepth 100000 in
theorem known_ (w : World) : Calls Try.prog 51 #[] w fun e w' => e = .returned (.bool true) ∧ Below w.heap.size w w' := by
  have hmk63 : ∀ W : World, (Instr.makeSlice 30 (.int .i64 63) (.int .i64 63)).run Try.prog W = .ok (.slice (some ⟨W.heap.size, 0, none⟩) 63 63) (W.alloc (.cells (madeCells #[.int .u8 0] 63) 5)) := make_ (m := 63) (by omega)
  have hmk64 : ∀ W : World, (Instr.makeSlice 30 (.int .i64 64) (.int .i64 64)).run Try.prog W = .ok (.slice (some ⟨W.heap.size, 0, none⟩) 64 64) (W.alloc (.cells (madeCells #[.int .u8 0] 64) 5)) := make_ (m := 64) (by omega)
  go_enter Try.func51, Try.ntmps51
  go_wp2_with fail
  refine (new_ok (n := 2) (w := w) (by omega) (by omega)).mono ?_
  rintro e w1 ⟨g, rfl, hS1⟩
  go_wp2_with fail
  refine (new_none (n := 0) (by omega)).mono ?_
  rintro e w2 ⟨rfl, rfl⟩
  go_wp2_with fail
  refine (new_none (n := 161) (by omega)).mono ?_
  rintro e w2 ⟨rfl, rfl⟩
  go_wp2_with fail
  have h63 := madeB 63 hS1 (by omega)
  refine (of_none (m := 63) (l := List.replicate 63 0) h63.rowRd.rd (by omega)).mono ?_
  rintro e w2 ⟨rfl, rfl⟩
  go_wp2_with fail
  have h64 := madeB 64 h63.tail (by omega)
  rw [show (w1.alloc (Obj.cells (madeCells #[.int .u8 0] 63) 5)).heap.size = w1.heap.size + 1 by simp] at h64
  have A64 := Aside0.mk h64
  clear h63 h64 hS1 hmk63 hmk64
  go_loopg [27] 64 (fun k p wr => ∃ j : Nat, p = .int .i64 (j : Int) ∧ j + k = 64 ∧ Sep w wr (Row U8 5 (.slice (some ⟨w1.heap.size + 1, 0, none⟩) 64 64) (onesAt j) :: [Dsk g (List.replicate (2 * 64) 0) (fun _ => none)]))
  case atStart => exact ⟨0, rfl, rfl, A64.out⟩
  case round =>
    obtain ⟨j, rfl, hjk, hS⟩ := hrel
    by_cases hj : j < 64
    · obtain ⟨f1, f2⟩ := hS.rowCell (0 : Int) j hj
      have AS := Aside0.mk hS
      have AK := Aside0.mk hjk
      clear hS hjk
      go_wp2
      go_roundg (gk - 1)
      case measure => have := AK.out; omega
      case rel => exact ⟨j + 1, by go_num, by have := AK.out; omega, by have := AS.out.putRow j 1; rw [ones_set hj] at this; exact this⟩
    · have hj64 : j = 64 := by omega
      subst hj64
      have AS := Aside0.mk hS
      clear hS hjk hj
      go_wp2_with fail
      refine (write_in AS.out.at2 1 (by simp) AS.out.rowC.2.2 (Nat.le_refl _)).mono ?_
      rintro e w3 ⟨rfl, hS3⟩
      go_wp2_with fail
      have hS3 : Sep w w3 (Dsk g (List.replicate (2 * 64) 0) wt1 :: [Row U8 5 (.slice (some ⟨w1.heap.size + 1, 0, none⟩) 64 64) (onesAt 64)]) := hS3
      have hL := (hS3.litRow (enc := Value.int .i64) (h1 := fun _ => rfl) (e := 3) [3] (by decide)).at2
      refine (crash_ hL (fun W' h => h.rowRd.rd)).mono ?_
      rintro e w4 ⟨rfl, hS4⟩
      have hk : ((keysOf ((List.replicate (2 * 64) (0 : Int)).length / 64) wt1).length : Int) = 1 := by kernel_rfl
      rw [hk]
      rw [crash1] at hS4
      clear hL hS3 hk
      go_wp2_with fail
      refine (read_in hS4 1 (by decide)).mono ?_
      rintro e w5 ⟨v, rfl, hS5⟩
      simp only [Option.getD_none] at hS5
      rw [sec1] at hS5
      obtain ⟨gv, cv, rfl⟩ := hS5.rowFormN (n := 64) (by decide) (by decide)
      have f2 : w5.cell? ⟨gv, 2, none⟩ = some (.int .u8 1) := (hS5.rowCell (0 : Int) 2 (by decide)).1
      have f3 : w5.cell? ⟨gv, 3, none⟩ = some (.int .u8 0) := (hS5.rowCell (0 : Int) 3 (by decide)).1
      have A5 := Aside0.mk hS5.tail
      clear hS4 hS5 AS A64
      go_wp2_with fail
      refine (crash_ (cuts := []) A5.out (fun W' h => Kd.C_nil _ _)).mono ?_
      rintro e w6 ⟨rfl, hS6⟩
      rw [keys_none]
      rw [crash2] at hS6
      clear f2 f3
      go_wp2_with fail
      refine (write_out hS6 2 (n := 64) (by decide) (.inl (by decide))).mono ?_
      rintro e w7 ⟨rfl, rfl⟩
      go_wp2_with fail
      refine (write_out hS6 0 (n := 63) (by decide) (.inr (by decide))).mono ?_
      rintro e w7 ⟨rfl, rfl⟩
      go_wp2_with fail
      refine (len_ hS6).mono ?_
      rintro e w7 ⟨rfl, rfl⟩
      rw [show ((las1.length : Int) / 64) = 2 from by decide]
      go_wp2_with fail
      refine (image_ hS6).mono ?_
      rintro e w8 ⟨v8, rfl, hS8⟩
      obtain ⟨A8, c8, rfl⟩ := hS8.rowN (n := 128) (by decide)
      have A8' := Aside0.mk hS8
      clear hS6 hS8 A5
      go_wp2_with fail
      go_ret
      exact ⟨by first | rfl | (simp; done), A8'.out.toBelow⟩
end Go.Proofs.Ytjngnigelkgekaa.Disk

/- DiskOf: the law's walk. -/
namespace Go.Proofs.Ytjngnigelkgekaa.Disk
set_option linter.unusedVariables false
set_option linter.unusedSimpArgs false
open Go.RowKit Go.Proofs.YtjngnigelkgekaaW.PrintWords Go.Proofs.YtjngnigelkgekaaW.PrintLast Go.Proofs.YtjngnigelkgekaaW.PrintMore Go.Proofs.Ytjngnigelkgekaa.Kit
theorem str_ {w0 W : World} {F : List HP} {A : Option Addr} {n c : Nat} {xs : List Int} (h : Sep w0 W (Row U8 5 (.slice A n c) xs :: F)) : (convert 30 9 (.slice A n c)).run Try.prog W = .ok (.string (strOfNums xs)) W := by
  obtain rfl : n = xs.length := h.rowC.1
  exact Kd.C_string (P := Try.prog) (c := c) Try.underlying30 Try.underlying5 Try.underlying9 h.rowC.2.2
theorem flushed_none {las : List Int} {n : Nat} (h : las.length = 64 * n) : flushed las (fun _ => none) = las := by
  unfold flushed
  rw [show las.length / 64 = n by omega]
  exact secs_self h
set_option maxHeartbeats 1600000 in
set_option maxRecDepth 100000 in
theorem diskOf_ {A : Option Addr} {n c : Nat} {b : List Int} {k : Int} (w : World) (hr : U8.C w A n b) :
    Calls Try.prog 8 #[.slice A n c, .int .i64 k] w fun e w' => e = .returned (.bool true) ∧ Below w.heap.size w w' := by
  obtain ⟨q1, q2⟩ := Book.withinF_in (n := k) (lo := 1) (hi := 9) (by omega)
  obtain ⟨m, hm⟩ : ∃ m : Nat, Book.withinF k 1 9 = (m : Int) := ⟨(Book.withinF k 1 9).toNat, by omega⟩
  have m1 : 1 ≤ m := by omega
  have m2 : m ≤ 9 := by omega
  have HR := Aside0.mk hr
  have hmk : ∀ W : World, (Instr.makeSlice 30 (.int .i64 ((m : Int) * 64)) (.int .i64 ((m : Int) * 64))).run Try.prog W = .ok (.slice (some ⟨W.heap.size, 0, none⟩) (m * 64) (m * 64)) (W.alloc (.cells (madeCells #[.int .u8 0] (m * 64)) 5)) := by
    intro W
    have := make_ (m := m * 64) (by omega) W
    rwa [Int.natCast_mul] at this
  have HB := Aside0.mk (madeB (F := []) (m * 64) (Sep.start w) (by omega))
  clear hr
  go_enter Try.func8, Try.ntmps8
  go_wp2_with fail
  refine (Book.within_ k 1 9 w (by omega) (by omega) (by omega)).mono ?_
  rintro e w1 ⟨rfl, rfl⟩
  rw [hm]
  clear q1 q2 hm
  go_wp2_with (first | (refine gate_builtin (b := .copy) (xs := #[.tmp 15, .tmp 16]) rfl ?_; refine HB.out.copyRow rfl (.tmp 15) (.tmp 16) rfl Try.underlying30 size1 (o := 0) (n' := m * 64) (c' := m * 64) (m := n) (c := c) (A := A) (ys := b) rfl rfl (Kd.C_alloc HR.out _) (by omega) ?_; intro W2 hS2; have hs2 := str_ hS2; have AS2 := Aside0.mk hS2; clear hS2))
  obtain ⟨B, hB, hBl⟩ : ∃ B, over (List.replicate (m * 64) 0) 0 (List.take (m * 64) b) = B ∧ B.length = m * 64 := ⟨_, rfl, by rw [over_len (by rw [List.length_take, List.length_replicate]; omega), List.length_replicate]⟩
  rw [hB] at hs2 AS2 ⊢
  have ABL := Aside0.mk hBl
  clear hB hBl hmk HB HR
  have hCB : U8.C W2 (some ⟨w.heap.size, 0, none⟩) (m * 64) B := by have := AS2.out.rowC.2.2; rwa [ABL.out] at this
  refine (of_ok (n := m) (l := B) hCB (Nat.le_refl _) (by omega) m1 (by omega)).mono ?_
  rintro e w3 ⟨g, rfl, hS3⟩
  have hS := AS2.out.lift1 hS3
  clear hs2 hCB hS3
  go_wp2_with fail
  refine (image_ hS).mono ?_
  rintro e w4 ⟨v4, rfl, hS4⟩
  obtain ⟨A4, c4, rfl⟩ := hS4.rowN ABL.out
  have hs4 := str_ hS4
  have A4' := Aside0.mk hS4.tail
  clear hS4 hS
  go_wp2_with fail
  refine (waits_ A4'.out).mono ?_
  rintro e w5 ⟨v5, rfl, hS5⟩
  have hk : keysI B (fun _ => none) = [] := by unfold keysI; rw [keys_none]; rfl
  rw [hk] at hS5
  obtain ⟨A5, c5, rfl⟩ := hS5.rowN (n := 0) rfl
  have A5' := Aside0.mk hS5.tail.at2
  clear hs4 hS5 hk
  go_wp2_with fail
  go_loopg [39] (m * 64) (fun k p wr => ∃ j : Nat, p = .int .i64 (j : Int) ∧ j + k = m * 64 ∧ ∃ ys : List Int, Sep w wr (Row U8 5 (.slice (some ⟨w.heap.size, 0, none⟩) (m * 64) (m * 64)) ys :: [Dsk g B (fun _ => none)]))
  case atStart => exact ⟨0, rfl, by omega, B, A5'.out⟩
  case round =>
    obtain ⟨j, rfl, hjk, ys, hS⟩ := hrel
    by_cases hj : j < m * 64
    · obtain ⟨f1, f2⟩ := hS.rowCell (0 : Int) j hj
      have AS := Aside0.mk hS
      have AK := Aside0.mk hjk
      clear hS hjk
      go_wp2
      go_roundg (gk - 1)
      case measure => have := AK.out; omega
      case rel => exact ⟨j + 1, by go_num, by have := AK.out; omega, _, AS.out.putRow j _⟩
    · have AS := Aside0.mk hS
      clear hS hjk
      go_wp2_with fail
      refine (image_ AS.out.at2).mono ?_
      rintro e w6 ⟨v6, rfl, hS6⟩
      obtain ⟨g6, c6, rfl⟩ := hS6.rowFormN ABL.out (by omega)
      have A6 := Aside0.mk hS6
      clear hS6 AS
      go_wp2_with fail
      go_loopg [53] (m * 64) (fun k p wr => ∃ j : Nat, p = .int .i64 (j : Int) ∧ j + k = m * 64 ∧ ∃ zs : List Int, Sep w wr (Row U8 5 (.slice (some ⟨g6, 0, none⟩) (m * 64) c6) zs :: Dsk g B (fun _ => none) :: [Row U8 5 (.slice (some ⟨w.heap.size, 0, none⟩) (m * 64) (m * 64)) ys]))
      case atStart => exact ⟨0, rfl, by omega, B, A6.out⟩
      case round =>
        obtain ⟨i, rfl, hik, zs, hS⟩ := hrel
        by_cases hi : i < m * 64
        · obtain ⟨f1, f2⟩ := hS.rowCell (0 : Int) i hi
          have AS := Aside0.mk hS
          have AK := Aside0.mk hik
          clear hS hik
          go_wp2
          go_roundg (gk - 1)
          case measure => have := AK.out; omega
          case rel => exact ⟨i + 1, by go_num, by have := AK.out; omega, _, AS.out.putRow i _⟩
        · have AS := Aside0.mk hS.tail
          clear hS hik
          go_wp2_with fail
          refine (image_ AS.out).mono ?_
          rintro e w7 ⟨v7, rfl, hS7⟩
          obtain ⟨A7, c7, rfl⟩ := hS7.rowN ABL.out
          have hs7 := str_ hS7
          have A7' := Aside0.mk hS7.tail
          clear hS7 AS
          go_wp2_with fail
          refine (seen_ A7'.out).mono ?_
          rintro e w8 ⟨v8, rfl, hS8⟩
          rw [flushed_none (n := m) (by rw [ABL.out]; omega)] at hS8
          obtain ⟨A8, c8, rfl⟩ := hS8.rowN ABL.out
          have hs8 := str_ hS8
          have A8' := Aside0.mk hS8.tail
          clear hS8 hs7
          go_wp2_with fail
          refine (len_ A8'.out).mono ?_
          rintro e w9 ⟨rfl, rfl⟩
          rw [show ((B.length : Int) / 64) = (m : Int) by rw [ABL.out]; omega]
          clear hs8
          go_wp2_with fail
          refine (known_ _).mono ?_
          rintro e w10 ⟨rfl, hb10⟩
          have A10 := Aside0.mk (A8'.out.below hb10).toBelow
          clear hb10
          go_wp2_with fail
          go_ret
          exact ⟨by first | rfl | (simp; done), A10.out⟩
end Go.Proofs.Ytjngnigelkgekaa.Disk

/- DiskKeeps: plain lists, and cuts. -/
namespace Go.Proofs.Ytjngnigelkgekaa.Disk
set_option linter.unusedVariables false
set_option linter.unusedSimpArgs false
open Go.RowKit Go.Proofs.YtjngnigelkgekaaW.PrintWords Go.Proofs.YtjngnigelkgekaaW.PrintLast Go.Proofs.YtjngnigelkgekaaW.PrintMore Go.Proofs.Ytjngnigelkgekaa.Kit
theorem str_app (a b : List Int) : strOfNums a ++ strOfNums b = strOfNums (a ++ b) := by
  apply ByteArray.ext
  simp [strOfNums, ByteArray.data_append]
def wtA (X : List Int) : Wt := fun j => if j = 1 then some X else if j = 0 then some X else none
def wtB (k : Nat) (Y : List Int) : Wt := fun j => if j = k then some Y else none
def was (X : List Int) (j : Nat) : List Int := if j < 2 then X else List.replicate 64 0
theorem sec_zero {n i : Nat} (h : i < n) : sec (List.replicate (n * 64) 0) i = List.replicate 64 0 := by
  unfold sec
  rw [List.drop_replicate, List.take_replicate, Nat.min_eq_left (by omega)]
theorem was_len {X : List Int} (hX : X.length = 64) (j : Nat) : (was X j).length = 64 := by unfold was; split <;> simp [hX]
theorem lasA {X : List Int} (hX : X.length = 64) : flushed (List.replicate (4 * 64) 0) (wtA X) = secs 4 (was X) := by
  unfold flushed
  rw [List.length_replicate]
  refine secs_congr fun i hi => ?_
  have hi : i < 4 := by omega
  unfold wtA was
  by_cases h1 : i = 1
  · simp only [if_pos h1, Option.getD_some, if_pos (show i < 2 by omega)]
  · by_cases h0 : i = 0
    · simp only [if_neg h1, if_pos h0, Option.getD_some, if_pos (show i < 2 by omega)]
    · simp only [if_neg h1, if_neg h0, Option.getD_none, if_neg (show ¬ i < 2 by omega)]
      exact sec_zero hi
theorem lasB {X Y : List Int} {k : Nat} {cuts : List Int} (hX : X.length = 64) (hY : Y.length = 64) (hk : k < 4) {j : Nat} (hj : j < 4) :
    sec (crashed (secs 4 (was X)) (wtB k Y) cuts) j = if j = k then Y.take (cutN cuts 0) ++ (was X j).drop (cutN cuts 0) else was X j := by
  have hl : (secs 4 (was X)).length = 64 * 4 := secs_len (fun i _ => was_len hX i)
  have hw : ∀ i b, wtB k Y i = some b → b.length = 64 := fun i b h => by
    unfold wtB at h; split at h
    · injection h with h; rw [← h]; exact hY
    · cases h
  unfold crashed
  rw [show (secs 4 (was X)).length / 64 = 4 by omega, sec_secs (cutS_len hl hw) hj]
  have hs : sec (secs 4 (was X)) j = was X j := sec_secs (fun i _ => was_len hX i) hj
  have hr : rank (wtB k Y) k = 0 := by
    unfold rank keysOf
    rw [List.length_eq_zero_iff, List.filter_eq_nil_iff]
    intro i hi
    have := List.mem_range.1 hi
    simp [wtB]; omega
  unfold cutS
  by_cases h : j = k
  · subst h
    have : wtB j Y j = some Y := by simp [wtB]
    rw [this, if_pos rfl, hs, hr]
  · have : wtB k Y j = none := by simp [wtB, h]
    rw [this, if_neg h, hs]
theorem lasB_len {X Y : List Int} {k : Nat} {cuts : List Int} (hX : X.length = 64) (hY : Y.length = 64) : (crashed (secs 4 (was X)) (wtB k Y) cuts).length = 256 := by
  have hl : (secs 4 (was X)).length = 64 * 4 := secs_len (fun i _ => was_len hX i)
  have hw : ∀ i b, wtB k Y i = some b → b.length = 64 := fun i b h => by
    unfold wtB at h; split at h
    · injection h with h; rw [← h]; exact hY
    · cases h
  unfold crashed
  rw [show (secs 4 (was X)).length / 64 = 4 by omega, secs_len (cutS_len hl hw)]
/-- A cut 'x[:m]' of 64 bytes. -/
theorem cutTo_ {A : Option Addr} {c m : Nat} (hm : m ≤ 64) (hc : 64 ≤ c) : ∀ W : World, (Instr.slice 30 (.slice A 64 c) none (some (.int .i64 (m : Int))) none).run Try.prog W = .ok (.slice A m c) W := by
  obtain ⟨i, hi, hsz⟩ := Option.map_eq_some_iff.1 infoB
  have := cut_to (P := Try.prog) 30 5 .i64 Try.underlying30 hi A 64 c (m : Int) (by omega) (by omega) hc
  rw [Int.toNat_natCast] at this
  exact this
/-- A cut 'x[m:]' of 64 bytes. -/
theorem cutFrom_ {A : Option Addr} {c m : Nat} {l : List Int} (hm : m ≤ 64) (hc : 64 ≤ c) (hl : l.length = 64) : ∃ A', (∀ W : World, (Instr.slice 30 (.slice A 64 c) (some (.int .i64 (m : Int))) none none).run Try.prog W = .ok (.slice A' (64 - m) (c - m)) W) ∧
    ∀ W : World, U8.C W A 64 l → U8.C W A' (64 - m) (l.drop m) := by
  obtain ⟨i, hi, hz⟩ := Option.map_eq_some_iff.1 infoB
  simp only [Prod.mk.injEq] at hz
  obtain ⟨A', h1, h2, _⟩ := print_drop_of (P := Try.prog) (Value.int .u8) (0 : Int) 30 5 .i64 Try.underlying30 hi hz.2.1 A c l (m : Int) (by omega) (by omega) (by omega)
  rw [Int.toNat_natCast, List.length_drop, hl] at h1
  rw [Int.toNat_natCast, List.length_drop, hl] at h2
  exact ⟨A', h1, fun W h => Kd.C_of_reads (d := (0 : Int)) (h1 := fun _ => rfl) (h2 W (Kd.reads_of_C (d := (0 : Int)) h))⟩
theorem strC {W : World} {A : Option Addr} {n c : Nat} {xs : List Int} (h : U8.C W A n xs) : (convert 30 9 (.slice A n c)).run Try.prog W = .ok (.string (strOfNums xs)) W := by
  obtain rfl : xs.length = n := h.1
  exact Kd.C_string (P := Try.prog) (c := c) Try.underlying30 Try.underlying5 Try.underlying9 h
theorem keysI_none (l : List Int) : keysI l (fun _ => none) = [] := by unfold keysI; rw [keys_none]; rfl
end Go.Proofs.Ytjngnigelkgekaa.Disk
