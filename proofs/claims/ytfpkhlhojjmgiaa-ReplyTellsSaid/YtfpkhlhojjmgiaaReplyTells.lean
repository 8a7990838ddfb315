/- ReplyTells: the walk. -/
import Derived.Test.YtfpkhlhojjmgiaaReplyLall
import Derived.Test.YtfpkhlhojjmgiaaBook
import Derived.Test.YtfpkhlhojjmgiaaBits
import Derived.Deep.Cut
import Derived.Deep.CutRange
namespace Go.Proofs.Ytfpkhlhojjmgiaa.Reply
set_option linter.unusedVariables false
set_option linter.unusedSimpArgs false
open Go.RowKit Go.Proofs.YtfpkhlhojjmgiaaW.PrintWords Go.Proofs.YtfpkhlhojjmgiaaW.PrintLast Go.Proofs.YtfpkhlhojjmgiaaW.PrintMore Go.Proofs.Ytfpkhlhojjmgiaa.Kit
theorem infoAny : (Try.prog.info? 20).map (fun i => (i.zero, i.size, i.bytes)) = some (some .nilIface, 1, 16) := by kernel_rfl
set_option maxHeartbeats 3200000 in
set_option maxRecDepth 100000 in
theorem replyTells_ {n r k : Int} {s0 : ByteArray} {b : Bool} {w : World} (hr : -2147483648 ≤ r ∧ r ≤ 2147483647) :
    Calls Try.prog 6 #[.int .i64 n, .int .i32 r, .string s0, .bool b, .int .i64 k] w fun e w' => e = .returned (.bool true) ∧ Below w.heap.size w w' := by
  have HR := Aside0.mk hr
  have hin := Book.withinF_in (n := k) (lo := 0) (hi := 9) (by decide)
  obtain ⟨K, hK⟩ := Int.eq_ofNat_of_zero_le hin.1
  have hK9 : K ≤ 9 := by omega
  have HK := Aside0.mk hK
  clear hr hin hK
  go_enter Try.func6, Try.ntmps6
  go_upto_if 15 with fail
  go_cut [2] from 13 to 47 (fun v wx => wx = w ∧ ∃ s : ByteArray, v = .string s)
  case first =>
    by_cases h : 100 < s0.size
    · have h1 : 100 < (s0.size : Int) := by omega
      go_wp2_with fail
      go_meet
      case rel => exact ⟨rfl, _, rfl⟩
    · have h1 : ¬ 100 < (s0.size : Int) := by omega
      go_wp2_with fail
      go_meet
      case rel => exact ⟨rfl, _, rfl⟩
  case rest =>
    obtain ⟨rfl, s, rfl⟩ := hcut
    have A0 := Aside0.mk ((Sep.start wc).nilRow KV 20)
    go_wp2_with fail
    go_loopg [11, 12] K (fun m v p wr => ∃ (i : Nat) (cs : List OV), p = .int .i64 (i : Int) ∧ i + m = K ∧ cs.length = i ∧ Sep wc wr [Row KV 20 v cs])
    case atStart => exact ⟨0, [], rfl, by omega, rfl, A0.out⟩
    case round =>
      obtain ⟨i, cs, rfl, him, hcl, hS⟩ := hrel
      obtain ⟨A3, c3, rfl⟩ := hS.rowN hcl
      have AK := Aside0.mk him
      have AS := Aside0.mk hS
      have HCL := Aside0.mk hcl
      clear hS hcl
      by_cases hi : i < K
      · have hil : (i : Int) < (K : Int) := by omega
        rcases (show i % 4 = 0 ∨ i % 4 = 1 ∨ i % 4 = 2 ∨ i % 4 = 3 by omega) with hJ | hJ | hJ | hJ
        · have hm1 : (i : Int) % 4 = 0 := by omega
          have hm2 : (i : Int).tmod 4 = 0 := by rw [Int.tmod_eq_emod_of_nonneg (by omega)]; omega
          have L1 := AS.out.litRow (enc := fun x : OV => x.1) (h1 := fun x => x.2) (e := 20) [vInt64 n, vStr s, vNil, ⟨.iface 56 (.agg #[.int .i64 (i : Int)]), rfl⟩] (by simp)
          have f1 : (wr.alloc (.cells #[.iface 2 (.int .i64 n), .iface 9 (.string s), .nilIface, .iface 56 (.agg #[.int .i64 (i : Int)])] 20)).cell? ⟨wr.heap.size, 0, none⟩ = some (.iface 2 (.int .i64 n)) := (L1.rowCell (enc := fun x : OV => x.1) vNil 0 (by simp)).1
          have h2 := (L1.litRow (enc := fun x : OV => x.1) (h1 := fun x => x.2) (e := 20) [vInt64 n] (by simp)).at3
          rw [show ∀ o : Obj, (wr.alloc o).heap.size = wr.heap.size + 1 from fun o => by simp] at h2
          have L2 : Aside0 (Sep wc ((wr.alloc (.cells #[.iface 2 (.int .i64 n), .iface 9 (.string s), .nilIface, .iface 56 (.agg #[.int .i64 (i : Int)])] 20)).alloc (.cells #[.iface 2 (.int .i64 n)] 20)) (Row KV 20 (.slice A3 i c3) cs :: _)) := ⟨h2⟩
          clear h2
          clear him L1 hJ
          go_wp2_with fail
          refine (Book.within_ k 0 9 _ (by decide) (by decide) (by decide)).mono ?_
          rintro e w1 ⟨rfl, rfl⟩
          rw [HK.out]
          go_wp2_with (first | (refine gate_builtin (b := .append) (xs := #[.tmp 24, .tmp 37]) rfl ?_; go_loud (refine L2.out.appendRow rfl (.tmp 24) (.tmp 37) 46 .nilIface 16 rfl Try.underlying46 infoAny rfl (by decide) (some ⟨wr.heap.size + 1, 0, none⟩) 1 1 rfl rfl L2.out.at2.rowC' (by have := HCL.out; simp; omega) ?_; intro v4 w4 hS4; have A4 := Aside0.mk (Sep.weakR (L := [_]) hS4); clear hS4)))
          go_roundg (gk - 1)
          case measure => have := AK.out; omega
          case rel => exact ⟨i + 1, _, by go_num, by have := AK.out; omega, by rw [List.length_append, HCL.out]; rfl, A4.out⟩
        · have hm1 : (i : Int) % 4 = 1 := by omega
          have hm2 : (i : Int).tmod 4 = 1 := by rw [Int.tmod_eq_emod_of_nonneg (by omega)]; omega
          have L1 := AS.out.litRow (enc := fun x : OV => x.1) (h1 := fun x => x.2) (e := 20) [vInt64 n, vStr s, vNil, ⟨.iface 56 (.agg #[.int .i64 (i : Int)]), rfl⟩] (by simp)
          have f1 : (wr.alloc (.cells #[.iface 2 (.int .i64 n), .iface 9 (.string s), .nilIface, .iface 56 (.agg #[.int .i64 (i : Int)])] 20)).cell? ⟨wr.heap.size, 1, none⟩ = some (.iface 9 (.string s)) := (L1.rowCell (enc := fun x : OV => x.1) vNil 1 (by simp)).1
          have h2 := (L1.litRow (enc := fun x : OV => x.1) (h1 := fun x => x.2) (e := 20) [vStr s] (by simp)).at3
          rw [show ∀ o : Obj, (wr.alloc o).heap.size = wr.heap.size + 1 from fun o => by simp] at h2
          have L2 : Aside0 (Sep wc ((wr.alloc (.cells #[.iface 2 (.int .i64 n), .iface 9 (.string s), .nilIface, .iface 56 (.agg #[.int .i64 (i : Int)])] 20)).alloc (.cells #[.iface 9 (.string s)] 20)) (Row KV 20 (.slice A3 i c3) cs :: _)) := ⟨h2⟩
          clear h2
          clear him L1 hJ
          go_wp2_with fail
          refine (Book.within_ k 0 9 _ (by decide) (by decide) (by decide)).mono ?_
          rintro e w1 ⟨rfl, rfl⟩
          rw [HK.out]
          go_wp2_with (first | (refine gate_builtin (b := .append) (xs := #[.tmp 24, .tmp 37]) rfl ?_; go_loud (refine L2.out.appendRow rfl (.tmp 24) (.tmp 37) 46 .nilIface 16 rfl Try.underlying46 infoAny rfl (by decide) (some ⟨wr.heap.size + 1, 0, none⟩) 1 1 rfl rfl L2.out.at2.rowC' (by have := HCL.out; simp; omega) ?_; intro v4 w4 hS4; have A4 := Aside0.mk (Sep.weakR (L := [_]) hS4); clear hS4)))
          go_roundg (gk - 1)
          case measure => have := AK.out; omega
          case rel => exact ⟨i + 1, _, by go_num, by have := AK.out; omega, by rw [List.length_append, HCL.out]; rfl, A4.out⟩
        · have hm1 : (i : Int) % 4 = 2 := by omega
          have hm2 : (i : Int).tmod 4 = 2 := by rw [Int.tmod_eq_emod_of_nonneg (by omega)]; omega
          have L1 := AS.out.litRow (enc := fun x : OV => x.1) (h1 := fun x => x.2) (e := 20) [vInt64 n, vStr s, vNil, ⟨.iface 56 (.agg #[.int .i64 (i : Int)]), rfl⟩] (by simp)
          have f1 : (wr.alloc (.cells #[.iface 2 (.int .i64 n), .iface 9 (.string s), .nilIface, .iface 56 (.agg #[.int .i64 (i : Int)])] 20)).cell? ⟨wr.heap.size, 2, none⟩ = some (.nilIface) := (L1.rowCell (enc := fun x : OV => x.1) vNil 2 (by simp)).1
          have h2 := (L1.litRow (enc := fun x : OV => x.1) (h1 := fun x => x.2) (e := 20) [vNil] (by simp)).at3
          rw [show ∀ o : Obj, (wr.alloc o).heap.size = wr.heap.size + 1 from fun o => by simp] at h2
          have L2 : Aside0 (Sep wc ((wr.alloc (.cells #[.iface 2 (.int .i64 n), .iface 9 (.string s), .nilIface, .iface 56 (.agg #[.int .i64 (i : Int)])] 20)).alloc (.cells #[.nilIface] 20)) (Row KV 20 (.slice A3 i c3) cs :: _)) := ⟨h2⟩
          clear h2
          clear him L1 hJ
          go_wp2_with fail
          refine (Book.within_ k 0 9 _ (by decide) (by decide) (by decide)).mono ?_
          rintro e w1 ⟨rfl, rfl⟩
          rw [HK.out]
          go_wp2_with (first | (refine gate_builtin (b := .append) (xs := #[.tmp 24, .tmp 37]) rfl ?_; go_loud (refine L2.out.appendRow rfl (.tmp 24) (.tmp 37) 46 .nilIface 16 rfl Try.underlying46 infoAny rfl (by decide) (some ⟨wr.heap.size + 1, 0, none⟩) 1 1 rfl rfl L2.out.at2.rowC' (by have := HCL.out; simp; omega) ?_; intro v4 w4 hS4; have A4 := Aside0.mk (Sep.weakR (L := [_]) hS4); clear hS4)))
          go_roundg (gk - 1)
          case measure => have := AK.out; omega
          case rel => exact ⟨i + 1, _, by go_num, by have := AK.out; omega, by rw [List.length_append, HCL.out]; rfl, A4.out⟩
        · have hm1 : (i : Int) % 4 = 3 := by omega
          have hm2 : (i : Int).tmod 4 = 3 := by rw [Int.tmod_eq_emod_of_nonneg (by omega)]; omega
          have L1 := AS.out.litRow (enc := fun x : OV => x.1) (h1 := fun x => x.2) (e := 20) [vInt64 n, vStr s, vNil, ⟨.iface 56 (.agg #[.int .i64 (i : Int)]), rfl⟩] (by simp)
          have f1 : (wr.alloc (.cells #[.iface 2 (.int .i64 n), .iface 9 (.string s), .nilIface, .iface 56 (.agg #[.int .i64 (i : Int)])] 20)).cell? ⟨wr.heap.size, 3, none⟩ = some (.iface 56 (.agg #[.int .i64 (i : Int)])) := (L1.rowCell (enc := fun x : OV => x.1) vNil 3 (by simp)).1
          have h2 := (L1.litRow (enc := fun x : OV => x.1) (h1 := fun x => x.2) (e := 20) [⟨.iface 56 (.agg #[.int .i64 (i : Int)]), rfl⟩] (by simp)).at3
          rw [show ∀ o : Obj, (wr.alloc o).heap.size = wr.heap.size + 1 from fun o => by simp] at h2
          have L2 : Aside0 (Sep wc ((wr.alloc (.cells #[.iface 2 (.int .i64 n), .iface 9 (.string s), .nilIface, .iface 56 (.agg #[.int .i64 (i : Int)])] 20)).alloc (.cells #[.iface 56 (.agg #[.int .i64 (i : Int)])] 20)) (Row KV 20 (.slice A3 i c3) cs :: _)) := ⟨h2⟩
          clear h2
          clear him L1 hJ
          go_wp2_with fail
          refine (Book.within_ k 0 9 _ (by decide) (by decide) (by decide)).mono ?_
          rintro e w1 ⟨rfl, rfl⟩
          rw [HK.out]
          go_wp2_with (first | (refine gate_builtin (b := .append) (xs := #[.tmp 24, .tmp 37]) rfl ?_; go_loud (refine L2.out.appendRow rfl (.tmp 24) (.tmp 37) 46 .nilIface 16 rfl Try.underlying46 infoAny rfl (by decide) (some ⟨wr.heap.size + 1, 0, none⟩) 1 1 rfl rfl L2.out.at2.rowC' (by have := HCL.out; simp; omega) ?_; intro v4 w4 hS4; have A4 := Aside0.mk (Sep.weakR (L := [_]) hS4); clear hS4)))
          go_roundg (gk - 1)
          case measure => have := AK.out; omega
          case rel => exact ⟨i + 1, _, by go_num, by have := AK.out; omega, by rw [List.length_append, HCL.out]; rfl, A4.out⟩
      · have hil : ¬ (i : Int) < (K : Int) := by omega
        clear him AK
        go_wp2_with fail
        refine (Book.within_ k 0 9 _ (by decide) (by decide) (by decide)).mono ?_
        rintro e w1 ⟨rfl, rfl⟩
        rw [HK.out]
        go_wp2_with fail
        refine (lall_ HR.out).mono ?_
        rintro e w2 ⟨rfl, hb2⟩
        have A2 := Aside0.mk (AS.out.below hb2)
        clear hb2
        go_wp2_with fail
        refine (known_ _).mono ?_
        rintro e w3 ⟨rfl, hb3⟩
        go_wp2_with fail
        go_ret
        exact ⟨by first | rfl | (simp; done), (A2.out.below hb3).toBelow⟩
end Go.Proofs.Ytfpkhlhojjmgiaa.Reply
