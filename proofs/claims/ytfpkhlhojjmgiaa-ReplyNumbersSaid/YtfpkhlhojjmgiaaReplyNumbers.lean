/- ReplyNumbers: the walk. -/
import Derived.Test.YtfpkhlhojjmgiaaReplyLall
import Derived.Test.YtfpkhlhojjmgiaaReplyAll
namespace Go.Proofs.Ytfpkhlhojjmgiaa.Reply
set_option linter.unusedVariables false
set_option linter.unusedSimpArgs false
open Go.RowKit Go.Proofs.YtfpkhlhojjmgiaaW.PrintWords Go.Proofs.YtfpkhlhojjmgiaaW.PrintLast Go.Proofs.YtfpkhlhojjmgiaaW.PrintMore Go.Proofs.Ytfpkhlhojjmgiaa.Kit
abbrev KStr : Kd ByteArray := Kd.scalar Value.string (fun _ => rfl)
def texts : List ByteArray := [⟨#[]⟩, ⟨#[97]⟩, ⟨#[195, 169, 228, 184, 150]⟩, ⟨#[97, 255, 98]⟩, ⟨#[228, 184]⟩, ⟨#[240, 159, 152, 128]⟩]
def ends : List Int := [0, -1, 9223372036854775807, -9223372036854775808]
def ups (i : Nat) : List Int := (List.range i).map (fun j : Nat => (j : Int) + 1)
theorem ups_snoc (i : Nat) : ups (i + 1) = ups i ++ [(i : Int) + 1] := by unfold ups; rw [List.range_succ, List.map_append]; rfl
theorem ups_len (i : Nat) : (ups i).length = i := by simp [ups]
theorem ofs_ups (l : List Int) : OfsAll (l.map vInt) (l.map some) := by
  induction l with
  | nil => exact .nil
  | cons x r ih => exact .cons (of_int x) ih
def ansL : List (Int × Bool) := (((ups 69).map some).take 64).map (fun r => (r.getD 0, r.isSome))
theorem ansL_head {i : Nat} (hi : i < 73) : headF (ansL.drop i) = if i < 64 then ((i : Int) + 1, true) else (0, true) := by
  revert i
  decide +kernel
def askL (i : Nat) : List (Int × Int) := (List.range i).map (fun j : Nat => (97 + ((j % 20 : Nat) : Int), (j : Int)))
theorem askL_snoc (i : Nat) : askL (i + 1) = askL i ++ [(97 + ((i % 20 : Nat) : Int), (i : Int))] := by unfold askL; rw [List.range_succ, List.map_append]; rfl
theorem askL_len (i : Nat) : (askL i).length = i := by simp [askL]
theorem wrap32_in (x : Int) : -2147483648 ≤ wrap32 x ∧ wrap32 x ≤ 2147483647 := by unfold wrap32; omega
set_option maxHeartbeats 400000 in
set_option maxRecDepth 100000 in
theorem replyNumbers_ (w : World) : Calls Try.prog 5 #[] w fun e w' => e = .returned (.bool true) ∧ Below w.heap.size w w' := by
  have A0 : Aside0 (Sep w _ [Row KStr 9 (.slice (some ⟨w.heap.size, 0, none⟩) 6 6) texts]) := ⟨(Sep.start w).litRow (enc := Value.string) (h1 := fun _ => rfl) (e := 9) texts (by simp [texts])⟩
  go_enter Try.func5, Try.ntmps5
  go_wp2_with fail
  go_loopg [16] 6 (fun m v wr => ∃ i : Nat, v = .int .i64 (i : Int) ∧ i + m = 6 ∧ Sep w wr [Row KStr 9 (.slice (some ⟨w.heap.size, 0, none⟩) 6 6) texts])
  case atStart => exact ⟨0, rfl, rfl, A0.out⟩
  case round =>
    obtain ⟨i, rfl, him, hS⟩ := hrel
    obtain ⟨G, rfl⟩ : ∃ G, G = gk := ⟨_, rfl⟩
    have AK := Aside0.mk him
    have AS := Aside0.mk hS
    by_cases hi : i < 6
    · have hil : (i : Int) < 6 := by omega
      have f1 := (hS.rowCell (enc := Value.string) ⟨#[]⟩ i hi).1
      generalize texts.getD i ⟨#[]⟩ = s at f1
      have B1 : Aside0 (Sep w _ [Row L64 2 (.slice (some ⟨wr.heap.size, 0, none⟩) 4 4) ends, Row KStr 9 (.slice (some ⟨w.heap.size, 0, none⟩) 6 6) texts]) := ⟨hS.litRow (enc := Value.int .i64) (h1 := fun _ => rfl) (e := 2) ends (by simp [ends])⟩
      clear hS him
      go_wp2_with fail
      clear f1
      go_loopg [22] 4 (fun m v wq => ∃ j : Nat, v = .int .i64 (j : Int) ∧ j + m = 4 ∧ Sep w wq [Row L64 2 (.slice (some ⟨wr.heap.size, 0, none⟩) 4 4) ends, Row KStr 9 (.slice (some ⟨w.heap.size, 0, none⟩) 6 6) texts])
      case atStart => exact ⟨0, rfl, rfl, B1.out⟩
      case round =>
        obtain ⟨j, rfl, hjm, hS⟩ := hrel
        have AK2 := Aside0.mk hjm
        have AS2 := Aside0.mk hS
        by_cases hj : j < 4
        · have hjl : (j : Int) < 4 := by omega
          have f1 := (hS.rowCell (enc := Value.int .i64) (0 : Int) j hj).1
          generalize ends.getD j 0 = x at f1
          clear hS hjm
          go_wp2_with fail
          refine (lall_ (wrap32_in x)).mono ?_
          rintro e w3 ⟨rfl, hb3⟩
          have B3 := Aside0.mk ((AS2.out.below hb3).alloc (.cells #[.iface 3 (.int .i64 1), .iface 9 (.string ⟨#[97]⟩)] 20))
          clear hb3 f1
          go_wp2_with fail
          refine (lall_ (r := 120) (by decide)).mono ?_
          rintro e w4 ⟨rfl, hb4⟩
          have B4 := Aside0.mk (B3.out.below hb4)
          clear hb4
          go_wp2_with fail
          go_roundg (gk - 1)
          case measure => have := AK2.out; omega
          case rel => exact ⟨j + 1, by go_num, by have := AK2.out; omega, B4.out⟩
        · have hjl : ¬ (j : Int) < 4 := by omega
          clear hS hjm
          go_wp2_with fail
          go_roundg (G - 1)
          case measure => have := AK.out; omega
          case rel => exact ⟨i + 1, by go_num, by have := AK.out; omega, AS2.out.tail⟩
    · have hil : ¬ (i : Int) < 6 := by omega
      have A1 := Aside0.mk (hS.tail.nilRow KV 20)
      clear hS him
      go_wp2_with fail
      go_loopg [5, 6] 69 (fun m v p wq => ∃ j : Nat, p = .int .i64 (j : Int) ∧ j + m = 69 ∧ Sep w wq [Row KV 20 v ((ups j).map vInt)])
      case atStart => exact ⟨0, rfl, rfl, A1.out⟩
      case round =>
        obtain ⟨j, rfl, hjm, hS⟩ := hrel
        have AK2 := Aside0.mk hjm
        obtain ⟨A3, c3, rfl⟩ := hS.rowN (n := j) (by rw [List.length_map, ups_len])
        by_cases hj : j < 69
        · have hjl : (j : Int) < 69 := by omega
          have hw : wrap64 ((j : Int) + 1) = (j : Int) + 1 := IntWalk.wrap64_in _ (by omega)
          have L1 := Aside0.mk (hS.litRow (enc := fun x : OV => x.1) (h1 := fun x => x.2) (e := 20) [vInt ((j : Int) + 1)] (by simp)).at2
          clear hS hjm
          go_wp2_with (first | (refine gate_builtin (b := .append) (xs := #[.tmp 49, .tmp 53]) rfl ?_; go_loud (refine L1.out.appendRow rfl (.tmp 49) (.tmp 53) 46 .nilIface 16 rfl Try.underlying46 infoA rfl (by decide) (some ⟨wr.heap.size, 0, none⟩) 1 1 rfl rfl L1.out.at2.rowC' (by rw [List.length_map, ups_len]; simp; omega) ?_; intro v4 w4 hS4; have A4 := Aside0.mk hS4.drop2; clear hS4)))
          go_roundg (gk - 1)
          case measure => have := AK2.out; omega
          case rel => exact ⟨j + 1, by go_num, by have := AK2.out; omega, by rw [ups_snoc, List.map_append]; exact A4.out⟩
        · obtain rfl : j = 69 := by omega
          have A2 := Aside0.mk hS
          clear hS hjm
          go_wp2_with fail
          refine (new_ A2.out.rowC' A2.out.rowC.2.1 (ofs_ups (ups 69)) (by decide)).mono ?_
          rintro e w5 ⟨g, rfl, hS5⟩
          have B5 : Aside0 (Sep w w5 [RowR g (ansL.drop 0) (askL 0)]) := ⟨Sep.weakR (L := [_]) (A2.out.lift1 hS5)⟩
          clear hS5
          go_wp2_with fail
          go_loopg [8] 73 (fun m p wq => ∃ i : Nat, p = .int .i64 (i : Int) ∧ i + m = 73 ∧ Sep w wq [RowR g (ansL.drop i) (askL i)])
          case atStart => exact ⟨0, rfl, rfl, B5.out⟩
          case round =>
            obtain ⟨i, rfl, him2, hS⟩ := hrel
            have AK2 := Aside0.mk him2
            have AS := Aside0.mk hS
            clear hS
            by_cases hi2 : i < 73
            · have hil2 : (i : Int) < 73 := by omega
              have hild : decide ((i : Int) < 73) = true := decide_eq_true hil2
              obtain ⟨J, hJ⟩ : ∃ J, i % 20 = J := ⟨_, rfl⟩
              have hJ20 : J < 20 := by omega
              have hm1 : (i : Int) % 20 = (J : Int) := by omega
              have hm2 : (i : Int).tmod 20 = (J : Int) := by rw [Int.tmod_eq_emod_of_nonneg (by omega)]; omega
              have hwn : IntKind.i32.wrap (97 + (J : Int)) = 97 + (J : Int) := by rw [IntKind.wrap_i32]; omega
              have hwn2 : wrap64 (97 + (J : Int)) = 97 + (J : Int) := IntWalk.wrap64_in _ (by omega)
              have hwi : wrap64 ((i : Int) + 1) = (i : Int) + 1 := IntWalk.wrap64_in _ (by omega)
              have HJ := Aside0.mk hJ
              have HH := Aside0.mk (ansL_head hi2)
              clear him2 hJ
              go_wp2_with fail
              refine (ask_ AS.out (97 + (J : Int)) (i : Int) (by rw [askL_len]; omega)).mono ?_
              rintro e w6 ⟨rfl, hS6⟩
              have B6 : Aside0 (Sep w w6 [RowR g (ansL.drop (i + 1)) (askL (i + 1))]) := ⟨by
                rw [askL_snoc, HJ.out, ← List.tail_drop]
                exact hS6⟩
              clear hS6 hm1 hm2 hwn hwn2
              rw [HH.out]
              by_cases h64 : i < 64
              · have h64' : ¬ 64 ≤ (i : Int) := by omega
                rw [if_pos h64]
                go_wp2_with fail
                refine (asks_ B6.out (by rw [askL_len]; omega)).mono ?_
                rintro e w7 ⟨v7, rfl, hS7⟩
                obtain ⟨A7, c7, rfl⟩ := hS7.rowFN (n := i + 1) (askL_len _)
                have B7 := Aside0.mk hS7.tail
                clear hS7
                go_wp2_with fail
                go_roundg (gk - 1)
                case measure => have := AK2.out; omega
                case rel => exact ⟨i + 1, by go_num, by have := AK2.out; omega, B7.out⟩
              · have h64' : 64 ≤ (i : Int) := by omega
                rw [if_neg h64]
                go_wp2_with fail
                refine (asks_ B6.out (by rw [askL_len]; omega)).mono ?_
                rintro e w7 ⟨v7, rfl, hS7⟩
                obtain ⟨A7, c7, rfl⟩ := hS7.rowFN (n := i + 1) (askL_len _)
                have B7 := Aside0.mk hS7.tail
                clear hS7
                go_wp2_with fail
                go_roundg (gk - 1)
                case measure => have := AK2.out; omega
                case rel => exact ⟨i + 1, by go_num, by have := AK2.out; omega, B7.out⟩
            · have hil2 : ¬ (i : Int) < 73 := by omega
              clear him2
              go_wp2_with fail
              refine (all_ (A := none) (n := 0) (c := 0) (cs := []) (rs := []) (Kd.C_nil _ _) .nil (by decide)).mono ?_
              rintro e w7 ⟨v7, rfl, hS7⟩
              rw [show allF [] = some [] from rfl] at hS7 ⊢
              obtain ⟨A7, c7, rfl⟩ := hS7.rowN (n := 0) rfl
              have B7 := Aside0.mk (AS.out.lift1 hS7)
              clear hS7
              rw [show (some ([] : List Int)).isSome = true from rfl]
              go_wp2_with fail
              refine (known_ _).mono ?_
              rintro e w8 ⟨rfl, hb8⟩
              go_wp2_with fail
              go_ret
              exact ⟨by first | rfl | (simp; done), (B7.out.below hb8).toBelow⟩
end Go.Proofs.Ytfpkhlhojjmgiaa.Reply
