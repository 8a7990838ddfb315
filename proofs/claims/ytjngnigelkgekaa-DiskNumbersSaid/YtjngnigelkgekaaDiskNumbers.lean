/- DiskNumbers: the law's walk. -/
import Derived.Test.YtjngnigelkgekaaDiskPlays
import Derived.Test.YtjngnigelkgekaaFx
namespace Go.Proofs.Ytjngnigelkgekaa.Ref
set_option linter.unusedVariables false
set_option linter.unusedSimpArgs false
open Go.RowKit Go.Proofs.YtjngnigelkgekaaW.PrintWords Go.Proofs.YtjngnigelkgekaaW.PrintLast Go.Proofs.YtjngnigelkgekaaW.PrintMore Go.Proofs.Ytjngnigelkgekaa.Kit Go.Proofs.Ytjngnigelkgekaa.Disk
def sizes : List Int := [-1, 0, 1, 2, 160, 161, 1099511627776]
set_option maxHeartbeats 3200000 in
set_option maxRecDepth 100000 in
theorem diskNumbers_ (w : World) :
    Calls Try.prog 9 #[] w fun e w' => e = .returned (.bool true) ∧ Below w.heap.size w w' := by
  have L0 := Aside0.mk ((Sep.start w).litRow (enc := Value.int .i64) (h1 := fun _ => rfl) (e := 3) sizes (by decide))
  go_enter Try.func9, Try.ntmps9
  go_wp2_with fail
  go_loopg [9] 7 (fun q p wr => ∃ j : Nat, p = .int .i64 (j : Int) ∧ j + q = 7 ∧ Sep w wr [Row I64 3 (.slice (some ⟨w.heap.size, 0, none⟩) 7 7) sizes])
  case atStart => exact ⟨0, rfl, rfl, L0.out⟩
  case round =>
    obtain ⟨j, rfl, hjk, hS⟩ := hrel
    have AS := Aside0.mk hS
    have AK := Aside0.mk hjk
    by_cases hj : j < 7
    · have f1 := (hS.rowCell (0 : Int) j hj).1
      generalize sizes.getD j 0 = v at *
      clear hS hjk
      by_cases hv : 1 ≤ v ∧ v ≤ 160
      · obtain ⟨m, rfl⟩ : ∃ m : Nat, v = (m : Int) := ⟨v.toNat, by omega⟩
        have hm1 : 1 ≤ m := by omega
        have hm2 : m ≤ 160 := by omega
        clear hv
        go_wp2_with fail
        refine (Disk.new_ok (n := m) hm1 hm2).mono ?_
        rintro e w2 ⟨g, rfl, hS2⟩
        have A2 := Aside0.mk (AS.out.lift1 hS2)
        clear hS2 f1
        go_wp2_with fail
        refine (dlen_ (n := m) A2.out (by rw [List.length_replicate]; omega)).mono ?_
        rintro e w3 ⟨rfl, rfl⟩
        go_wp2_with fail
        refine (Disk.waits_ A2.out).mono ?_
        rintro e w3 ⟨v3, rfl, hS3⟩
        rw [keysI_none] at hS3
        obtain ⟨A3, c3, rfl⟩ := hS3.rowN (n := 0) rfl
        have AS3 := Aside0.mk hS3.tail.tail
        clear hS3
        go_wp2_with fail
        go_roundg (gk - 1)
        case measure => have := AK.out; omega
        case rel => exact ⟨j + 1, by go_num, by have := AK.out; omega, AS3.out⟩
      · have hv2 : v < 1 ∨ 160 < v := by omega
        have AV := Aside0.mk hv2
        by_cases hv3 : v < 1
        · clear hv hv2
          go_wp2_with fail
          refine (Disk.new_none AV.out).mono ?_
          rintro e w2 ⟨rfl, rfl⟩
          go_wp2_with fail
          go_roundg (gk - 1)
          case measure => have := AK.out; omega
          case rel => exact ⟨j + 1, by go_num, by have := AK.out; omega, AS.out⟩
        · have hv4 : 160 < v := by omega
          clear hv hv2
          go_wp2_with fail
          refine (Disk.new_none AV.out).mono ?_
          rintro e w2 ⟨rfl, rfl⟩
          go_wp2_with fail
          go_roundg (gk - 1)
          case measure => have := AK.out; omega
          case rel => exact ⟨j + 1, by go_num, by have := AK.out; omega, AS.out⟩
    · have B0 : Aside0 (Sep w wr []) := ⟨hS.tail⟩
      obtain rfl : j = 7 := by omega
      clear hS hjk AS AK hj
      go_wp2_with fail
      go_loopg [4] 30 (fun q p wr => ∃ k : Nat, p = .int .i64 (k : Int) ∧ k + q = 30 ∧ Sep w wr [])
      case atStart => exact ⟨0, rfl, rfl, B0.out⟩
      case round =>
        obtain ⟨k, rfl, hkq, hS⟩ := hrel
        have AS := Aside0.mk hS
        have AQ := Aside0.mk hkq
        by_cases hk : k < 30
        · have R0 : Aside0 (Sep w wr [Row (Kd.raw 4) 74 (.slice none 0 0) [], Fx (fun W => ∀ c ∈ ([] : List (List Value)), AskC W c)]) := ⟨(hS.fxTrue.fxImp (fun _ _ c hc => by simp at hc)).nilRow (Kd.raw 4) _⟩
          have hk3 : (k : Int) < 30 := by omega
          clear hS hkq
          go_wp2_with fail
          go_loopg [6, 5] 50 (fun q p v wr => ∃ (i : Nat) (xs : List (List Value)), p = .int .i64 (i : Int) ∧ i + q = 50 ∧ xs.length = i ∧ Sep w wr [Row (Kd.raw 4) 74 v xs, Fx (fun W => ∀ c ∈ xs, AskC W c)])
          case atStart => exact ⟨0, [], rfl, rfl, rfl, R0.out⟩
          case round =>
            obtain ⟨i, xs, rfl, hiq, hxl, hS⟩ := hrel
            have AS := Aside0.mk hS
            have AI := Aside0.mk (And.intro hiq hxl)
            clear hS hiq
            by_cases hi : i < 50
            · clear hxl
              have e1 : ∀ (W : World) (o : Obj), (W.alloc o).heap.size = W.heap.size + 1 := fun W o => by simp
              have B1 := AS.out.litRow (enc := Value.int .u8) (h1 := fun _ => rfl) (e := 5) [(i : Int), (k : Int), 3] (by simp)
              have B2 := B1.litRow (enc := Value.int .i64) (h1 := fun _ => rfl) (e := 3) [(i : Int) % 70 - 3, 64, (k : Int), -1, 1099511627776] (by simp)
              rw [e1] at B2
              have B3 := (B2.fxRow.at2.fxRow.fxAnd.at3.fxAnd).fxImp (ψ := fun W => ∀ c ∈ xs ++ [[.int .i64 ((wrap64 (wrap64 ((i : Int) * (i : Int)) + (k : Int))).tmod 8), .int .i64 (((i : Int) * 7 + (k : Int)) % 6 - 1), .slice (some ⟨wr.heap.size, 0, none⟩) 3 3, .slice (some ⟨wr.heap.size + 1, 0, none⟩) (i % 6 % 5) 5]], AskC W c) (by
                rintro W ⟨h1, h2, h3⟩ c hc
                rcases List.mem_append.1 hc with h | h
                · exact h1 c h
                · obtain rfl := List.mem_singleton.1 h
                  exact ⟨_, _, _, 3, 3, _, _, i % 6 % 5, 5, _, rfl, by omega, by omega, h2, by
                    have := Kd.C_take h3 (show i % 6 % 5 ≤ 5 by omega)
                    rw [List.length_take, Nat.min_eq_left (by simp; omega)] at this
                    exact this⟩)
              have B4 := B3.newBlk 74 #[.int .i64 ((wrap64 (wrap64 ((i : Int) * (i : Int)) + (k : Int))).tmod 8), .int .i64 (((i : Int) * 7 + (k : Int)) % 6 - 1), .slice (some ⟨wr.heap.size, 0, none⟩) 3 3, .slice (some ⟨wr.heap.size + 1, 0, none⟩) (i % 6 % 5) 5]
              rw [e1, e1] at B4
              have HR := Aside0.mk (B4.blkRaw (c := [.int .i64 ((wrap64 (wrap64 ((i : Int) * (i : Int)) + (k : Int))).tmod 8), .int .i64 (((i : Int) * 7 + (k : Int)) % 6 - 1), .slice (some ⟨wr.heap.size, 0, none⟩) 3 3, .slice (some ⟨wr.heap.size + 1, 0, none⟩) (i % 6 % 5) 5]) (sz := 4) rfl (by intro u hu; simp at hu; rcases hu with rfl | rfl | rfl | rfl <;> rfl))
              have A4 := Aside0.mk B4.at3
              clear e1 B1 B2 B3 B4
              go_wp2_with (first | (refine gate_builtin (b := .append) (xs := #[.tmp 49, .tmp 77]) rfl ?_; go_loud (refine A4.out.appendRaw rfl (.tmp 49) (.tmp 77) 72 _ 64 rfl Try.underlying72 infoA rfl (by decide) (by decide) (some ⟨wr.heap.size + 1 + 1, 0, none⟩) 1 1 rfl rfl HR.out (by have := AI.out.2; simp; omega) ?_; intro v1 w4 hS4; have A5 := Aside0.mk hS4; clear hS4)))
              go_roundg (gk - 1)
              case measure => have := AI.out; omega
              case rel => exact ⟨i + 1, _, by go_num, by have := AI.out; omega, by rw [List.length_append, AI.out.2]; rfl, A5.out.drop2⟩
            · have hmk256 : ∀ W : World, (Instr.makeSlice 30 (.int .i64 256) (.int .i64 256)).run Try.prog W = .ok (.slice (some ⟨W.heap.size, 0, none⟩) 256 256) (W.alloc (.cells (madeCells #[.int .u8 0] 256) 5)) := make_ (m := 256) (by omega)
              obtain ⟨A3, c3, rfl⟩ := AS.out.rowV
              have M1 := Aside0.mk (madeB 256 AS.out (by omega))
              clear hxl
              go_wp2_with fail
              refine (play_ (im := List.replicate 256 0) (by have := M1.out.rowC.2.2; rwa [List.length_replicate] at this) (Nat.le_refl _) (asks_of M1.out.at2.rowC.2.2 M1.out.at3.fx (Below.refl _ _))).mono ?_
              rintro e w3 ⟨rfl, hb3⟩
              have B3 := Aside0.mk (M1.out.below hb3)
              clear hb3 hmk256
              go_wp2_with fail
              go_roundg (30 - k - 1)
              case measure => have := AQ.out; omega
              case rel => exact ⟨k + 1, by go_num, by have := AQ.out; omega, B3.out.tail.tail.tail⟩
        · have hmk65 : ∀ W : World, (Instr.makeSlice 30 (.int .i64 65) (.int .i64 65)).run Try.prog W = .ok (.slice (some ⟨W.heap.size, 0, none⟩) 65 65) (W.alloc (.cells (madeCells #[.int .u8 0] 65) 5)) := make_ (m := 65) (by omega)
          have hnil : ∀ W : World, Asks W none 0 := fun W => ⟨by omega, fun i hi => by omega⟩
          have M1 := Aside0.mk (madeB 65 AS.out (by omega))
          have HN := Aside0.mk hnil
          clear hS hkq hnil
          go_wp2_with fail
          refine (play_ (im := List.replicate 65 0) (by have := M1.out.rowC.2.2; rwa [List.length_replicate] at this) (Nat.le_refl _) (HN.out _)).mono ?_
          rintro e w3 ⟨rfl, hb3⟩
          have B3 := Aside0.mk (M1.out.below hb3)
          clear hb3 hmk65
          go_wp2_with fail
          refine (play_ (im := []) (Kd.C_nil _ _) (Nat.le_refl _) (HN.out _)).mono ?_
          rintro e w4 ⟨rfl, hb4⟩
          have B4 := Aside0.mk (B3.out.below hb4)
          clear hb4
          go_wp2_with fail
          refine (known_ _).mono ?_
          rintro e w6 ⟨rfl, hb6⟩
          have B6 := Aside0.mk (B4.out.below hb6).toBelow
          clear hb6
          go_wp2_with fail
          go_ret
          exact ⟨by first | rfl | (simp; done), B6.out⟩
end Go.Proofs.Ytjngnigelkgekaa.Ref
