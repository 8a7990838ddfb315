/- DiskPlays: the law's walk. -/
import Derived.Test.YtjngnigelkgekaaPlay
import Derived.Test.YtjngnigelkgekaaRaw
namespace Go.Proofs.Ytjngnigelkgekaa.Ref
set_option linter.unusedVariables false
set_option linter.unusedSimpArgs false
open Go.RowKit Go.Proofs.YtjngnigelkgekaaW.PrintWords Go.Proofs.YtjngnigelkgekaaW.PrintLast Go.Proofs.YtjngnigelkgekaaW.PrintMore Go.Proofs.Ytjngnigelkgekaa.Kit Go.Proofs.Ytjngnigelkgekaa.Disk
/-- The cells of one ask. -/
def AskC (w : World) (cs : List Value) : Prop := ∃ (k x : Int) (Ab : Option Addr) (nb cb : Nat) (bs : List Int) (Ac : Option Addr) (nc cc : Nat) (ds : List Int),
  cs = [.int .i64 k, .int .i64 x, .slice Ab nb cb, .slice Ac nc cc] ∧ (-9223372036854775808 ≤ x ∧ x ≤ 9223372036854775807) ∧ nb ≤ cb ∧ U8.C w Ab nb bs ∧ I64.C w Ac nc ds
theorem asks_of {w W : World} {A : Option Addr} {n : Nat} {xs : List (List Value)} (hC : (Kd.raw 4).C W A n xs) (hx : ∀ c ∈ xs, AskC w c) (hb : Below w.heap.size w W) : Asks W A n := by
  refine ⟨hC.2.1, fun i hi => ?_⟩
  obtain ⟨ad, e, hc⟩ := hC.2.2 (by omega)
  have hlt : i < xs.length := by have := hC.1; omega
  obtain ⟨c, h1, ⟨h2, _⟩, h3⟩ := hc i _ (List.getElem?_eq_getElem hlt)
  obtain ⟨k, x, Ab, nb, cb, bs, Ac, nc, cc, ds, e1, e2, e3, e4, e5⟩ := hx _ (List.getElem_mem hlt)
  rw [e1] at h2
  subst h2
  refine ⟨ad, e, k, x, Ab, nb, cb, bs, Ac, nc, cc, ds, ?_, ?_, ?_, ?_, e2, e3, Kd.C_below e4 hb, Kd.C_below e5 hb⟩
  · have := h3 0 _ rfl; exact this
  · have := h3 1 _ rfl; rw [add_field _ _ 1 (by omega)] at this; exact this
  · have := h3 2 _ rfl; rw [add_field _ _ 2 (by omega)] at this; exact this
  · have := h3 3 _ rfl; rw [add_field _ _ 3 (by omega)] at this; exact this
theorem infoA : (Try.prog.info? 74).map (fun i => (i.zero, i.size, i.bytes)) = some (some (.agg #[.int .i64 0, .int .i64 0, .slice none 0 0, .slice none 0 0]), 4, 64) := by kernel_rfl
set_option maxHeartbeats 3200000 in
set_option maxRecDepth 100000 in
theorem diskPlays_ {A0 A1 A2 : Option Addr} {n0 c0 n1 c1 n2 c2 : Nat} {im : List Int} {w : World} (h0 : U8.C w A0 n0 im) (hc0 : n0 ≤ c0) (h1 : Asks w A1 n1) (h2 : Asks w A2 n2) (hn2 : n2 * 64 ≤ 140737488355328) :
    Calls Try.prog 10 #[.slice A0 n0 c0, .slice A1 n1 c1, .slice A2 n2 c2] w fun e w' => e = .returned (.bool true) ∧ Below w.heap.size w w' := by
  have hn0 : n0 ≤ 9223372036854775807 := h0.2.1
  have H0 := Aside0.mk h0
  have H1 := Aside0.mk h1
  have H2 := Aside0.mk h2
  have HC0 := Aside0.mk hc0
  clear h0 h1 h2
  go_enter Try.func10, Try.ntmps10
  go_upto_if 12 with fail
  go_cut [0] from 10 to 14 (fun p wx => ∃ k xs, p = .slice A0 k c0 ∧ k ≤ c0 ∧ U8.C w A0 k xs ∧ wx = w)
  case first =>
    by_cases hq : 300 < n0
    · have hcut : ∀ W : World, (Instr.slice 30 (.slice A0 n0 c0) none (some (.int .i64 256)) none).run Try.prog W = .ok (.slice A0 256 c0) W := by
        obtain ⟨i, hi, hsz⟩ := Option.map_eq_some_iff.1 infoB
        exact cut_to (P := Try.prog) 30 5 .i64 Try.underlying30 hi A0 n0 c0 256 (by omega) (by omega) hc0
      go_wp2_with fail
      go_meet
      case rel => exact ⟨256, im.take 256, rfl, by omega, C_pre H0.out (by omega), rfl⟩
    · go_wp2_with fail
      go_meet
      case rel => exact ⟨n0, im, rfl, hc0, H0.out, rfl⟩
  case rest =>
    obtain ⟨k0, im0, rfl, hk0, hCk, rfl⟩ := hcut
    have HK := Aside0.mk hCk
    have HKC := Aside0.mk hk0
    have A00 : Aside0 (Sep wc wc [Row (Kd.raw 4) 74 (.slice none 0 0) []]) := ⟨(Sep.start wc).nilRow (Kd.raw 4) _⟩
    clear hCk hk0 hn0
    go_wp2_with fail
    go_loopg [7, 17] n2 (fun q v p wr => ∃ (j : Nat) (xs : List (List Value)), p = .int .i64 (j : Int) ∧ j + q = n2 ∧ xs.length = j ∧ (∀ c ∈ xs, AskC wc c) ∧ Sep wc wr [Row (Kd.raw 4) 74 v xs])
    case atStart => exact ⟨0, [], rfl, by omega, rfl, fun c hc => by simp at hc, A00.out⟩
    case round =>
      obtain ⟨j, xs, rfl, hjk, hxl, hxs, hS⟩ := hrel
      have AS := Aside0.mk hS
      have AK := Aside0.mk hjk
      have AX := Aside0.mk (And.intro hxl hxs)
      by_cases hj : j < n2
      · obtain ⟨a, hA, k, x, Ab, nb, cb, bs, Ac, nc, cc, cs, e0, e1, e2, e3, e4, e5, e6, e7⟩ := H2.out.2 j hj
        subst hA
        replace e0 := cell_later AS.out.toBelow e0
        replace e1 := cell_later AS.out.toBelow e1
        replace e2 := cell_later AS.out.toBelow e2
        replace e3 := cell_later AS.out.toBelow e3
        have BLK := Aside0.mk (AS.out.newBlk 74 #[.int .i64 k, .int .i64 x, .slice Ab nb cb, .slice Ac nc cc])
        have AB := Aside0.mk (And.intro e5 (And.intro e6 e7))
        clear hS hjk hxl hxs e5 e6 e7
        go_wp2_with fail
        obtain ⟨K, eK⟩ : ∃ K, Book.withinF k 0 7 = K := ⟨_, rfl⟩
        obtain ⟨X, eX⟩ : ∃ X, Book.withinF x (-1) 4 = X := ⟨_, rfl⟩
        have hX2 := Book.withinF_in (n := x) (lo := -1) (hi := 4) (by omega)
        rw [eX] at hX2
        have AXB := Aside0.mk hX2
        clear hX2
        have d0 := (BLK.out.drew.cell 0).trans rfl
        have d1 := (BLK.out.drew.cell 1).trans rfl
        have f0 := BLK.out.drew.frozen 0
        have B1 := Aside0.mk (BLK.out.drew.setBlk 0 (.int .i64 K))
        have d2 := (B1.out.cell 1).trans rfl
        have f2 := B1.out.frozen 1
        refine start_ (n := 10) (S := fun w' => w'.cell? ⟨wr.heap.size, 0, none⟩ = some (.int .i64 k) ∧ w'.cell? ⟨wr.heap.size, 1, none⟩ = some (.int .i64 x)) (ds := [7, 9]) #[false, false, false, false, false, false, false, false, false, false] (by kernel_rfl) rfl rfl ⟨d0, d1⟩ (fun hHeld => ?_)
        refine pure_ (i := 0) (N := some 24) (v := ?_) (a' := ?_) #[true, false, false, false, false, false, false, false, false, false] rfl rfl (by kernel_rfl) (fun _ _ _ h => h) (Or.inl ⟨by rfl, ?_⟩) ?_ ?_
        rotate_left
        · intro w'
          go_simp
          with_reducible rfl
        rotate_left
        · simp only [Act.put, List.setIfInBounds_toArray, List.set_cons_zero, List.set_cons_succ, i64_w, i32_w]
          rfl
        refine pure_ (i := 3) (N := some 27) (v := ?_) (a' := ?_) #[true, false, false, true, false, false, false, false, false, false] rfl rfl (by kernel_rfl) (fun _ _ _ h => h) (Or.inl ⟨by rfl, ?_⟩) ?_ ?_
        rotate_left
        · intro w'
          go_simp
          with_reducible rfl
        rotate_left
        · simp only [Act.put, List.setIfInBounds_toArray, List.set_cons_zero, List.set_cons_succ, i64_w, i32_w]
          rfl
        refine take_ (i := 1) (N := some 25) (v := ?_) (a' := ?_) #[true, true, false, true, false, false, false, false, false, false] rfl rfl (by kernel_rfl) (fun _ _ _ h => h) (Or.inl ⟨by rfl, ?_⟩) hHeld ?_ ?_
        rotate_left
        · rintro w' ⟨s0, s1⟩
          go_simp
          with_reducible rfl
        rotate_left
        · simp only [Act.put, List.setIfInBounds_toArray, List.set_cons_zero, List.set_cons_succ, i64_w, i32_w]
          rfl
        refine take_ (i := 4) (N := some 28) (v := ?_) (a' := ?_) #[true, true, false, true, true, false, false, false, false, false] rfl rfl (by kernel_rfl) (fun _ _ _ h => h) (Or.inl ⟨by rfl, ?_⟩) hHeld ?_ ?_
        rotate_left
        · rintro w' ⟨s0, s1⟩
          go_simp
          with_reducible rfl
        rotate_left
        · simp only [Act.put, List.setIfInBounds_toArray, List.set_cons_zero, List.set_cons_succ, i64_w, i32_w]
          rfl
        refine one_ (i := 2) (N := some 26) #[true, true, true, true, true, false, false, false, false, false] rfl rfl (by kernel_rfl) (by decide) (fun K hK => ?_)
        refine goes_ Try.func19 (by kernel_rfl) rfl #[.int .i64 k, .int .i64 0, .int .i64 7] (by rfl) rfl rfl (by simp only [List.map_toArray, List.map_cons, List.map_nil]; rfl) ?_
        with_reducible refine (Book.within_ k 0 7 _ (by decide) (by decide) (by decide)).mono ?_
        rintro e w3 ⟨rfl, rfl⟩
        refine ⟨_, rfl, ?_⟩
        rw [eK]
        refine hK.out _ _ ⟨d0, d1⟩ (fun hHeld => ?_)
        clear hK K
        refine norm_ (a' := ?_) ?_ ?_
        rotate_left
        · show Act.put _ (some 26) _ = _
          simp only [Act.put, List.setIfInBounds_toArray, List.set_cons_zero, List.set_cons_succ, i64_w, i32_w]
          rfl
        refine pure_ (i := 6) (N := some 30) (v := ?_) (a' := ?_) #[true, true, true, true, true, false, true, false, false, false] rfl rfl (by kernel_rfl) (fun _ _ _ h => h) (Or.inl ⟨by rfl, ?_⟩) ?_ ?_
        rotate_left
        · intro w'
          go_simp
          with_reducible rfl
        rotate_left
        · simp only [Act.put, List.setIfInBounds_toArray, List.set_cons_zero, List.set_cons_succ, i64_w, i32_w]
          rfl
        refine one_ (i := 5) (N := some 29) #[true, true, true, true, true, true, true, false, false, false] rfl rfl (by kernel_rfl) (by decide) (fun K hK => ?_)
        refine goes_ Try.func19 (by kernel_rfl) rfl #[.int .i64 x, .int .i64 (-1), .int .i64 4] (by rfl) rfl rfl (by simp only [List.map_toArray, List.map_cons, List.map_nil]; rfl) ?_
        with_reducible refine (Book.within_ x (-1) 4 _ (by decide) (by decide) (by decide)).mono ?_
        rintro e w3 ⟨rfl, rfl⟩
        refine ⟨_, rfl, ?_⟩
        rw [eX]
        refine hK.out _ _ ⟨d0, d1⟩ (fun hHeld => ?_)
        clear hK K
        refine norm_ (a' := ?_) ?_ ?_
        rotate_left
        · show Act.put _ (some 29) _ = _
          simp only [Act.put, List.setIfInBounds_toArray, List.set_cons_zero, List.set_cons_succ, i64_w, i32_w]
          rfl
        refine last_ (i := 7) (N := none) #[true, true, true, true, true, true, true, true, false, false] rfl rfl (by kernel_rfl) (by decide) (fun K hK => ?_)
        refine skip_ (w1 := ?_) (by rfl) rfl ?_ ?_
        rotate_left
        · go_simp
          rfl
        refine hK.out _ _ ?_
        clear hK K
        refine pure_ (i := 8) (N := some 31) (v := ?_) (a' := ?_) #[true, true, true, true, true, true, true, true, true, false] rfl rfl (by kernel_rfl) (fun _ _ _ h => h) (Or.inl ⟨by rfl, ?_⟩) ?_ ?_
        rotate_left
        · intro w'
          go_simp
          with_reducible rfl
        rotate_left
        · simp only [Act.put, List.setIfInBounds_toArray, List.set_cons_zero, List.set_cons_succ, i64_w, i32_w]
          rfl
        refine last_ (i := 9) (N := none) #[true, true, true, true, true, true, true, true, true, true] rfl rfl (by kernel_rfl) (by decide) (fun K hK => ?_)
        refine skip_ (w1 := ?_) (by rfl) rfl ?_ ?_
        rotate_left
        · go_simp
          rfl
        refine hK.out _ _ ?_
        clear hK K
        refine done_ (by kernel_rfl) ?_
        clear d0 d1 f0 d2 f2 B1 BLK eK eX
        obtain ⟨w3, hw3⟩ : ∃ w3, (wr.alloc (.cells #[.int .i64 K, .int .i64 X, .slice Ab nb cb, .slice Ac nc cc] 74)).drew = w3 := ⟨_, rfl⟩
        have B2 := Aside0.mk (AS.out.newBlk 74 #[.int .i64 K, .int .i64 X, .slice Ab nb cb, .slice Ac nc cc]).drew
        rw [hw3] at B2 ⊢
        clear hw3 e0 e1 e2 e3
        generalize wr.heap.size = ga at *
        have d0 := (B2.out.cell 0).trans rfl
        have d1 := (B2.out.cell 1).trans rfl
        have d2 := (B2.out.cell 2).trans rfl
        have d3 := (B2.out.cell 3).trans rfl
        have B3 := Aside0.mk (B2.out.newBlk 74 #[.int .i64 K, .int .i64 X, .slice Ab nb cb, .slice Ac nc cc])
        have HR := Aside0.mk (B3.out.blkRaw (c := [.int .i64 K, .int .i64 X, .slice Ab nb cb, .slice Ac nc cc]) (sz := 4) rfl (by intro u hu; simp at hu; rcases hu with rfl | rfl | rfl | rfl <;> rfl))
        go_wp2_with (first | (refine gate_builtin (b := .append) (xs := #[.tmp 32, .tmp 34]) rfl ?_; go_loud (refine B3.out.at3.appendRaw rfl (.tmp 32) (.tmp 34) 72 _ 64 rfl Try.underlying72 infoA rfl (by decide) (by decide) (some ⟨w3.heap.size, 0, none⟩) 1 1 rfl rfl HR.out (by have := AX.out.1; simp; omega) ?_; intro v1 w4 hS4; have A4 := Aside0.mk hS4; clear hS4)))
        go_roundg (gk - 1)
        case measure => have := AK.out; omega
        case rel => exact ⟨j + 1, _, by go_num, by have := AK.out; omega, by rw [List.length_append, AX.out.1]; rfl, by
          intro c hc
          rcases List.mem_append.1 hc with h | h
          · exact AX.out.2 c h
          · obtain rfl := List.mem_singleton.1 h
            exact ⟨K, X, Ab, nb, cb, bs, Ac, nc, cc, cs, rfl, by have := AXB.out; omega, AB.out.1, AB.out.2.1, AB.out.2.2⟩, A4.out.drop2.drop2⟩
      · obtain ⟨A3, c3, rfl⟩ := hS.rowV
        have hmk256 : ∀ W : World, (Instr.makeSlice 30 (.int .i64 256) (.int .i64 256)).run Try.prog W = .ok (.slice (some ⟨W.heap.size, 0, none⟩) 256 256) (W.alloc (.cells (madeCells #[.int .u8 0] 256) 5)) := make_ (m := 256) (by omega)
        have hmk128 : ∀ W : World, (Instr.makeSlice 30 (.int .i64 128) (.int .i64 128)).run Try.prog W = .ok (.slice (some ⟨W.heap.size, 0, none⟩) 128 128) (W.alloc (.cells (madeCells #[.int .u8 0] 128) 5)) := make_ (m := 128) (by omega)
        have M1 := Aside0.mk (madeB 256 hS (by omega))
        clear hS hjk hxl hxs
        go_wp2_with fail
        refine (play_ (im := List.replicate 256 0) (by have := M1.out.rowC.2.2; rwa [List.length_replicate] at this) (Nat.le_refl _) (asks_of M1.out.at2.rowC.2.2 AX.out.2 M1.out.toBelow)).mono ?_
        rintro e w3 ⟨rfl, hb3⟩
        have B3 := Aside0.mk (M1.out.below hb3).toBelow
        clear hb3 hmk256
        go_wp2_with fail
        refine (play_ (Kd.C_below HK.out B3.out) HKC.out (H1.out.below B3.out)).mono ?_
        rintro e w4 ⟨rfl, hb4⟩
        have S4 : Sep wc w4 [] := ((Sep.start wc).below B3.out).below hb4
        have M2 := Aside0.mk (madeB 128 S4 (by omega))
        clear hb4 S4
        go_wp2_with fail
        refine (play_ (im := List.replicate 128 0) (by have := M2.out.rowC.2.2; rwa [List.length_replicate] at this) (Nat.le_refl _) (H1.out.below M2.out.toBelow)).mono ?_
        rintro e w5 ⟨rfl, hb5⟩
        have B5 := Aside0.mk (M2.out.below hb5)
        clear hb5 hmk128
        go_wp2_with fail
        refine (known_ _).mono ?_
        rintro e w6 ⟨rfl, hb6⟩
        have B6 := Aside0.mk (B5.out.below hb6).toBelow
        clear hb6
        go_wp2_with fail
        go_ret
        exact ⟨by first | rfl | (simp; done), B6.out⟩
end Go.Proofs.Ytjngnigelkgekaa.Ref
