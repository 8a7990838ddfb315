/- HomeNumbers: the walk. -/
import Derived.Test.YtjngnigelkgekaaHome4
namespace Go.Proofs.Ytjngnigelkgekaa.Home
set_option linter.unusedVariables false
set_option linter.unusedSimpArgs false
open Go.RowKit Go.Proofs.YtjngnigelkgekaaW.PrintWords Go.Proofs.YtjngnigelkgekaaW.PrintLast Go.Proofs.YtjngnigelkgekaaW.PrintMore Go.Proofs.Ytjngnigelkgekaa.Kit Go.Proofs.Ytjngnigelkgekaa.Plain Go.Proofs.Ytjngnigelkgekaa.Disk Go.Proofs.Ytjngnigelkgekaa.Root
abbrev Sl64 := {p : Option Addr × Nat // 64 ≤ p.2}
def tl (p : Sl64) : Option Addr := if p.1.2 = 1 then p.1.1 else p.1.1.map (·.add (1 * 1))
theorem tl_cut (p : Sl64) (W : World) : (Instr.slice 30 (.slice p.1.1 64 p.1.2) (some (.int .i64 1)) none none).run Try.prog W = .ok (.slice (tl p) 63 (p.1.2 - 1)) W := by
  have := cutLo Try.underlying30 Base.infoB p.1.1 64 p.1.2 1 (J := 1) rfl (by decide) p.2
  exact this W
theorem tl_C {p : Sl64} {W : World} {l : List Int} (h : U8.C W p.1.1 64 l) : U8.C W (tl p) 63 (l.drop 1) := C_lo (a := 1) (c := p.1.2) h (by decide) p.2
theorem sectorK (x : Int) (w : World) : Calls Try.prog 59 #[.int .u8 x] w fun e w' => ∃ v : Sl64, e = .returned (.slice v.1.1 64 v.1.2) ∧ Sep w w' [Row U8 5 (.slice v.1.1 64 v.1.2) (sectF x)] := by
  refine (sector_ x w).mono ?_
  rintro e w' ⟨v, rfl, hS⟩
  obtain ⟨A, c, rfl⟩ := hS.rowN (n := 64) (sectF_len _)
  exact ⟨⟨(A, c), hS.rowC.2.1⟩, rfl, hS⟩
set_option maxHeartbeats 3200000 in
set_option maxRecDepth 100000 in
theorem homeNumbers_ (w : World) : Calls Try.prog 13 #[] w fun e w' => e = .returned (.bool true) ∧ Below w.heap.size w w' := by
  have hmkA : ∀ W : World, (Instr.makeSlice 30 (.int .i64 640) (.int .i64 640)).run Try.prog W = .ok (.slice (some ⟨W.heap.size, 0, none⟩) 640 640) (W.alloc (.cells (madeCells #[.int .u8 0] 640) 5)) := make_ (m := 640) (by omega)
  go_enter Try.func13, Try.ntmps13
  go_wp2_with fail
  go_loopg [1] 11 (fun m_ v wr => ∃ n : Nat, v = .int .i64 (n : Int) ∧ (1 ≤ n ∧ n + m_ = 12) ∧ Below w.heap.size w wr)
  case atStart => exact ⟨1, rfl, ⟨by decide, rfl⟩, Below.refl _ _⟩
  case round =>
    obtain ⟨n, rfl, hn, hB⟩ := hrel
    obtain ⟨G0, rfl⟩ : ∃ G, G = gk := ⟨_, rfl⟩
    obtain ⟨w1, rfl⟩ : ∃ x, x = wr := ⟨_, rfl⟩
    have AK0 := Aside0.mk hn
    have AB0 := Aside0.mk ((Sep.start w).below hB)
    by_cases cn : n < 12
    case neg =>
      have hnl : ¬ (n : Int) < 12 := by omega
      have hnld : decide ((n : Int) < 12) = false := decide_eq_false hnl
      have Bd := Aside0.mk AB0.out.drew
      have hcut := tl_cut
      clear hB hn
      go_wp2_with fail
      refine start_ (n := 9) (S := fun w' => True) (ds := [4, 6]) #[false, false, false, false, false, false, false, false, false] (by kernel_rfl) rfl rfl trivial (fun hHeld => ?_)
      refine pure_ (i := 1) (N := some 57) (v := ?_) (a' := ?_) #[false, true, false, false, false, false, false, false, false] rfl rfl (by kernel_rfl) (fun _ _ _ h => h) (Or.inl ⟨by rfl, ?_⟩) ?_ ?_
      rotate_left
      · intro w'
        go_simp
        with_reducible rfl
      rotate_left
      · simp only [Act.put, List.setIfInBounds_toArray, List.set_cons_zero, List.set_cons_succ, i64_w, i32_w]
        rfl
      refine join_ (σ := Value × Sl64) 5 #[true, true, true, true, false, false, false, false, false] (fun s_ => [(56, s_.1), (58, .slice s_.2.1.1 64 s_.2.1.2), (59, .slice (tl s_.2) 63 (s_.2.1.2 - 1))]) (fun s_ w' => Sep w w' ((Row U8 5 (s_.1) (List.replicate 640 0)) :: (Row U8 5 (.slice (s_.2).1.1 64 (s_.2).1.2) (sectF 1)) :: [])) ?_ ?_
      rotate_left
      · intro hJ0_2
        refine join_ (σ := Value) 7 #[true, true, false, false, false, false, false, false, false] (fun s_ => [(56, s_)]) (fun s_ w' => Sep w w' ((Row U8 5 (s_) (List.replicate 640 0)) :: [])) ?_ ?_
        rotate_left
        · intro hJ0
          refine join_ (σ := Sl64) 6 #[false, true, true, true, false, false, false, false, false] (fun s_ => [(58, .slice s_.1.1 64 s_.1.2), (59, .slice (tl s_) 63 (s_.1.2 - 1))]) (fun s_ w' => Sep w w' ((Row U8 5 (.slice (s_).1.1 64 (s_).1.2) (sectF 1)) :: [])) ?_ ?_
          rotate_left
          · intro hJ2
            refine two_ (i := 0) (j := 2) (Ni := some 56) (Nj := some 58) #[true, true, false, false, false, false, false, false, false] #[false, true, true, false, false, false, false, false, false] rfl rfl rfl rfl (by kernel_rfl) (by decide) (by decide) (fun K hK => ?_) (fun K hK => ?_)
            · skip
              refine value_ (w1 := ?_) (v := ?_) (by rfl) rfl ?_ ?_
              rotate_left 2
              · go_simp
                constructor
                · rfl
                · rfl
              have hN := madeB 640 (Bd.out) (by omega)
              refine hK.out _ _ trivial (fun hHeld => ?_)
              clear hK K
              refine norm_ (a' := ?_) ?_ ?_
              rotate_left
              · show Act.put _ (some 56) _ = _
                simp only [Act.put, List.setIfInBounds_toArray, List.set_cons_zero, List.set_cons_succ, i64_w, i32_w]
                rfl
              exact norm_ (by first | (simp only [putAll, Act.put, List.setIfInBounds_toArray, List.set_cons_zero, List.set_cons_succ]; done) | (simp only [putAll, Act.put, List.setIfInBounds_toArray, List.set_cons_zero, List.set_cons_succ]; rfl)) (hJ0 (.slice (some ⟨(w1.drew).heap.size, 0, none⟩) 640 640) _ hN)
            · skip
              refine goes_ Try.func59 (by kernel_rfl) rfl #[.int .u8 1] (by rfl) rfl rfl (by simp only [List.map_toArray, List.map_cons, List.map_nil]; rfl) ?_
              with_reducible refine (sectorK 1 _).mono ?_
              rintro e wn_ ⟨vn_, rfl, hS_⟩
              refine ⟨_, rfl, ?_⟩
              have hN := (Bd.out).lift1 hS_
              clear hS_
              refine hK.out _ _ trivial (fun hHeld => ?_)
              clear hK K
              refine norm_ (a' := ?_) ?_ ?_
              rotate_left
              · show Act.put _ (some 58) _ = _
                simp only [Act.put, List.setIfInBounds_toArray, List.set_cons_zero, List.set_cons_succ, i64_w, i32_w]
                rfl
              refine pure_ (i := 3) (N := some 59) (v := ?_) (a' := ?_) #[false, true, true, true, false, false, false, false, false] rfl rfl (by kernel_rfl) (fun _ _ _ h => h) (Or.inl ⟨by rfl, ?_⟩) ?_ ?_
              rotate_left
              · intro w'
                go_simp
                with_reducible rfl
              rotate_left
              · simp only [Act.put, List.setIfInBounds_toArray, List.set_cons_zero, List.set_cons_succ, i64_w, i32_w]
                rfl
              exact norm_ (by first | (simp only [putAll, Act.put, List.setIfInBounds_toArray, List.set_cons_zero, List.set_cons_succ]; done) | (simp only [putAll, Act.put, List.setIfInBounds_toArray, List.set_cons_zero, List.set_cons_succ]; rfl)) (hJ2 vn_ _ hN)
          · skip
            rintro v2_ W_ hQ_
            have hSep : Aside0 (Sep w W_ ((Row U8 5 (.slice (v2_).1.1 64 (v2_).1.2) (sectF 1)) :: [])) := ⟨hQ_⟩
            clear hQ_
            have hHeld := trivial
            refine norm_ (a' := ?_) ?_ ?_
            rotate_left
            · simp only [putAll, Act.put, List.setIfInBounds_toArray, List.set_cons_zero, List.set_cons_succ]
              rfl
            refine one_ (i := 0) (N := some 56) #[true, true, true, true, false, false, false, false, false] rfl rfl (by kernel_rfl) (by decide) (fun K hK => ?_)
            refine value_ (w1 := ?_) (v := ?_) (by rfl) rfl ?_ ?_
            rotate_left 2
            · go_simp
              constructor
              · rfl
              · rfl
            have hN := madeB 640 (hSep.out) (by omega)
            refine hK.out _ _ trivial (fun hHeld => ?_)
            clear hK K
            refine norm_ (a' := ?_) ?_ ?_
            rotate_left
            · show Act.put _ (some 56) _ = _
              simp only [Act.put, List.setIfInBounds_toArray, List.set_cons_zero, List.set_cons_succ, i64_w, i32_w]
              rfl
            exact norm_ (by first | (simp only [putAll, Act.put, List.setIfInBounds_toArray, List.set_cons_zero, List.set_cons_succ]; done) | (simp only [putAll, Act.put, List.setIfInBounds_toArray, List.set_cons_zero, List.set_cons_succ]; rfl)) (hJ0_2 (.slice (some ⟨(W_).heap.size, 0, none⟩) 640 640, v2_) _ hN)
        · skip
          rintro v0_ W_ hQ_
          have hSep : Aside0 (Sep w W_ ((Row U8 5 (v0_) (List.replicate 640 0)) :: [])) := ⟨hQ_⟩
          clear hQ_
          have hHeld := trivial
          refine norm_ (a' := ?_) ?_ ?_
          rotate_left
          · simp only [putAll, Act.put, List.setIfInBounds_toArray, List.set_cons_zero, List.set_cons_succ]
            rfl
          refine one_ (i := 2) (N := some 58) #[true, true, true, false, false, false, false, false, false] rfl rfl (by kernel_rfl) (by decide) (fun K hK => ?_)
          refine goes_ Try.func59 (by kernel_rfl) rfl #[.int .u8 1] (by rfl) rfl rfl (by simp only [List.map_toArray, List.map_cons, List.map_nil]; rfl) ?_
          with_reducible refine (sectorK 1 _).mono ?_
          rintro e wn_ ⟨vn_, rfl, hS_⟩
          refine ⟨_, rfl, ?_⟩
          have hN := (hSep.out).lift1 hS_
          clear hS_
          refine hK.out _ _ trivial (fun hHeld => ?_)
          clear hK K
          refine norm_ (a' := ?_) ?_ ?_
          rotate_left
          · show Act.put _ (some 58) _ = _
            simp only [Act.put, List.setIfInBounds_toArray, List.set_cons_zero, List.set_cons_succ, i64_w, i32_w]
            rfl
          refine pure_ (i := 3) (N := some 59) (v := ?_) (a' := ?_) #[true, true, true, true, false, false, false, false, false] rfl rfl (by kernel_rfl) (fun _ _ _ h => h) (Or.inl ⟨by rfl, ?_⟩) ?_ ?_
          rotate_left
          · intro w'
            go_simp
            with_reducible rfl
          rotate_left
          · simp only [Act.put, List.setIfInBounds_toArray, List.set_cons_zero, List.set_cons_succ, i64_w, i32_w]
            rfl
          exact norm_ (by first | (simp only [putAll, Act.put, List.setIfInBounds_toArray, List.set_cons_zero, List.set_cons_succ]; done) | (simp only [putAll, Act.put, List.setIfInBounds_toArray, List.set_cons_zero, List.set_cons_succ]; rfl)) (hJ0_2 (v0_, vn_) _ hN.at2)
      rintro ⟨v0_, v2_⟩ W_ hQ_
      have hSep : Aside0 (Sep w W_ ((Row U8 5 (v0_) (List.replicate 640 0)) :: (Row U8 5 (.slice (v2_).1.1 64 (v2_).1.2) (sectF 1)) :: [])) := ⟨hQ_⟩
      clear hQ_
      have hHeld := trivial
      have hN0 := hSep.out
      obtain ⟨A0, c0, rfl⟩ := hN0.rowN (n := 640) List.length_replicate
      have B0 := Aside0.mk hN0
      clear hN0
      refine norm_ (a' := ?_) ?_ ?_
      rotate_left
      · simp only [putAll, Act.put, List.setIfInBounds_toArray, List.set_cons_zero, List.set_cons_succ]
        rfl
      refine last_ (i := 4) (N := some 60) #[true, true, true, true, true, false, false, false, false] rfl rfl (by kernel_rfl) (by decide) (fun K hK => ?_)
      refine goes_ Try.func58 (by kernel_rfl) rfl #[.slice A0 640 c0, .agg #[.int .i64 1, .int .i64 2, .int .u32 1], .int .i64 0, .slice (tl v2_) 63 (v2_.1.2 - 1)] (by rfl) rfl rfl (by simp only [List.map_toArray, List.map_cons, List.map_nil]; rfl) ?_
      with_reducible refine (same_ (n := 10) (xs := (sectF 1).drop 1) B0.out.rowC' B0.out.rowC.2.1 rfl (by decide) (by decide) (tl_C B0.out.at2.rowC') (by have := v2_.2; omega)).mono ?_
      rintro e w3 ⟨rfl, hb3⟩
      refine ⟨_, rfl, ?_⟩
      have B3 := Aside0.mk (B0.out.below hb3)
      clear hb3
      refine hK.out _ _ ?_
      clear hK K
      refine norm_ (a' := ?_) ?_ ?_
      rotate_left
      · show Act.put _ (some 60) _ = _
        simp only [Act.put, List.setIfInBounds_toArray, List.set_cons_zero, List.set_cons_succ, i64_w, i32_w]
        rfl
      refine pure_ (i := 5) (N := some 61) (v := ?_) (a' := ?_) #[true, true, true, true, true, true, false, false, false] rfl rfl (by kernel_rfl) (fun _ _ _ h => h) (Or.inl ⟨by rfl, ?_⟩) ?_ ?_
      rotate_left
      · intro w'
        go_simp
        with_reducible rfl
      rotate_left
      · simp only [Act.put, List.setIfInBounds_toArray, List.set_cons_zero, List.set_cons_succ, i64_w, i32_w]
        rfl
      refine last_ (i := 6) (N := some 62) #[true, true, true, true, true, true, true, false, false] rfl rfl (by kernel_rfl) (by decide) (fun K hK => ?_)
      refine goes_ Try.func25 (by kernel_rfl) rfl #[] (by rfl) rfl rfl (by simp) ?_
      with_reducible refine (known_ _).mono ?_
      rintro e w4 ⟨rfl, hb4⟩
      refine ⟨_, rfl, ?_⟩
      have B4 := Aside0.mk (B3.out.below hb4)
      clear hb4
      refine hK.out _ _ ?_
      clear hK K
      refine norm_ (a' := ?_) ?_ ?_
      rotate_left
      · show Act.put _ (some 62) _ = _
        simp only [Act.put, List.setIfInBounds_toArray, List.set_cons_zero, List.set_cons_succ, i64_w, i32_w]
        rfl
      refine pure_ (i := 7) (N := some 63) (v := ?_) (a' := ?_) #[true, true, true, true, true, true, true, true, false] rfl rfl (by kernel_rfl) (fun _ _ _ h => h) (Or.inl ⟨by rfl, ?_⟩) ?_ ?_
      rotate_left
      · intro w'
        go_simp
        with_reducible rfl
      rotate_left
      · simp only [Act.put, List.setIfInBounds_toArray, List.set_cons_zero, List.set_cons_succ, i64_w, i32_w]
        rfl
      refine pure_ (i := 8) (N := some 0) (v := ?_) (a' := ?_) #[true, true, true, true, true, true, true, true, true] rfl rfl (by kernel_rfl) (fun _ _ _ h => h) (Or.inl ⟨by rfl, ?_⟩) ?_ ?_
      rotate_left
      · intro w'
        go_simp
        with_reducible rfl
      rotate_left
      · simp only [Act.put, List.setIfInBounds_toArray, List.set_cons_zero, List.set_cons_succ, i64_w, i32_w]
        rfl
      refine done_ (by kernel_rfl) ?_
      go_wp2_with fail
      go_ret
      exact ⟨by first | rfl | (simp; done), B4.out.toBelow⟩
    case pos =>
    have hnl : (n : Int) < 12 := by omega
    have hnld : decide ((n : Int) < 12) = true := decide_eq_true hnl
    have hn1 : 1 ≤ n := by have := AK0.out; omega
    have hmk : ∀ W : World, (Instr.makeSlice 30 (.int .i64 ((n : Int) * 64)) (.int .i64 ((n : Int) * 64))).run Try.prog W = .ok (.slice (some ⟨W.heap.size, 0, none⟩) (n * 64) (n * 64)) (W.alloc (.cells (madeCells #[.int .u8 0] (n * 64)) 5)) := by
      intro W
      have := make_ (m := n * 64) (by omega) W
      rwa [Int.natCast_mul] at this
    have C1 : Aside0 (Sep w (w1.alloc (.cells (madeCells #[.int .u8 0] (n * 64)) 5)) [Row U8 5 (.slice (some ⟨w1.heap.size, 0, none⟩) (n * 64) (n * 64)) (List.replicate (n * 64) 0)]) := ⟨madeB (n * 64) AB0.out (by omega)⟩
    have hlen : (List.replicate (n * 64) (0 : Int)).length = n * 64 := List.length_replicate
    obtain ⟨L, hL⟩ : ∃ L, n * 64 = L := ⟨_, rfl⟩
    have hLi : (n : Int) * 64 = (L : Int) := by omega
    rw [hL] at C1 hlen
    rw [hLi] at hmk
    simp only [hL] at hmk
    have HLL := Aside0.mk hL
    have HN1 : Aside0 (1 ≤ n ∧ n < 12 ∧ L ≤ 704) := ⟨by omega⟩
    have hw64 : wrap64 ((n : Int) * 64) = (L : Int) := by rw [IntWalk.wrap64_in _ (by omega)]; exact hLi
    have hL0 : L ≤ 704 := by omega
    have HLN := Aside0.mk hlen
    clear hB hn hL hlen
    go_wp2_with fail
    clear hmk hw64 hLi
    go_loopg [16] L (fun m_ v wr => ∃ (i : Nat) (l : List Int), v = .int .i64 (i : Int) ∧ i + m_ = L ∧ l.length = L ∧ Sep w wr [Row U8 5 (.slice (some ⟨w1.heap.size, 0, none⟩) L L) l])
    case atStart => exact ⟨0, _, rfl, by omega, HLN.out, C1.out⟩
    case round =>
      obtain ⟨i, l, rfl, hi, hll, hS⟩ := hrel
      have AK1 := Aside0.mk hi
      have AS1 := Aside0.mk hS
      have HLl := Aside0.mk hll
      clear hi hll
      by_cases ci : i < L
      case pos =>
        have hil : (i : Int) < (L : Int) := by omega
        have hild : decide ((i : Int) < (L : Int)) = true := decide_eq_true hil
        obtain ⟨e1, e2⟩ := hS.rowCell (enc := Value.int .u8) 0 i ci
        have B2 := Aside0.mk (hS.putRow (enc := Value.int .u8) i ((i : Int) / 64))
        clear hS
        generalize l.getD i 0 = u at e1
        go_wp2_with fail
        go_roundg (gk - 1)
        case measure => have := AK1.out; omega
        case rel => exact ⟨i + 1, l.set i ((i : Int) / 64), by go_num, by have := AK1.out; omega, by rw [List.length_set]; exact HLl.out, by first | exact B2.out | (have := B2.out; simpa using this)⟩
      case neg =>
      have hil : ¬ (i : Int) < (L : Int) := by omega
      have hild : decide ((i : Int) < (L : Int)) = false := decide_eq_false hil
      clear hS
      go_wp2_with fail
      go_loopg [4] 5 (fun m_ v wr => ∃ a : Nat, v = .int .i64 (a : Int) ∧ a + m_ = 5 ∧ Sep w wr [Row U8 5 (.slice (some ⟨w1.heap.size, 0, none⟩) L L) l])
      case atStart => exact ⟨0, rfl, rfl, AS1.out⟩
      case round =>
        obtain ⟨a, rfl, ha, hS⟩ := hrel
        obtain ⟨G2, rfl⟩ : ∃ G, G = gk := ⟨_, rfl⟩
        have AK2 := Aside0.mk ha
        have AS2 := Aside0.mk hS
        clear ha hS
        by_cases ca : a < 5
        case neg =>
          have hal : ¬ (a : Int) < 5 := by omega
          have hald : decide ((a : Int) < 5) = false := decide_eq_false hal
          go_wp2_with fail
          go_roundg (G0 - 1)
          case measure => have := AK0.out; omega
          case rel => exact ⟨n + 1, by go_num, by have := AK0.out; omega, AS2.out.toBelow⟩
        case pos =>
        have hal : (a : Int) < 5 := by omega
        have hald : decide ((a : Int) < 5) = true := decide_eq_true hal
        go_wp2_with fail
        go_loopg [5] 7 (fun m_ v wr => ∃ b : Int, v = .int .i64 b ∧ -1 ≤ b ∧ b + (m_ : Int) = 6 ∧ Sep w wr [Row U8 5 (.slice (some ⟨w1.heap.size, 0, none⟩) L L) l])
        case atStart => exact ⟨-1, rfl, by decide, by decide, AS2.out⟩
        case round =>
          obtain ⟨b, rfl, hb1, hb, hS⟩ := hrel
          obtain ⟨G3, rfl⟩ : ∃ G, G = gk := ⟨_, rfl⟩
          have AK3 := Aside0.mk (And.intro hb1 hb)
          have AS3 := Aside0.mk hS
          clear hS
          by_cases cb : b < 6
          case neg =>
            have hbd : decide (b < 6) = false := decide_eq_false cb
            clear hb1 hb
            go_wp2_with fail
            go_roundg (G2 - 1)
            case measure => have := AK2.out; omega
            case rel => exact ⟨a + 1, by go_num, by have := AK2.out; omega, AS3.out⟩
          case pos =>
          have hbd : decide (b < 6) = true := decide_eq_true cb
          have hwb : wrap64 (b + 1) = b + 1 := IntWalk.wrap64_in _ (by omega)
          clear hb1 hb
          go_wp2_with fail
          go_loopg [6] 7 (fun m_ v wr => ∃ i : Int, v = .int .i64 i ∧ -1 ≤ i ∧ i + (m_ : Int) = 6 ∧ Sep w wr [Row U8 5 (.slice (some ⟨w1.heap.size, 0, none⟩) L L) l])
          case atStart => exact ⟨-1, rfl, by decide, by decide, AS3.out⟩
          case round =>
            obtain ⟨i, rfl, hi1, hi, hS⟩ := hrel
            have AK4 := Aside0.mk (And.intro hi1 hi)
            have AS4 := Aside0.mk hS
            clear hS
            by_cases ci2 : i < 6
            case neg =>
              have hid : decide (i < 6) = false := decide_eq_false ci2
              clear hi1 hi
              go_wp2_with fail
              go_roundg (G3 - 1)
              case measure => have := AK3.out; omega
              case rel => exact ⟨b + 1, by go_num, by have := AK3.out; omega, by have := AK3.out; omega, AS4.out⟩
            case pos =>
            have hid : decide (i < 6) = true := decide_eq_true ci2
            have hwi : wrap64 (i + 1) = i + 1 := IntWalk.wrap64_in _ (by omega)
            clear hi1 hi
            go_wp2_with fail
            refine (sector_ 77 _).mono ?_
            rintro e w5 ⟨v5, rfl, hS5⟩
            obtain ⟨A5, c5, rfl⟩ := hS5.rowN (n := 64) (sectF_len _)
            have B5 := Aside0.mk (AS4.out.lift1 hS5)
            clear hS5
            go_wp2_with fail
            refine (same_ (n := n) B5.out.at2.rowC' (Nat.le_refl _) (by have := HLL.out; omega) HN1.out.1 (by have := HN1.out; omega) B5.out.rowC' B5.out.rowC.2.1).mono ?_
            rintro e w6 ⟨rfl, hb6⟩
            have B6 := Aside0.mk (B5.out.below hb6).tail
            clear hb6
            go_wp2_with fail
            refine (sector_ 77 _).mono ?_
            rintro e w7 ⟨v7, rfl, hS7⟩
            obtain ⟨A7, c7, rfl⟩ := hS7.rowN (n := 64) (sectF_len _)
            have B7 := Aside0.mk (B6.out.lift1 hS7)
            clear hS7
            go_wp2_with fail
            refine (same_ (n := n) B7.out.at2.rowC' (Nat.le_refl _) (by have := HLL.out; omega) HN1.out.1 (by have := HN1.out; omega) B7.out.rowC' B7.out.rowC.2.1).mono ?_
            rintro e w8 ⟨rfl, hb8⟩
            have B8 := Aside0.mk (B7.out.below hb8).tail
            clear hb8
            go_wp2_with fail
            go_roundg (gk - 1)
            case measure => have := AK4.out; omega
            case rel => exact ⟨i + 1, by go_num, by have := AK4.out; omega, by have := AK4.out; omega, B8.out⟩
end Go.Proofs.Ytjngnigelkgekaa.Home
