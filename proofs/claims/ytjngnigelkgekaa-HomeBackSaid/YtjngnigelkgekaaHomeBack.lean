/- HomeBack: the walk. -/
import Derived.Test.YtjngnigelkgekaaHome4
import Derived.Test.YtjngnigelkgekaaOpenRow
namespace Go.Proofs.Ytjngnigelkgekaa.Home
set_option linter.unusedVariables false
set_option linter.unusedSimpArgs false
open Go.RowKit Go.Proofs.YtjngnigelkgekaaW.PrintWords Go.Proofs.YtjngnigelkgekaaW.PrintLast Go.Proofs.YtjngnigelkgekaaW.PrintMore Go.Proofs.Ytjngnigelkgekaa.Kit Go.Proofs.Ytjngnigelkgekaa.Plain Go.Proofs.Ytjngnigelkgekaa.Disk Go.Proofs.Ytjngnigelkgekaa.Root
section
variable {H : Type} {enc : TypeId × Value → H} {W : World} {base : Nat} {held : Bool}
set_option maxRecDepth 100000 in
theorem rows_open {a : Option Addr} {len cap : Nat} {d : DataW H} {p : List MemPlace} (h : DataW.Trod enc Try.prog W base (fun _ => true) held 22 (.slice a len cap) d p) : ∃ xs : List (List Int), len ≤ cap ∧ K2.C W a len xs ∧ ∀ x ∈ xs, Bytes x := by
  refine slice_open (d := K2) Try.underlying22 (by kernel_rfl) (fun cs fuel y hl ht => ?_) h
  match cs, hl with
  | [u0], _ =>
    obtain ⟨B, m, c, bs, rfl, h1, h2, h3⟩ := slice_cell (d := Kd.int .u8) (Q := fun x => 0 ≤ x ∧ x ≤ 255) Try.underlying30 (by kernel_rfl) (fun cs fuel y _ ht => by
      obtain ⟨n, e, hw⟩ := int_cell Try.underlying5 ht
      exact ⟨n, e, u8_wf hw⟩) ht
    obtain rfl := h2.1
    exact ⟨bs, ⟨B, c, rfl, h1, h2⟩, h3⟩
end
abbrev KStr : Kd ByteArray := Kd.scalar Value.string (fun _ => rfl)
theorem infoStr : (Try.prog.info? 9).map (fun i => (i.zero, i.size, i.bytes)) = some (some (.string ⟨#[]⟩), 1, 16) := by kernel_rfl
theorem makeS : ∀ W : World, (Instr.makeSlice 29 (.int .i64 5) (.int .i64 5)).run Try.prog W = .ok (.slice (some ⟨W.heap.size, 0, none⟩) 5 5) (W.alloc (.cells (madeCells #[.string ⟨#[]⟩] 5) 9)) :=
  print_make_of (P := Try.prog) 29 9 (.string ⟨#[]⟩) 16 Try.underlying29 infoStr rfl (by decide) 5 (by omega)
theorem mayB {m p : Nat} (h1 : 1 ≤ m) (h2 : m ≤ 6) (hp : p < 5) : mayF 14 (m : Int) 5 3 (p : Int) = true := by
  unfold mayF rightR
  rw [decide_eq_true (by omega), decide_eq_true (by omega), decide_eq_true (by omega)]
  rfl
def wsOf (zz : List Int) (m : Nat) (wt : Wt) : List ByteArray := (List.range 5).map (fun p : Nat => strOfNums (pageF 14 zz wt (m : Int) 5 3 (p : Int)))
theorem wsOf_len (zz : List Int) (m : Nat) (wt : Wt) : (wsOf zz m wt).length = 5 := by simp [wsOf]
theorem wsOf_at (zz : List Int) (m : Nat) (wt : Wt) {p : Nat} (hp : p < 5) : (wsOf zz m wt).getD p ⟨#[]⟩ = strOfNums (pageF 14 zz wt (m : Int) 5 3 (p : Int)) := by
  rw [List.getD_eq_getElem?_getD]; unfold wsOf; rw [List.getElem?_map, List.getElem?_range hp]; rfl
theorem at_ne {m p q : Nat} (h : p ≠ q) : atF (m : Int) (p : Int) ≠ atF (m : Int) (q : Int) := by unfold atF; omega
theorem wsOf_put (zz x : List Int) {m : Nat} (wt : Wt) (h1 : 1 ≤ m) (h2 : m ≤ 6) {p : Nat} (hp : p < 5) (hx : x.length = 64) : wsOf zz m (putP 14 wt (m : Int) 5 3 (p : Int) x) = (wsOf zz m wt).set p (strOfNums x) := by
  apply List.ext_getElem?
  intro q
  by_cases hq : q < 5
  · unfold wsOf
    rw [List.getElem?_set]
    by_cases hpq : p = q
    · subst hpq
      rw [if_pos rfl, if_pos (by simp; exact hp), List.getElem?_map, List.getElem?_range hp]
      show some (strOfNums _) = _
      have hA := home_at (mayB h1 h2 hp)
      unfold pageF putP
      rw [if_pos (mayB h1 h2 hp), if_pos (mayB h1 h2 hp), secF_same hA.2 hx]
    · rw [if_neg hpq, List.getElem?_map, List.getElem?_map, List.getElem?_range hq]
      show some (strOfNums _) = some (strOfNums _)
      unfold pageF putP
      rw [if_pos (mayB h1 h2 hq), if_pos (mayB h1 h2 hq), if_pos (mayB h1 h2 hp), secF_other (at_ne (fun h => hpq h.symm))]
  · rw [List.getElem?_eq_none (by rw [wsOf_len]; omega), List.getElem?_eq_none (by rw [List.length_set, wsOf_len]; omega)]
theorem wsOf_none {m : Nat} (h1 : 1 ≤ m) (h2 : m ≤ 6) : wsOf (List.replicate (14 * 64) 0) m (fun _ => none) = List.replicate 5 (strOfNums (List.replicate 64 0)) := by
  apply List.ext_getElem?
  intro q
  by_cases hq : q < 5
  · unfold wsOf
    rw [List.getElem?_map, List.getElem?_range hq, List.getElem?_replicate, if_pos hq]
    show some (strOfNums _) = _
    have hA := home_at (mayB h1 h2 hq)
    unfold pageF secF
    rw [if_pos (mayB h1 h2 hq), if_pos hA.2]
    show some (strOfNums (sec (List.replicate (14 * 64) 0) _)) = _
    rw [sec_zero hA.2]
  · rw [List.getElem?_eq_none (by rw [wsOf_len]; omega), List.getElem?_eq_none (by rw [List.length_replicate]; omega)]
theorem put_low {wt : Wt} {m p : Nat} {x : List Int} (h1 : 1 ≤ m) (h2 : m ≤ 6) (hp : p < 5) (h : ∀ k, k < 2 + m → wt k = none) : ∀ k, k < 2 + m → putP 14 wt (m : Int) 5 3 (p : Int) x k = none := by
  intro k hk
  unfold putP putW
  rw [if_pos (mayB h1 h2 hp)]
  have hA : atF (m : Int) (p : Int) = 2 + m + p := by unfold atF; omega
  split
  · dsimp only
    rw [if_neg (by omega)]
    exact h k hk
  · exact h k hk
theorem put_lens {wt : Wt} {m p : Nat} {x : List Int} (h1 : 1 ≤ m) (h2 : m ≤ 6) (hp : p < 5) (h : ∀ i b, wt i = some b → b.length = 64) : ∀ i b, putP 14 wt (m : Int) 5 3 (p : Int) x i = some b → b.length = 64 := by
  unfold putP
  rw [if_pos (mayB h1 h2 hp)]
  exact putW_len h
theorem flushed_low {n m : Nat} {wt : Wt} (hm : m ≤ n) (hw : ∀ i b, wt i = some b → b.length = 64) (h : ∀ k, k < m → wt k = none) : (flushed (List.replicate (n * 64) 0) wt).take (m * 64) = List.replicate (m * 64) 0 := by
  have hl : (List.replicate (n * 64) (0 : Int)).length = 64 * n := by rw [List.length_replicate]; omega
  unfold flushed
  rw [hl, show 64 * n / 64 = n by omega]
  apply List.ext_getElem?
  intro q
  rw [List.getElem?_take]
  by_cases hq : q < m * 64
  · rw [if_pos hq, secs_get (fun i hi => Ref.got_len hl hw hi), if_pos (by omega), h _ (show q / 64 < m by omega)]
    show (sec _ (q / 64))[q % 64]? = _
    rw [sec_zero (show q / 64 < n by omega), List.getElem?_replicate, List.getElem?_replicate, if_pos (by omega), if_pos hq]
  · rw [if_neg hq, List.getElem?_eq_none (by rw [List.length_replicate]; omega)]
theorem five_set (s e : ByteArray) {j : Nat} (hj : j < 5) : (List.replicate j s ++ List.replicate (5 - j) e).set j s = List.replicate (j + 1) s ++ List.replicate (5 - (j + 1)) e := by
  rcases (show j = 0 ∨ j = 1 ∨ j = 2 ∨ j = 3 ∨ j = 4 by omega) with rfl | rfl | rfl | rfl | rfl <;> rfl
set_option maxHeartbeats 3200000 in
set_option maxRecDepth 100000 in
theorem homeBack_ {A0 : Option Addr} {n0 c0 : Nat} {ls : List (List Int)} {log : Int} {w : World} (h0 : K2.C w A0 n0 ls) :
    Calls Try.prog 3 #[.slice A0 n0 c0, .int .i64 log] w fun e w' => e = .returned (.bool true) ∧ Below w.heap.size w w' := by
  have H0 := Aside0.mk h0
  have hm0 : n0 ≤ 9223372036854775807 := h0.2.1
  have hin := Book.withinF_in (n := log) (lo := 1) (hi := 6) (by decide)
  obtain ⟨m, hm⟩ := Int.eq_ofNat_of_zero_le (show 0 ≤ Book.withinF log 1 6 by omega)
  have m1 : 1 ≤ m := by omega
  have m2 : m ≤ 6 := by omega
  have HM := Aside0.mk hm
  have hmk2 : ∀ W : World, (Instr.makeSlice 30 (.int .i64 64) (.int .i64 64)).run Try.prog W = .ok (.slice (some ⟨W.heap.size, 0, none⟩) 64 64) (W.alloc (.cells (madeCells #[.int .u8 0] 64) 5)) := make_ (m := 64) (by omega)
  have hmkS := makeS
  obtain ⟨M, hM0, hM1, hM2⟩ : ∃ M, M ≤ n0 ∧ M ≤ 12 ∧ (M = n0 ∨ M = 12) := ⟨min n0 12, by omega, by omega, by omega⟩
  clear h0 hin hm
  go_enter Try.func3, Try.ntmps3
  go_wp2_with fail
  refine (Book.within_ log 1 6 _ (by decide) (by decide) (by decide)).mono ?_
  rintro e w_ ⟨rfl, rfl⟩
  rw [HM.out]
  have A1 := Aside0.mk ((Sep.start w).newBlk 26 #[.int .i64 (m : Int), .int .i64 5, .int .u32 3])
  go_wp2_with fail
  refine (new_ok (n := 14) (by decide) (by decide)).mono ?_
  rintro e w2 ⟨g, rfl, hS2⟩
  have A2 := Aside0.mk (A1.out.lift1 hS2)
  have HZL : Aside0 ((List.replicate (14 * 64) (0 : Int)).length = 64 * 14) := ⟨by rw [List.length_replicate]⟩
  have HWN := Aside0.mk (wsOf_none m1 m2)
  have HFL : Aside0 (∀ wt : Wt, (∀ i b, wt i = some b → b.length = 64) → (∀ k, k < 2 + m → wt k = none) → (flushed (List.replicate (14 * 64) 0) wt).take ((2 + m) * 64) = List.replicate ((2 + m) * 64) 0) := ⟨fun wt hw h => flushed_low (by omega) hw h⟩
  clear hS2
  generalize List.replicate (14 * 64) (0 : Int) = zz at *
  obtain ⟨sz, hsz⟩ : ∃ s, strOfNums (List.replicate 64 0) = s := ⟨_, rfl⟩
  rw [hsz] at HWN
  have HSZ := Aside0.mk hsz
  clear hsz
  have A3 : Aside0 (Sep w (w2.alloc (.cells (madeCells #[.string ⟨#[]⟩] 5) 9)) [Row KStr 9 (.slice (some ⟨w2.heap.size, 0, none⟩) 5 5) (List.replicate 5 ⟨#[]⟩), Dsk g zz (fun _ => none), Blk w.heap.size 26 #[.int .i64 (m : Int), .int .i64 5, .int .u32 3]]) := ⟨A2.out.madeRow (h1 := fun _ => rfl) (e := 9) (enc := Value.string) (⟨#[]⟩ : ByteArray) 5 (by omega)⟩
  go_wp2_with fail
  clear hmkS
  go_loopg [25] 5 (fun m_ v wr => ∃ j : Nat, v = .int .i64 (j : Int) ∧ j + m_ = 5 ∧ Sep w wr [Row KStr 9 (.slice (some ⟨w2.heap.size, 0, none⟩) 5 5) (List.replicate j sz ++ List.replicate (5 - j) ⟨#[]⟩), Dsk g zz (fun _ => none), Blk w.heap.size 26 #[.int .i64 (m : Int), .int .i64 5, .int .u32 3]])
  case atStart => exact ⟨0, rfl, rfl, A3.out⟩
  case round =>
    obtain ⟨j, rfl, hjm, hS⟩ := hrel
    have AK := Aside0.mk hjm
    have AS := Aside0.mk hS
    clear hjm
    by_cases cj : j < 5
    case pos =>
      have hjl : (j : Int) < 5 := by omega
      have hjld : decide ((j : Int) < 5) = true := decide_eq_true hjl
      have L1 := madeB 64 hS (by omega)
      have hs1 := Str.strC (c := 64) L1.rowC'
      rw [HSZ.out] at hs1
      obtain ⟨e1, e2⟩ := L1.at2.rowCell (enc := Value.string) ⟨#[]⟩ j cj
      have L2 := Aside0.mk (L1.at2.putRow (enc := Value.string) j sz)
      have HF := Aside0.mk (five_set sz ⟨#[]⟩ cj)
      clear hS L1
      generalize (List.replicate j sz ++ List.replicate (5 - j) (⟨#[]⟩ : ByteArray)).getD j ⟨#[]⟩ = u at e1
      go_wp2_with fail
      go_roundg (gk - 1)
      case measure => have := AK.out; omega
      case rel => exact ⟨j + 1, by go_num, by have := AK.out; omega, by have h := L2.out.drop2; rw [HF.out] at h; exact h⟩
    case neg =>
    obtain rfl : j = 5 := by have := AK.out; omega
    have hjld : decide (((5 : Nat) : Int) < 5) = false := rfl
    have AS2 : Aside0 (Sep w wr [Row KStr 9 (.slice (some ⟨w2.heap.size, 0, none⟩) 5 5) (wsOf zz m (fun _ => none)), Dsk g zz (fun _ => none), Blk w.heap.size 26 #[.int .i64 (m : Int), .int .i64 5, .int .u32 3]]) := ⟨by rw [HWN.out]; have h := hS; simpa using h⟩
    clear hS AS
    go_wp2_with fail
    go_loopg [9] M (fun m_ v wr => ∃ (j : Nat) (wt : Wt), v = .int .i64 (j : Int) ∧ j + m_ = M ∧ (∀ i b, wt i = some b → b.length = 64) ∧ (∀ k, k < 2 + m → wt k = none) ∧ Sep w wr [Row KStr 9 (.slice (some ⟨w2.heap.size, 0, none⟩) 5 5) (wsOf zz m wt), Dsk g zz wt, Blk w.heap.size 26 #[.int .i64 (m : Int), .int .i64 5, .int .u32 3]])
    case atStart => exact ⟨0, _, rfl, by omega, Ref.none_len, fun _ _ => rfl, AS2.out⟩
    case round =>
      obtain ⟨j, wt, rfl, hjm, hw, hlow, hS⟩ := hrel
      have AK := Aside0.mk hjm
      have AS := Aside0.mk hS
      have HW := Aside0.mk (And.intro hw hlow)
      clear hS hw hlow
      by_cases cj : j < M
      case pos =>
        have hj0 : (j : Int) < (n0 : Int) := by omega
        have hj0d : decide ((j : Int) < (n0 : Int)) = true := decide_eq_true hj0
        have hj1 : (j : Int) < 12 := by omega
        obtain ⟨p, hp⟩ : ∃ p, j % 5 = p := ⟨_, rfl⟩
        have hp5 : p < 5 := by omega
        have hpm : (j : Int).tmod 5 = (p : Int) := by rw [Int.tmod_eq_emod_of_nonneg (by omega)]; omega
        have hpm2 : (j : Int) % 5 = (p : Int) := by omega
        obtain ⟨hx, ad, B, cb, rfl, f1, f2⟩ := K2_at H0.out (j := j) (by omega)
        generalize ls[j] = x at *
        have HX := Aside0.mk f2
        have L1 := Aside0.mk (madeB 64 AS.out (by omega))
        have z1 := cell_later L1.out.toBelow f1
        generalize hnx : x.length = nx at *
        have HNX := Aside0.mk hnx
        have HY : Aside0 ((over (List.replicate 64 (0 : Int)) 0 (x.take 64)).length = 64) := ⟨by rw [over_len (by simp; omega), List.length_replicate]⟩
        clear hjm f1 f2 hp hnx
        go_wp2_with (first | (refine gate_builtin (b := .copy) (xs := #[.tmp 45, .tmp 49]) rfl ?_; refine L1.out.copyRow rfl (.tmp 45) (.tmp 49) rfl Try.underlying30 size1 (o := 0) (n' := 64) (c' := 64) (m := nx) (c := cb) (A := B) (ys := x) rfl rfl (Kd.C_below HX.out L1.out.toBelow) (by omega) ?_; intro W5 hS5; have B5 := Aside0.mk hS5; clear hS5 z1; have z0 := (B5.out.at4.cell 0).trans rfl; have z1 := (B5.out.at4.cell 1).trans rfl; have z2 := (B5.out.at4.cell 2).trans rfl))
        generalize over (List.replicate 64 (0 : Int)) 0 (x.take 64) = y at B5 HY
        replace B5 : Aside0 (Sep w W5 [Dsk g zz wt, Row U8 5 (.slice (some ⟨wr.heap.size, 0, none⟩) 64 64) y, Row KStr 9 (.slice (some ⟨w2.heap.size, 0, none⟩) 5 5) (wsOf zz m wt), Blk w.heap.size 26 #[.int .i64 (m : Int), .int .i64 5, .int .u32 3]]) := ⟨B5.out.at3⟩
        refine (put_ (n := 14) (x := y) B5.out HZL.out (by decide) (m : Int) 5 3 (p : Int) (fun W' hW => hW.rowC') (Nat.le_refl _)).mono ?_
        rintro e w6 ⟨rfl, hS6⟩
        rw [mayB m1 m2 hp5, decide_eq_true HY.out, Bool.true_and]
        have HWS := Aside0.mk (wsOf_put zz y wt m1 m2 hp5 HY.out)
        have HW2 := Aside0.mk (And.intro (put_lens (x := y) m1 m2 hp5 HW.out.1) (put_low (x := y) m1 m2 hp5 HW.out.2))
        have hs6 := Str.strC (c := 64) hS6.at2.rowC'
        obtain ⟨sy, hsy⟩ : ∃ s, strOfNums y = s := ⟨_, rfl⟩
        rw [hsy] at hs6 HWS
        obtain ⟨e1, e2⟩ := hS6.at3.rowCell (enc := Value.string) ⟨#[]⟩ p hp5
        have B6 := Aside0.mk (hS6.at3.putRow (enc := Value.string) p sy)
        have hpl : (p : Int) < 5 := by omega
        generalize (wsOf zz m wt).getD p ⟨#[]⟩ = u at e1
        clear hS6 hsy z0 z1 z2
        go_wp2_with fail
        go_roundg (gk - 1)
        case measure => have := AK.out; omega
        case rel => exact ⟨j + 1, _, by go_num, by have := AK.out; omega, HW2.out.1, HW2.out.2, by rw [HWS.out]; exact B6.out.at3.tail⟩
      case neg =>
      obtain rfl : j = M := by omega
      have hcond : ¬ (j < n0 ∧ j < 12) := by omega
      have hex : ((j : Int) < (n0 : Int)) = False ∨ (((j : Int) < (n0 : Int)) = True ∧ ((j : Int) < 12) = False) := by
        by_cases h : j < n0
        · exact .inr ⟨eq_true (by omega), eq_false (by omega)⟩
        · exact .inl (eq_false (by omega))
      have HEX := Aside0.mk hex
      clear hex hcond hjm AK
      rcases HEX.out with hb1 | ⟨hb1, hb2⟩
      · clear HEX
        have z0 := (AS.out.at3.cell 0).trans rfl
        have z1 := (AS.out.at3.cell 1).trans rfl
        have z2 := (AS.out.at3.cell 2).trans rfl
        go_wp2_with fail
        refine (all_ (n := 14) AS.out.at2 HZL.out (m : Int) 5 3).mono ?_
        rintro e w7 ⟨v7, rfl, hS7⟩
        have HPG : Aside0 (pagesF 14 zz wt (m : Int) 5 3 = (List.range 5).map (fun i : Nat => pageF 14 zz wt (m : Int) 5 3 (i : Int))) := ⟨by
          unfold pagesF
          rw [if_pos (by unfold rightR; exact decide_eq_true (by omega))]
          rfl⟩
        rw [HPG.out] at hS7
        obtain ⟨A7, c7, rfl⟩ := hS7.rowN (n := 5) (by simp)
        have B7 := Aside0.mk hS7
        clear hS7 z0 z1 z2 hb1
        go_wp2_with fail
        go_loopg [72] 5 (fun m_ v wr => ∃ i : Nat, v = .int .i64 (i : Int) ∧ i + m_ = 5 ∧ Sep w wr [Row K2 30 (.slice A7 5 c7) ((List.range 5).map (fun i : Nat => pageF 14 zz wt (m : Int) 5 3 (i : Int))), Dsk g zz wt, Row KStr 9 (.slice (some ⟨w2.heap.size, 0, none⟩) 5 5) (wsOf zz m wt), Blk w.heap.size 26 #[.int .i64 (m : Int), .int .i64 5, .int .u32 3]])
        case atStart => exact ⟨0, rfl, rfl, B7.out⟩
        case round =>
          obtain ⟨i, rfl, him, hS⟩ := hrel
          have AK := Aside0.mk him
          have AS3 := Aside0.mk hS
          clear him hS
          by_cases ci : i < 5
          case pos =>
            have hil : (i : Int) < 5 := by omega
            have hild : decide ((i : Int) < 5) = true := decide_eq_true hil
            have z0 := (AS3.out.at4.cell 0).trans rfl
            have z1 := (AS3.out.at4.cell 1).trans rfl
            have z2 := (AS3.out.at4.cell 2).trans rfl
            go_wp2_with fail
            refine (page_ (n := 14) AS3.out.at2 HZL.out (m : Int) 5 3 (i : Int)).mono ?_
            rintro e w8 ⟨v8, rfl, hS8⟩
            rw [mayB m1 m2 ci]
            obtain ⟨A8, c8, rfl⟩ := hS8.rowV
            have B8 := Aside0.mk hS8
            obtain ⟨hx, ad, B, cb, rfl, f1, f2⟩ := K2_at hS8.at3.rowC' ci
            have hxv : ((List.range 5).map (fun i : Nat => pageF 14 zz wt (m : Int) 5 3 (i : Int)))[i] = pageF 14 zz wt (m : Int) 5 3 (i : Int) := by simp
            rw [hxv] at f1 f2
            have f3 := (hS8.at4.rowCell (enc := Value.string) ⟨#[]⟩ i ci).1
            rw [wsOf_at zz m wt ci] at f3
            have f4 := hS8.rowC'
            have u1 := fun q => cell_later (pw_below_drewN (Below.refl w8.heap.size w8) q) f1
            have u2 := fun q => Str.strC (c := cb) (Kd.C_below f2 (pw_below_drewN (Below.refl w8.heap.size w8) q))
            have u3 := fun q => cell_later (pw_below_drewN (Below.refl w8.heap.size w8) q) f3
            have u4 := fun q => Str.strC (c := c8) (Kd.C_below f4 (pw_below_drewN (Below.refl w8.heap.size w8) q))
            obtain ⟨sx, hsx⟩ : ∃ s, strOfNums (pageF 14 zz wt (m : Int) 5 3 (i : Int)) = s := ⟨_, rfl⟩
            rw [hsx] at u2 u3 u4
            generalize (pageF 14 zz wt (m : Int) 5 3 (i : Int)).length = nx at *
            have hss : (sx.toList == sx.toList) = true := by simp
            clear hS8 hsx hxv f1 f2 f3 f4 z0 z1 z2
            go_wp2_with fail
            go_quiet (fail)
            go_wp2_with fail
            go_roundg (gk - 1)
            case measure => have := AK.out; omega
            case rel => exact ⟨i + 1, by go_num, by have := AK.out; omega, (B8.out.drewN _).tail.at2⟩
          case neg =>
          have hil : ¬ (i : Int) < 5 := by omega
          have hild : decide ((i : Int) < 5) = false := decide_eq_false hil
          go_wp2_with fail
          refine (seen_ AS3.out.at2).mono ?_
          rintro e w9 ⟨v9, rfl, hS9⟩
          have HFT := Aside0.mk (HFL.out wt HW.out.1 HW.out.2)
          have HFN : Aside0 ((flushed zz wt).length = 896) := ⟨Ref.flushed_len (n := 14) HZL.out HW.out.1⟩
          obtain ⟨A9, c9, rfl⟩ := hS9.rowN (n := 896) HFN.out
          have B9 := Aside0.mk hS9.drew
          have hc9 := hS9.rowC.2.1
          obtain ⟨J, hJ⟩ : ∃ J, (2 + m) * 64 = J := ⟨_, rfl⟩
          rw [hJ] at HFT
          have hJi : ((2 : Int) + (m : Int)) * 64 = (J : Int) := by omega
          have hw1 : wrap64 (2 + (m : Int)) = 2 + (m : Int) := IntWalk.wrap64_in _ (by omega)
          have hw2 : wrap64 ((2 + (m : Int)) * 64) = (J : Int) := by rw [IntWalk.wrap64_in _ (by omega)]; exact hJi
          have hwJ : wrap64 (J : Int) = (J : Int) := IntWalk.wrap64_in _ (by omega)
          have hcut := cutHi (z := .int .u8 0) (bytes := 1) Try.underlying30 Base.infoB A9 896 c9 J (K := (J : Int)) rfl (by omega) hc9
          have HCT : Aside0 (∀ W : World, U8.C W A9 896 (flushed zz wt) → U8.C W A9 J (List.replicate J 0)) := ⟨fun W hW => by have := C_hi (b := J) hW (by omega) hc9; rw [HFT.out] at this; exact this⟩
          have hmkJ : ∀ W : World, (Instr.makeSlice 30 (.int .i64 (J : Int)) (.int .i64 (J : Int))).run Try.prog W = .ok (.slice (some ⟨W.heap.size, 0, none⟩) J J) (W.alloc (.cells (madeCells #[.int .u8 0] J) 5)) := make_ (m := J) (by omega)
          have hJ1 : J ≤ 512 := by omega
          obtain ⟨sj, hsj⟩ : ∃ s, strOfNums (List.replicate J 0) = s := ⟨_, rfl⟩
          have HSJ := Aside0.mk hsj
          have hss : (sj.toList == sj.toList) = true := by simp
          clear hS9 hJ hsj
          go_wp2_with fail
          refine start_ (n := 23) (S := fun w' => w'.cell? ⟨w.heap.size, 0, none⟩ = some (.int .i64 (m : Int)) ∧ (convert 30 9 (.slice A9 J c9)).run Try.prog w' = .ok (.string sj) w') (ds := [20]) #[false, false, false, false, false, false, false, false, false, false, false, false, false, false, false, false, false, false, false, false, false, false, false] (by kernel_rfl) rfl rfl ⟨(B9.out.at5.cell 0).trans rfl, (by rw [← HSJ.out]; exact Str.strC (c := c9) (HCT.out _ B9.out.rowC'))⟩ (fun hHeld => ?_)
          refine pure_ (i := 0) (N := some 108) (v := ?_) (a' := ?_) #[true, false, false, false, false, false, false, false, false, false, false, false, false, false, false, false, false, false, false, false, false, false, false] rfl rfl (by kernel_rfl) (fun _ _ _ h => h) (Or.inl ⟨by rfl, ?_⟩) ?_ ?_
          rotate_left
          · intro w'
            go_simp
            with_reducible rfl
          rotate_left
          · simp only [Act.put, List.setIfInBounds_toArray, List.set_cons_zero, List.set_cons_succ, i64_w, i32_w]
            rfl
          refine pure_ (i := 1) (N := some 109) (v := ?_) (a' := ?_) #[true, true, false, false, false, false, false, false, false, false, false, false, false, false, false, false, false, false, false, false, false, false, false] rfl rfl (by kernel_rfl) (fun _ _ _ h => h) (Or.inl ⟨by rfl, ?_⟩) ?_ ?_
          rotate_left
          · intro w'
            go_simp
            with_reducible rfl
          rotate_left
          · simp only [Act.put, List.setIfInBounds_toArray, List.set_cons_zero, List.set_cons_succ, i64_w, i32_w]
            rfl
          refine pure_ (i := 2) (N := some 110) (v := ?_) (a' := ?_) #[true, true, true, false, false, false, false, false, false, false, false, false, false, false, false, false, false, false, false, false, false, false, false] rfl rfl (by kernel_rfl) (fun _ _ _ h => h) (Or.inl ⟨by rfl, ?_⟩) ?_ ?_
          rotate_left
          · intro w'
            go_simp
            with_reducible rfl
          rotate_left
          · simp only [Act.put, List.setIfInBounds_toArray, List.set_cons_zero, List.set_cons_succ, i64_w, i32_w]
            rfl
          refine pure_ (i := 3) (N := some 111) (v := ?_) (a' := ?_) #[true, true, true, true, false, false, false, false, false, false, false, false, false, false, false, false, false, false, false, false, false, false, false] rfl rfl (by kernel_rfl) (fun _ _ _ h => h) (Or.inl ⟨by rfl, ?_⟩) ?_ ?_
          rotate_left
          · intro w'
            go_simp
            with_reducible rfl
          rotate_left
          · simp only [Act.put, List.setIfInBounds_toArray, List.set_cons_zero, List.set_cons_succ, i64_w, i32_w]
            rfl
          refine pure_ (i := 4) (N := some 112) (v := ?_) (a' := ?_) #[true, true, true, true, true, false, false, false, false, false, false, false, false, false, false, false, false, false, false, false, false, false, false] rfl rfl (by kernel_rfl) (fun _ _ _ h => h) (Or.inl ⟨by rfl, ?_⟩) ?_ ?_
          rotate_left
          · intro w'
            go_simp
            with_reducible rfl
          rotate_left
          · simp only [Act.put, List.setIfInBounds_toArray, List.set_cons_zero, List.set_cons_succ, i64_w, i32_w]
            rfl
          refine pure_ (i := 5) (N := some 113) (v := ?_) (a' := ?_) #[true, true, true, true, true, true, false, false, false, false, false, false, false, false, false, false, false, false, false, false, false, false, false] rfl rfl (by kernel_rfl) (fun _ _ _ h => h) (Or.inl ⟨by rfl, ?_⟩) ?_ ?_
          rotate_left
          · intro w'
            go_simp
            with_reducible rfl
          rotate_left
          · simp only [Act.put, List.setIfInBounds_toArray, List.set_cons_zero, List.set_cons_succ, i64_w, i32_w]
            rfl
          refine pure_ (i := 11) (N := some 119) (v := ?_) (a' := ?_) #[true, true, true, true, true, true, false, false, false, false, false, true, false, false, false, false, false, false, false, false, false, false, false] rfl rfl (by kernel_rfl) (fun _ _ _ h => h) (Or.inl ⟨by rfl, ?_⟩) ?_ ?_
          rotate_left
          · intro w'
            go_simp
            with_reducible rfl
          rotate_left
          · simp only [Act.put, List.setIfInBounds_toArray, List.set_cons_zero, List.set_cons_succ, i64_w, i32_w]
            rfl
          refine take_ (i := 6) (N := some 114) (v := ?_) (a' := ?_) #[true, true, true, true, true, true, true, false, false, false, false, true, false, false, false, false, false, false, false, false, false, false, false] rfl rfl (by kernel_rfl) (fun _ _ _ h => h) (Or.inl ⟨by rfl, ?_⟩) hHeld ?_ ?_
          rotate_left
          · rintro w' ⟨s0, s1⟩
            go_simp
            with_reducible rfl
          rotate_left
          · simp only [Act.put, List.setIfInBounds_toArray, List.set_cons_zero, List.set_cons_succ, i64_w, i32_w]
            rfl
          refine pure_ (i := 7) (N := some 115) (v := ?_) (a' := ?_) #[true, true, true, true, true, true, true, true, false, false, false, true, false, false, false, false, false, false, false, false, false, false, false] rfl rfl (by kernel_rfl) (fun _ _ _ h => h) (Or.inl ⟨by rfl, ?_⟩) ?_ ?_
          rotate_left
          · intro w'
            go_simp
            with_reducible rfl
          rotate_left
          · simp only [Act.put, List.setIfInBounds_toArray, List.set_cons_zero, List.set_cons_succ, i64_w, i32_w]
            rfl
          refine pure_ (i := 8) (N := some 116) (v := ?_) (a' := ?_) #[true, true, true, true, true, true, true, true, true, false, false, true, false, false, false, false, false, false, false, false, false, false, false] rfl rfl (by kernel_rfl) (fun _ _ _ h => h) (Or.inl ⟨by rfl, ?_⟩) ?_ ?_
          rotate_left
          · intro w'
            go_simp
            with_reducible rfl
          rotate_left
          · simp only [Act.put, List.setIfInBounds_toArray, List.set_cons_zero, List.set_cons_succ, i64_w, i32_w]
            rfl
          refine pure_ (i := 9) (N := some 117) (v := ?_) (a' := ?_) #[true, true, true, true, true, true, true, true, true, true, false, true, false, false, false, false, false, false, false, false, false, false, false] rfl rfl (by kernel_rfl) (fun _ _ _ h => h) (Or.inl ⟨by rfl, ?_⟩) ?_ ?_
          rotate_left
          · intro w'
            go_simp
            with_reducible rfl
          rotate_left
          · simp only [Act.put, List.setIfInBounds_toArray, List.set_cons_zero, List.set_cons_succ, i64_w, i32_w]
            rfl
          refine take_ (i := 10) (N := some 118) (v := ?_) (a' := ?_) #[true, true, true, true, true, true, true, true, true, true, true, true, false, false, false, false, false, false, false, false, false, false, false] rfl rfl (by kernel_rfl) (fun _ _ _ h => h) (Or.inl ⟨by rfl, ?_⟩) hHeld ?_ ?_
          rotate_left
          · rintro w' ⟨s0, s1⟩
            go_simp
            with_reducible rfl
          rotate_left
          · simp only [Act.put, List.setIfInBounds_toArray, List.set_cons_zero, List.set_cons_succ, i64_w, i32_w]
            rfl
          refine take_ (i := 12) (N := some 120) (v := ?_) (a' := ?_) #[true, true, true, true, true, true, true, true, true, true, true, true, true, false, false, false, false, false, false, false, false, false, false] rfl rfl (by kernel_rfl) (fun _ _ _ h => h) (Or.inl ⟨by rfl, ?_⟩) hHeld ?_ ?_
          rotate_left
          · rintro w' ⟨s0, s1⟩
            go_simp
            with_reducible rfl
          rotate_left
          · simp only [Act.put, List.setIfInBounds_toArray, List.set_cons_zero, List.set_cons_succ, i64_w, i32_w]
            rfl
          refine pure_ (i := 13) (N := some 121) (v := ?_) (a' := ?_) #[true, true, true, true, true, true, true, true, true, true, true, true, true, true, false, false, false, false, false, false, false, false, false] rfl rfl (by kernel_rfl) (fun _ _ _ h => h) (Or.inl ⟨by rfl, ?_⟩) ?_ ?_
          rotate_left
          · intro w'
            go_simp
            with_reducible rfl
          rotate_left
          · simp only [Act.put, List.setIfInBounds_toArray, List.set_cons_zero, List.set_cons_succ, i64_w, i32_w]
            rfl
          refine pure_ (i := 14) (N := some 122) (v := ?_) (a' := ?_) #[true, true, true, true, true, true, true, true, true, true, true, true, true, true, true, false, false, false, false, false, false, false, false] rfl rfl (by kernel_rfl) (fun _ _ _ h => h) (Or.inl ⟨by rfl, ?_⟩) ?_ ?_
          rotate_left
          · intro w'
            go_simp
            with_reducible rfl
          rotate_left
          · simp only [Act.put, List.setIfInBounds_toArray, List.set_cons_zero, List.set_cons_succ, i64_w, i32_w]
            rfl
          refine one_ (i := 15) (N := some 123) #[true, true, true, true, true, true, true, true, true, true, true, true, true, true, true, true, false, false, false, false, false, false, false] rfl rfl (by kernel_rfl) (by decide) (fun K hK => ?_)
          refine value_ (w1 := ?_) (v := ?_) (by rfl) rfl ?_ ?_
          rotate_left 2
          · go_simp
            constructor
            · rfl
            · rfl
          have B10 := Aside0.mk (madeB J B9.out (by omega))
          have hs10 := Str.strC (c := J) B10.out.rowC'
          rw [HSJ.out] at hs10
          rw [show w9.drew.alloc (.cells (madeCells #[.int .u8 0] J) 5) = (w9.alloc (.cells (madeCells #[.int .u8 0] J) 5)).drew from rfl, show w9.drew.heap.size = w9.heap.size from rfl] at hs10
          refine hK.out _ _ ⟨(B10.out.tail.at5.cell 0).trans rfl, (by rw [← HSJ.out]; exact Str.strC (c := c9) (HCT.out _ B10.out.at2.rowC'))⟩ (fun hHeld => ?_)
          clear hK K
          refine norm_ (a' := ?_) ?_ ?_
          rotate_left
          · show Act.put _ (some 123) _ = _
            simp only [Act.put, List.setIfInBounds_toArray, List.set_cons_zero, List.set_cons_succ, i64_w, i32_w]
            rfl
          refine one_ (i := 16) (N := some 124) #[true, true, true, true, true, true, true, true, true, true, true, true, true, true, true, true, true, false, false, false, false, false, false] rfl rfl (by kernel_rfl) (by decide) (fun K hK => ?_)
          refine value_ (w1 := ?_) (v := ?_) (by rfl) rfl ?_ ?_
          rotate_left 2
          · go_simp
            constructor
            · rfl
            · rfl
          refine hK.out _ _ ⟨(B10.out.tail.at5.cell 0).trans rfl, (by rw [← HSJ.out]; exact Str.strC (c := c9) (HCT.out _ B10.out.at2.rowC'))⟩ (fun hHeld => ?_)
          clear hK K
          refine norm_ (a' := ?_) ?_ ?_
          rotate_left
          · show Act.put _ (some 124) _ = _
            simp only [Act.put, List.setIfInBounds_toArray, List.set_cons_zero, List.set_cons_succ, i64_w, i32_w]
            rfl
          refine pure_ (i := 17) (N := some 125) (v := ?_) (a' := ?_) #[true, true, true, true, true, true, true, true, true, true, true, true, true, true, true, true, true, true, false, false, false, false, false] rfl rfl (by kernel_rfl) (fun _ _ _ h => h) (Or.inl ⟨by rfl, ?_⟩) ?_ ?_
          rotate_left
          · intro w'
            go_simp
            with_reducible rfl
          rotate_left
          · simp only [Act.put, List.setIfInBounds_toArray, List.set_cons_zero, List.set_cons_succ, i64_w, i32_w]
            rfl
          refine pure_ (i := 18) (N := some 126) (v := ?_) (a' := ?_) #[true, true, true, true, true, true, true, true, true, true, true, true, true, true, true, true, true, true, true, false, false, false, false] rfl rfl (by kernel_rfl) (fun _ _ _ h => h) (Or.inl ⟨by rfl, ?_⟩) ?_ ?_
          rotate_left
          · intro w'
            go_simp
            with_reducible rfl
          rotate_left
          · simp only [Act.put, List.setIfInBounds_toArray, List.set_cons_zero, List.set_cons_succ, i64_w, i32_w]
            rfl
          refine pure_ (i := 19) (N := some 127) (v := ?_) (a' := ?_) #[true, true, true, true, true, true, true, true, true, true, true, true, true, true, true, true, true, true, true, true, false, false, false] rfl rfl (by kernel_rfl) (fun _ _ _ h => h) (Or.inl ⟨by rfl, ?_⟩) ?_ ?_
          rotate_left
          · intro w'
            go_simp
            with_reducible rfl
          rotate_left
          · simp only [Act.put, List.setIfInBounds_toArray, List.set_cons_zero, List.set_cons_succ, i64_w, i32_w]
            rfl
          refine last_ (i := 20) (N := some 128) #[true, true, true, true, true, true, true, true, true, true, true, true, true, true, true, true, true, true, true, true, true, false, false] rfl rfl (by kernel_rfl) (by decide) (fun K hK => ?_)
          refine goes_ Try.func25 (by kernel_rfl) rfl #[] (by rfl) rfl rfl (by simp) ?_
          with_reducible refine (known_ _).mono ?_
          rintro e w11 ⟨rfl, hb11⟩
          refine ⟨_, rfl, ?_⟩
          have B11 := Aside0.mk (B10.out.below hb11)
          clear hb11
          refine hK.out _ _ ?_
          clear hK K
          refine norm_ (a' := ?_) ?_ ?_
          rotate_left
          · show Act.put _ (some 128) _ = _
            simp only [Act.put, List.setIfInBounds_toArray, List.set_cons_zero, List.set_cons_succ, i64_w, i32_w]
            rfl
          refine pure_ (i := 21) (N := some 129) (v := ?_) (a' := ?_) #[true, true, true, true, true, true, true, true, true, true, true, true, true, true, true, true, true, true, true, true, true, true, false] rfl rfl (by kernel_rfl) (fun _ _ _ h => h) (Or.inl ⟨by rfl, ?_⟩) ?_ ?_
          rotate_left
          · intro w'
            go_simp
            with_reducible rfl
          rotate_left
          · simp only [Act.put, List.setIfInBounds_toArray, List.set_cons_zero, List.set_cons_succ, i64_w, i32_w]
            rfl
          refine pure_ (i := 22) (N := some 4) (v := ?_) (a' := ?_) #[true, true, true, true, true, true, true, true, true, true, true, true, true, true, true, true, true, true, true, true, true, true, true] rfl rfl (by kernel_rfl) (fun _ _ _ h => h) (Or.inl ⟨by rfl, ?_⟩) ?_ ?_
          rotate_left
          · intro w'
            go_simp
            with_reducible rfl
          rotate_left
          · simp only [Act.put, List.setIfInBounds_toArray, List.set_cons_zero, List.set_cons_succ, i64_w, i32_w]
            rfl
          refine done_ (by kernel_rfl) ?_
          go_wp2_with fail
          go_ret
          exact ⟨by first | rfl | (simp; done), B11.out.toBelow⟩
      · clear HEX
        have z0 := (AS.out.at3.cell 0).trans rfl
        have z1 := (AS.out.at3.cell 1).trans rfl
        have z2 := (AS.out.at3.cell 2).trans rfl
        go_wp2_with fail
        refine (all_ (n := 14) AS.out.at2 HZL.out (m : Int) 5 3).mono ?_
        rintro e w7 ⟨v7, rfl, hS7⟩
        have HPG : Aside0 (pagesF 14 zz wt (m : Int) 5 3 = (List.range 5).map (fun i : Nat => pageF 14 zz wt (m : Int) 5 3 (i : Int))) := ⟨by
          unfold pagesF
          rw [if_pos (by unfold rightR; exact decide_eq_true (by omega))]
          rfl⟩
        rw [HPG.out] at hS7
        obtain ⟨A7, c7, rfl⟩ := hS7.rowN (n := 5) (by simp)
        have B7 := Aside0.mk hS7
        clear hS7 z0 z1 z2 hb1
        go_wp2_with fail
        go_loopg [72] 5 (fun m_ v wr => ∃ i : Nat, v = .int .i64 (i : Int) ∧ i + m_ = 5 ∧ Sep w wr [Row K2 30 (.slice A7 5 c7) ((List.range 5).map (fun i : Nat => pageF 14 zz wt (m : Int) 5 3 (i : Int))), Dsk g zz wt, Row KStr 9 (.slice (some ⟨w2.heap.size, 0, none⟩) 5 5) (wsOf zz m wt), Blk w.heap.size 26 #[.int .i64 (m : Int), .int .i64 5, .int .u32 3]])
        case atStart => exact ⟨0, rfl, rfl, B7.out⟩
        case round =>
          obtain ⟨i, rfl, him, hS⟩ := hrel
          have AK := Aside0.mk him
          have AS3 := Aside0.mk hS
          clear him hS
          by_cases ci : i < 5
          case pos =>
            have hil : (i : Int) < 5 := by omega
            have hild : decide ((i : Int) < 5) = true := decide_eq_true hil
            have z0 := (AS3.out.at4.cell 0).trans rfl
            have z1 := (AS3.out.at4.cell 1).trans rfl
            have z2 := (AS3.out.at4.cell 2).trans rfl
            go_wp2_with fail
            refine (page_ (n := 14) AS3.out.at2 HZL.out (m : Int) 5 3 (i : Int)).mono ?_
            rintro e w8 ⟨v8, rfl, hS8⟩
            rw [mayB m1 m2 ci]
            obtain ⟨A8, c8, rfl⟩ := hS8.rowV
            have B8 := Aside0.mk hS8
            obtain ⟨hx, ad, B, cb, rfl, f1, f2⟩ := K2_at hS8.at3.rowC' ci
            have hxv : ((List.range 5).map (fun i : Nat => pageF 14 zz wt (m : Int) 5 3 (i : Int)))[i] = pageF 14 zz wt (m : Int) 5 3 (i : Int) := by simp
            rw [hxv] at f1 f2
            have f3 := (hS8.at4.rowCell (enc := Value.string) ⟨#[]⟩ i ci).1
            rw [wsOf_at zz m wt ci] at f3
            have f4 := hS8.rowC'
            have u1 := fun q => cell_later (pw_below_drewN (Below.refl w8.heap.size w8) q) f1
            have u2 := fun q => Str.strC (c := cb) (Kd.C_below f2 (pw_below_drewN (Below.refl w8.heap.size w8) q))
            have u3 := fun q => cell_later (pw_below_drewN (Below.refl w8.heap.size w8) q) f3
            have u4 := fun q => Str.strC (c := c8) (Kd.C_below f4 (pw_below_drewN (Below.refl w8.heap.size w8) q))
            obtain ⟨sx, hsx⟩ : ∃ s, strOfNums (pageF 14 zz wt (m : Int) 5 3 (i : Int)) = s := ⟨_, rfl⟩
            rw [hsx] at u2 u3 u4
            generalize (pageF 14 zz wt (m : Int) 5 3 (i : Int)).length = nx at *
            have hss : (sx.toList == sx.toList) = true := by simp
            clear hS8 hsx hxv f1 f2 f3 f4 z0 z1 z2
            go_wp2_with fail
            go_quiet (fail)
            go_wp2_with fail
            go_roundg (gk - 1)
            case measure => have := AK.out; omega
            case rel => exact ⟨i + 1, by go_num, by have := AK.out; omega, (B8.out.drewN _).tail.at2⟩
          case neg =>
          have hil : ¬ (i : Int) < 5 := by omega
          have hild : decide ((i : Int) < 5) = false := decide_eq_false hil
          go_wp2_with fail
          refine (seen_ AS3.out.at2).mono ?_
          rintro e w9 ⟨v9, rfl, hS9⟩
          have HFT := Aside0.mk (HFL.out wt HW.out.1 HW.out.2)
          have HFN : Aside0 ((flushed zz wt).length = 896) := ⟨Ref.flushed_len (n := 14) HZL.out HW.out.1⟩
          obtain ⟨A9, c9, rfl⟩ := hS9.rowN (n := 896) HFN.out
          have B9 := Aside0.mk hS9.drew
          have hc9 := hS9.rowC.2.1
          obtain ⟨J, hJ⟩ : ∃ J, (2 + m) * 64 = J := ⟨_, rfl⟩
          rw [hJ] at HFT
          have hJi : ((2 : Int) + (m : Int)) * 64 = (J : Int) := by omega
          have hw1 : wrap64 (2 + (m : Int)) = 2 + (m : Int) := IntWalk.wrap64_in _ (by omega)
          have hw2 : wrap64 ((2 + (m : Int)) * 64) = (J : Int) := by rw [IntWalk.wrap64_in _ (by omega)]; exact hJi
          have hwJ : wrap64 (J : Int) = (J : Int) := IntWalk.wrap64_in _ (by omega)
          have hcut := cutHi (z := .int .u8 0) (bytes := 1) Try.underlying30 Base.infoB A9 896 c9 J (K := (J : Int)) rfl (by omega) hc9
          have HCT : Aside0 (∀ W : World, U8.C W A9 896 (flushed zz wt) → U8.C W A9 J (List.replicate J 0)) := ⟨fun W hW => by have := C_hi (b := J) hW (by omega) hc9; rw [HFT.out] at this; exact this⟩
          have hmkJ : ∀ W : World, (Instr.makeSlice 30 (.int .i64 (J : Int)) (.int .i64 (J : Int))).run Try.prog W = .ok (.slice (some ⟨W.heap.size, 0, none⟩) J J) (W.alloc (.cells (madeCells #[.int .u8 0] J) 5)) := make_ (m := J) (by omega)
          have hJ1 : J ≤ 512 := by omega
          obtain ⟨sj, hsj⟩ : ∃ s, strOfNums (List.replicate J 0) = s := ⟨_, rfl⟩
          have HSJ := Aside0.mk hsj
          have hss : (sj.toList == sj.toList) = true := by simp
          clear hS9 hJ hsj
          go_wp2_with fail
          refine start_ (n := 23) (S := fun w' => w'.cell? ⟨w.heap.size, 0, none⟩ = some (.int .i64 (m : Int)) ∧ (convert 30 9 (.slice A9 J c9)).run Try.prog w' = .ok (.string sj) w') (ds := [20]) #[false, false, false, false, false, false, false, false, false, false, false, false, false, false, false, false, false, false, false, false, false, false, false] (by kernel_rfl) rfl rfl ⟨(B9.out.at5.cell 0).trans rfl, (by rw [← HSJ.out]; exact Str.strC (c := c9) (HCT.out _ B9.out.rowC'))⟩ (fun hHeld => ?_)
          refine pure_ (i := 0) (N := some 108) (v := ?_) (a' := ?_) #[true, false, false, false, false, false, false, false, false, false, false, false, false, false, false, false, false, false, false, false, false, false, false] rfl rfl (by kernel_rfl) (fun _ _ _ h => h) (Or.inl ⟨by rfl, ?_⟩) ?_ ?_
          rotate_left
          · intro w'
            go_simp
            with_reducible rfl
          rotate_left
          · simp only [Act.put, List.setIfInBounds_toArray, List.set_cons_zero, List.set_cons_succ, i64_w, i32_w]
            rfl
          refine pure_ (i := 1) (N := some 109) (v := ?_) (a' := ?_) #[true, true, false, false, false, false, false, false, false, false, false, false, false, false, false, false, false, false, false, false, false, false, false] rfl rfl (by kernel_rfl) (fun _ _ _ h => h) (Or.inl ⟨by rfl, ?_⟩) ?_ ?_
          rotate_left
          · intro w'
            go_simp
            with_reducible rfl
          rotate_left
          · simp only [Act.put, List.setIfInBounds_toArray, List.set_cons_zero, List.set_cons_succ, i64_w, i32_w]
            rfl
          refine pure_ (i := 2) (N := some 110) (v := ?_) (a' := ?_) #[true, true, true, false, false, false, false, false, false, false, false, false, false, false, false, false, false, false, false, false, false, false, false] rfl rfl (by kernel_rfl) (fun _ _ _ h => h) (Or.inl ⟨by rfl, ?_⟩) ?_ ?_
          rotate_left
          · intro w'
            go_simp
            with_reducible rfl
          rotate_left
          · simp only [Act.put, List.setIfInBounds_toArray, List.set_cons_zero, List.set_cons_succ, i64_w, i32_w]
            rfl
          refine pure_ (i := 3) (N := some 111) (v := ?_) (a' := ?_) #[true, true, true, true, false, false, false, false, false, false, false, false, false, false, false, false, false, false, false, false, false, false, false] rfl rfl (by kernel_rfl) (fun _ _ _ h => h) (Or.inl ⟨by rfl, ?_⟩) ?_ ?_
          rotate_left
          · intro w'
            go_simp
            with_reducible rfl
          rotate_left
          · simp only [Act.put, List.setIfInBounds_toArray, List.set_cons_zero, List.set_cons_succ, i64_w, i32_w]
            rfl
          refine pure_ (i := 4) (N := some 112) (v := ?_) (a' := ?_) #[true, true, true, true, true, false, false, false, false, false, false, false, false, false, false, false, false, false, false, false, false, false, false] rfl rfl (by kernel_rfl) (fun _ _ _ h => h) (Or.inl ⟨by rfl, ?_⟩) ?_ ?_
          rotate_left
          · intro w'
            go_simp
            with_reducible rfl
          rotate_left
          · simp only [Act.put, List.setIfInBounds_toArray, List.set_cons_zero, List.set_cons_succ, i64_w, i32_w]
            rfl
          refine pure_ (i := 5) (N := some 113) (v := ?_) (a' := ?_) #[true, true, true, true, true, true, false, false, false, false, false, false, false, false, false, false, false, false, false, false, false, false, false] rfl rfl (by kernel_rfl) (fun _ _ _ h => h) (Or.inl ⟨by rfl, ?_⟩) ?_ ?_
          rotate_left
          · intro w'
            go_simp
            with_reducible rfl
          rotate_left
          · simp only [Act.put, List.setIfInBounds_toArray, List.set_cons_zero, List.set_cons_succ, i64_w, i32_w]
            rfl
          refine pure_ (i := 11) (N := some 119) (v := ?_) (a' := ?_) #[true, true, true, true, true, true, false, false, false, false, false, true, false, false, false, false, false, false, false, false, false, false, false] rfl rfl (by kernel_rfl) (fun _ _ _ h => h) (Or.inl ⟨by rfl, ?_⟩) ?_ ?_
          rotate_left
          · intro w'
            go_simp
            with_reducible rfl
          rotate_left
          · simp only [Act.put, List.setIfInBounds_toArray, List.set_cons_zero, List.set_cons_succ, i64_w, i32_w]
            rfl
          refine take_ (i := 6) (N := some 114) (v := ?_) (a' := ?_) #[true, true, true, true, true, true, true, false, false, false, false, true, false, false, false, false, false, false, false, false, false, false, false] rfl rfl (by kernel_rfl) (fun _ _ _ h => h) (Or.inl ⟨by rfl, ?_⟩) hHeld ?_ ?_
          rotate_left
          · rintro w' ⟨s0, s1⟩
            go_simp
            with_reducible rfl
          rotate_left
          · simp only [Act.put, List.setIfInBounds_toArray, List.set_cons_zero, List.set_cons_succ, i64_w, i32_w]
            rfl
          refine pure_ (i := 7) (N := some 115) (v := ?_) (a' := ?_) #[true, true, true, true, true, true, true, true, false, false, false, true, false, false, false, false, false, false, false, false, false, false, false] rfl rfl (by kernel_rfl) (fun _ _ _ h => h) (Or.inl ⟨by rfl, ?_⟩) ?_ ?_
          rotate_left
          · intro w'
            go_simp
            with_reducible rfl
          rotate_left
          · simp only [Act.put, List.setIfInBounds_toArray, List.set_cons_zero, List.set_cons_succ, i64_w, i32_w]
            rfl
          refine pure_ (i := 8) (N := some 116) (v := ?_) (a' := ?_) #[true, true, true, true, true, true, true, true, true, false, false, true, false, false, false, false, false, false, false, false, false, false, false] rfl rfl (by kernel_rfl) (fun _ _ _ h => h) (Or.inl ⟨by rfl, ?_⟩) ?_ ?_
          rotate_left
          · intro w'
            go_simp
            with_reducible rfl
          rotate_left
          · simp only [Act.put, List.setIfInBounds_toArray, List.set_cons_zero, List.set_cons_succ, i64_w, i32_w]
            rfl
          refine pure_ (i := 9) (N := some 117) (v := ?_) (a' := ?_) #[true, true, true, true, true, true, true, true, true, true, false, true, false, false, false, false, false, false, false, false, false, false, false] rfl rfl (by kernel_rfl) (fun _ _ _ h => h) (Or.inl ⟨by rfl, ?_⟩) ?_ ?_
          rotate_left
          · intro w'
            go_simp
            with_reducible rfl
          rotate_left
          · simp only [Act.put, List.setIfInBounds_toArray, List.set_cons_zero, List.set_cons_succ, i64_w, i32_w]
            rfl
          refine take_ (i := 10) (N := some 118) (v := ?_) (a' := ?_) #[true, true, true, true, true, true, true, true, true, true, true, true, false, false, false, false, false, false, false, false, false, false, false] rfl rfl (by kernel_rfl) (fun _ _ _ h => h) (Or.inl ⟨by rfl, ?_⟩) hHeld ?_ ?_
          rotate_left
          · rintro w' ⟨s0, s1⟩
            go_simp
            with_reducible rfl
          rotate_left
          · simp only [Act.put, List.setIfInBounds_toArray, List.set_cons_zero, List.set_cons_succ, i64_w, i32_w]
            rfl
          refine take_ (i := 12) (N := some 120) (v := ?_) (a' := ?_) #[true, true, true, true, true, true, true, true, true, true, true, true, true, false, false, false, false, false, false, false, false, false, false] rfl rfl (by kernel_rfl) (fun _ _ _ h => h) (Or.inl ⟨by rfl, ?_⟩) hHeld ?_ ?_
          rotate_left
          · rintro w' ⟨s0, s1⟩
            go_simp
            with_reducible rfl
          rotate_left
          · simp only [Act.put, List.setIfInBounds_toArray, List.set_cons_zero, List.set_cons_succ, i64_w, i32_w]
            rfl
          refine pure_ (i := 13) (N := some 121) (v := ?_) (a' := ?_) #[true, true, true, true, true, true, true, true, true, true, true, true, true, true, false, false, false, false, false, false, false, false, false] rfl rfl (by kernel_rfl) (fun _ _ _ h => h) (Or.inl ⟨by rfl, ?_⟩) ?_ ?_
          rotate_left
          · intro w'
            go_simp
            with_reducible rfl
          rotate_left
          · simp only [Act.put, List.setIfInBounds_toArray, List.set_cons_zero, List.set_cons_succ, i64_w, i32_w]
            rfl
          refine pure_ (i := 14) (N := some 122) (v := ?_) (a' := ?_) #[true, true, true, true, true, true, true, true, true, true, true, true, true, true, true, false, false, false, false, false, false, false, false] rfl rfl (by kernel_rfl) (fun _ _ _ h => h) (Or.inl ⟨by rfl, ?_⟩) ?_ ?_
          rotate_left
          · intro w'
            go_simp
            with_reducible rfl
          rotate_left
          · simp only [Act.put, List.setIfInBounds_toArray, List.set_cons_zero, List.set_cons_succ, i64_w, i32_w]
            rfl
          refine one_ (i := 15) (N := some 123) #[true, true, true, true, true, true, true, true, true, true, true, true, true, true, true, true, false, false, false, false, false, false, false] rfl rfl (by kernel_rfl) (by decide) (fun K hK => ?_)
          refine value_ (w1 := ?_) (v := ?_) (by rfl) rfl ?_ ?_
          rotate_left 2
          · go_simp
            constructor
            · rfl
            · rfl
          have B10 := Aside0.mk (madeB J B9.out (by omega))
          have hs10 := Str.strC (c := J) B10.out.rowC'
          rw [HSJ.out] at hs10
          rw [show w9.drew.alloc (.cells (madeCells #[.int .u8 0] J) 5) = (w9.alloc (.cells (madeCells #[.int .u8 0] J) 5)).drew from rfl, show w9.drew.heap.size = w9.heap.size from rfl] at hs10
          refine hK.out _ _ ⟨(B10.out.tail.at5.cell 0).trans rfl, (by rw [← HSJ.out]; exact Str.strC (c := c9) (HCT.out _ B10.out.at2.rowC'))⟩ (fun hHeld => ?_)
          clear hK K
          refine norm_ (a' := ?_) ?_ ?_
          rotate_left
          · show Act.put _ (some 123) _ = _
            simp only [Act.put, List.setIfInBounds_toArray, List.set_cons_zero, List.set_cons_succ, i64_w, i32_w]
            rfl
          refine one_ (i := 16) (N := some 124) #[true, true, true, true, true, true, true, true, true, true, true, true, true, true, true, true, true, false, false, false, false, false, false] rfl rfl (by kernel_rfl) (by decide) (fun K hK => ?_)
          refine value_ (w1 := ?_) (v := ?_) (by rfl) rfl ?_ ?_
          rotate_left 2
          · go_simp
            constructor
            · rfl
            · rfl
          refine hK.out _ _ ⟨(B10.out.tail.at5.cell 0).trans rfl, (by rw [← HSJ.out]; exact Str.strC (c := c9) (HCT.out _ B10.out.at2.rowC'))⟩ (fun hHeld => ?_)
          clear hK K
          refine norm_ (a' := ?_) ?_ ?_
          rotate_left
          · show Act.put _ (some 124) _ = _
            simp only [Act.put, List.setIfInBounds_toArray, List.set_cons_zero, List.set_cons_succ, i64_w, i32_w]
            rfl
          refine pure_ (i := 17) (N := some 125) (v := ?_) (a' := ?_) #[true, true, true, true, true, true, true, true, true, true, true, true, true, true, true, true, true, true, false, false, false, false, false] rfl rfl (by kernel_rfl) (fun _ _ _ h => h) (Or.inl ⟨by rfl, ?_⟩) ?_ ?_
          rotate_left
          · intro w'
            go_simp
            with_reducible rfl
          rotate_left
          · simp only [Act.put, List.setIfInBounds_toArray, List.set_cons_zero, List.set_cons_succ, i64_w, i32_w]
            rfl
          refine pure_ (i := 18) (N := some 126) (v := ?_) (a' := ?_) #[true, true, true, true, true, true, true, true, true, true, true, true, true, true, true, true, true, true, true, false, false, false, false] rfl rfl (by kernel_rfl) (fun _ _ _ h => h) (Or.inl ⟨by rfl, ?_⟩) ?_ ?_
          rotate_left
          · intro w'
            go_simp
            with_reducible rfl
          rotate_left
          · simp only [Act.put, List.setIfInBounds_toArray, List.set_cons_zero, List.set_cons_succ, i64_w, i32_w]
            rfl
          refine pure_ (i := 19) (N := some 127) (v := ?_) (a' := ?_) #[true, true, true, true, true, true, true, true, true, true, true, true, true, true, true, true, true, true, true, true, false, false, false] rfl rfl (by kernel_rfl) (fun _ _ _ h => h) (Or.inl ⟨by rfl, ?_⟩) ?_ ?_
          rotate_left
          · intro w'
            go_simp
            with_reducible rfl
          rotate_left
          · simp only [Act.put, List.setIfInBounds_toArray, List.set_cons_zero, List.set_cons_succ, i64_w, i32_w]
            rfl
          refine last_ (i := 20) (N := some 128) #[true, true, true, true, true, true, true, true, true, true, true, true, true, true, true, true, true, true, true, true, true, false, false] rfl rfl (by kernel_rfl) (by decide) (fun K hK => ?_)
          refine goes_ Try.func25 (by kernel_rfl) rfl #[] (by rfl) rfl rfl (by simp) ?_
          with_reducible refine (known_ _).mono ?_
          rintro e w11 ⟨rfl, hb11⟩
          refine ⟨_, rfl, ?_⟩
          have B11 := Aside0.mk (B10.out.below hb11)
          clear hb11
          refine hK.out _ _ ?_
          clear hK K
          refine norm_ (a' := ?_) ?_ ?_
          rotate_left
          · show Act.put _ (some 128) _ = _
            simp only [Act.put, List.setIfInBounds_toArray, List.set_cons_zero, List.set_cons_succ, i64_w, i32_w]
            rfl
          refine pure_ (i := 21) (N := some 129) (v := ?_) (a' := ?_) #[true, true, true, true, true, true, true, true, true, true, true, true, true, true, true, true, true, true, true, true, true, true, false] rfl rfl (by kernel_rfl) (fun _ _ _ h => h) (Or.inl ⟨by rfl, ?_⟩) ?_ ?_
          rotate_left
          · intro w'
            go_simp
            with_reducible rfl
          rotate_left
          · simp only [Act.put, List.setIfInBounds_toArray, List.set_cons_zero, List.set_cons_succ, i64_w, i32_w]
            rfl
          refine pure_ (i := 22) (N := some 4) (v := ?_) (a' := ?_) #[true, true, true, true, true, true, true, true, true, true, true, true, true, true, true, true, true, true, true, true, true, true, true] rfl rfl (by kernel_rfl) (fun _ _ _ h => h) (Or.inl ⟨by rfl, ?_⟩) ?_ ?_
          rotate_left
          · intro w'
            go_simp
            with_reducible rfl
          rotate_left
          · simp only [Act.put, List.setIfInBounds_toArray, List.set_cons_zero, List.set_cons_succ, i64_w, i32_w]
            rfl
          refine done_ (by kernel_rfl) ?_
          go_wp2_with fail
          go_ret
          exact ⟨by first | rfl | (simp; done), B11.out.toBelow⟩
end Go.Proofs.Ytjngnigelkgekaa.Home
