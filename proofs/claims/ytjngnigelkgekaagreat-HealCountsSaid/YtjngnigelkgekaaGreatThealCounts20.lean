/- Redo9, Redo10, Redo8, Tape1, Tape2, Redo12: what HealCounts needs. -/
import Derived.Test.YtjngnigelkgekaaGreatThealCounts19
import Derived.Lib.SliceRun
import Derived.Deep.QuietTactic
import Derived.Deep.RegionWith
import Derived.Deep.LoopGhost
import Derived.Deep.CutRange
import Derived.Lib.SlBytesConst
set_option linter.unusedVariables false
set_option linter.unusedSimpArgs false
namespace Go.Proofs.YtjngnigelkgekaaGreat.Redo
open Go.RowKit Go.Proofs.YtjngnigelkgekaaGreatW.PrintWords Go.Proofs.YtjngnigelkgekaaGreatW.PrintLast Go.Proofs.YtjngnigelkgekaaGreatW.PrintMore Go.Proofs.YtjngnigelkgekaaGreat.Kit Go.Proofs.YtjngnigelkgekaaGreat.Plain Go.Proofs.YtjngnigelkgekaaGreat.Disk Go.Proofs.YtjngnigelkgekaaGreat.Root Go.Proofs.YtjngnigelkgekaaGreat.Frame
open Go.Proofs.YtjngnigelkgekaaGreat.Home (K2 RTL)
open Go.Proofs.YtjngnigelkgekaaGreat.Delta (Chg KC undeltaF)
theorem runde_none {A : Option Addr} {n c : Nat} {b : List Int} {w : World} {pages : Int} (hu : undeltaF b pages = none) (hr : (Kd.int .u8).C w A n b) (hc : n ≤ c) (hb : Bytes b) (hl : n ≤ 1000000) :
    Calls Tryz.prog 112 #[.slice A n c, .int .i64 pages] w fun e w' => ∃ v, e = .returned (.tuple #[v, .bool false]) ∧ Below w.heap.size w w' := by
  refine (Delta.rundelta_ hr hc hb hl pages).mono ?_
  rintro e w' ⟨v, rfl, hS⟩
  rw [hu]
  exact ⟨v, rfl, hS.toBelow⟩
theorem runde_some {A : Option Addr} {n c : Nat} {b : List Int} {w : World} {pages : Int} {x : List Chg} (hu : undeltaF b pages = some x) (hr : (Kd.int .u8).C w A n b) (hc : n ≤ c) (hb : Bytes b) (hl : n ≤ 1000000) :
    Calls Tryz.prog 112 #[.slice A n c, .int .i64 pages] w fun e w' => ∃ v, e = .returned (.tuple #[v, .bool true]) ∧ Sep w w' [Row KC 75 v x] := by
  refine (Delta.rundelta_ hr hc hb hl pages).mono ?_
  rintro e w' ⟨v, rfl, hS⟩
  rw [hu] at hS ⊢
  exact ⟨v, rfl, hS⟩
section
variable {w0 W : World} {F : List HP} {g n : Nat} {left d : Int} {las : List Int} {wt : Wt}
set_option maxHeartbeats 1600000 in
set_option maxRecDepth 100000 in
theorem rrecords_ (h : Sep w0 W (RTL g n las wt left d :: F)) (hl : las.length = 64 * n) (hn : n ≤ 160) (hw : ∀ i b, wt i = some b → b.length = 64) (a b c : Int) (hb : Bytes (logF n las wt a b c)) :
    Calls Tryz.prog 81 #[.pointer (some ⟨g, 0, none⟩), .agg #[.int .i64 a, .int .i64 b, .int .u32 c]] W fun e w' => ∃ v, e = .returned (.tuple #[v, .int .i64 ((recR n las wt a b c).2 : Int)]) ∧ Sep w0 w' (Row K3 60 v (recR n las wt a b c).1 :: RTL g n las wt left d :: F) := by
  have A0 := Aside0.mk (h.newBlk 80 #[.int .i64 a, .int .i64 b, .int .u32 c]).drew
  have HL := Aside0.mk (And.intro hl (And.intro hw (And.intro (log_len hl hn hw a b c) hb)))
  clear h hl hw hb hn
  go_enter Tryz.func81, Tryz.ntmps81
  go_wp2_with fail
  refine start_ (n := 11) (S := fun w' => w'.cell? ⟨W.heap.size, 0, none⟩ = some (.int .i64 a) ∧ w'.cell? ⟨W.heap.size, 1, none⟩ = some (.int .i64 b) ∧ w'.cell? ⟨W.heap.size, 2, none⟩ = some (.int .u32 c)) (ds := []) #[false, false, false, false, false, false, false, false, false, false, false] (by kernel_rfl) rfl rfl ⟨(A0.out.cell 0).trans rfl, (A0.out.cell 1).trans rfl, (A0.out.cell 2).trans rfl⟩ (fun hHeld => ?_)
  refine pure_ (i := 0) (N := some 15) (v := ?_) (a' := ?_) #[true, false, false, false, false, false, false, false, false, false, false] rfl rfl (by kernel_rfl) (fun _ _ _ h => h) (Or.inl ⟨by rfl, ?_⟩) ?_ ?_
  rotate_left
  · intro w'
    go_simp
    with_reducible rfl
  rotate_left
  · simp only [Act.put, sIB, sCz, sCs, i64_w, i32_w]
    rfl
  refine pure_ (i := 3) (N := some 18) (v := ?_) (a' := ?_) #[true, false, false, true, false, false, false, false, false, false, false] rfl rfl (by kernel_rfl) (fun _ _ _ h => h) (Or.inl ⟨by rfl, ?_⟩) ?_ ?_
  rotate_left
  · intro w'
    go_simp
    with_reducible rfl
  rotate_left
  · simp only [Act.put, sIB, sCz, sCs, i64_w, i32_w]
    rfl
  refine take_ (i := 1) (N := some 16) (v := ?_) (a' := ?_) #[true, true, false, true, false, false, false, false, false, false, false] rfl rfl (by kernel_rfl) (fun _ _ _ h => h) (Or.inl ⟨by rfl, ?_⟩) hHeld ?_ ?_
  rotate_left
  · rintro w' ⟨s0, s1, s2⟩
    go_simp
    with_reducible rfl
  rotate_left
  · simp only [Act.put, sIB, sCz, sCs, i64_w, i32_w]
    rfl
  refine take_ (i := 4) (N := some 19) (v := ?_) (a' := ?_) #[true, true, false, true, true, false, false, false, false, false, false] rfl rfl (by kernel_rfl) (fun _ _ _ h => h) (Or.inl ⟨by rfl, ?_⟩) hHeld ?_ ?_
  rotate_left
  · rintro w' ⟨s0, s1, s2⟩
    go_simp
    with_reducible rfl
  rotate_left
  · simp only [Act.put, sIB, sCz, sCs, i64_w, i32_w]
    rfl
  refine one_ (i := 2) (N := some 17) #[true, true, true, true, true, false, false, false, false, false, false] rfl rfl (by kernel_rfl) (by decide) (fun K hK => ?_)
  refine goes_ Tryz.func76 (by kernel_rfl) rfl #[.pointer (some ⟨g, 0, none⟩), .agg #[.int .i64 a, .int .i64 b, .int .u32 c]] (by rfl) rfl rfl (by simp only [List.map_toArray, List.map_cons, List.map_nil]; rfl) ?_
  with_reducible refine (rlog_ A0.out.at2 HL.out.1 HL.out.2.1 a b c).mono ?_
  rintro e w3 ⟨v3, rfl, hS3⟩
  refine ⟨_, rfl, ?_⟩
  obtain ⟨A3, c3, rfl⟩ := hS3.rowV
  have B3 := Aside0.mk hS3
  clear hS3
  refine hK.out _ _ ⟨(B3.out.at3.cell 0).trans rfl, (B3.out.at3.cell 1).trans rfl, (B3.out.at3.cell 2).trans rfl⟩ (fun hHeld => ?_)
  clear hK K
  refine norm_ (a' := ?_) ?_ ?_
  rotate_left
  · show Act.put _ (some 17) _ = _
    simp only [Act.put, sIB, sCz, sCs, i64_w, i32_w]
    rfl
  refine one_ (i := 5) (N := some 20) #[true, true, true, true, true, true, false, false, false, false, false] rfl rfl (by kernel_rfl) (by decide) (fun K hK => ?_)
  refine goes_ Tryz.func75 (by kernel_rfl) rfl #[.slice A3 (logF n las wt a b c).length c3, .int .u32 c] (by rfl) rfl rfl (by simp only [List.map_toArray, List.map_cons, List.map_nil]; rfl) ?_
  with_reducible refine (rscan_ B3.out.rowC' B3.out.rowC.2.1 HL.out.2.2.2 (by have := HL.out.2.2.1; omega) c).mono ?_
  rintro e w4 ⟨v4, rfl, hS4⟩
  refine ⟨_, rfl, ?_⟩
  have B4 := Aside0.mk (B3.out.lift1 hS4)
  clear hS4
  refine hK.out _ _ ⟨(B4.out.at4.cell 0).trans rfl, (B4.out.at4.cell 1).trans rfl, (B4.out.at4.cell 2).trans rfl⟩ (fun hHeld => ?_)
  clear hK K
  refine norm_ (a' := ?_) ?_ ?_
  rotate_left
  · show Act.put _ (some 20) _ = _
    simp only [Act.put, sIB, sCz, sCs, i64_w, i32_w]
    rfl
  refine pure_ (i := 6) (N := some 14) (v := ?_) (a' := ?_) #[true, true, true, true, true, true, true, false, false, false, false] rfl rfl (by kernel_rfl) (fun _ _ _ h => h) (Or.inl ⟨by rfl, ?_⟩) ?_ ?_
  rotate_left
  · intro w'
    go_simp
    with_reducible rfl
  rotate_left
  · simp only [Act.put, sIB, sCz, sCs, i64_w, i32_w]
    rfl
  refine pure_ (i := 7) (N := some 21) (v := ?_) (a' := ?_) #[true, true, true, true, true, true, true, true, false, false, false] rfl rfl (by kernel_rfl) (fun _ _ _ h => h) (Or.inl ⟨by rfl, ?_⟩) ?_ ?_
  rotate_left
  · intro w'
    go_simp
    with_reducible rfl
  rotate_left
  · simp only [Act.put, sIB, sCz, sCs, i64_w, i32_w]
    rfl
  refine pure_ (i := 8) (N := some 22) (v := ?_) (a' := ?_) #[true, true, true, true, true, true, true, true, true, false, false] rfl rfl (by kernel_rfl) (fun _ _ _ h => h) (Or.inl ⟨by rfl, ?_⟩) ?_ ?_
  rotate_left
  · intro w'
    go_simp
    with_reducible rfl
  rotate_left
  · simp only [Act.put, sIB, sCz, sCs, i64_w, i32_w]
    rfl
  refine pure_ (i := 9) (N := some 6) (v := ?_) (a' := ?_) #[true, true, true, true, true, true, true, true, true, true, false] rfl rfl (by kernel_rfl) (fun _ _ _ h => h) (Or.inl ⟨by rfl, ?_⟩) ?_ ?_
  rotate_left
  · intro w'
    go_simp
    with_reducible rfl
  rotate_left
  · simp only [Act.put, sIB, sCz, sCs, i64_w, i32_w]
    rfl
  refine pure_ (i := 10) (N := some 7) (v := ?_) (a' := ?_) #[true, true, true, true, true, true, true, true, true, true, true] rfl rfl (by kernel_rfl) (fun _ _ _ h => h) (Or.inl ⟨by rfl, ?_⟩) ?_ ?_
  rotate_left
  · intro w'
    go_simp
    with_reducible rfl
  rotate_left
  · simp only [Act.put, sIB, sCz, sCs, i64_w, i32_w]
    rfl
  refine done_ (by kernel_rfl) ?_
  have HSF := Aside0.mk (scan_facts HL.out.2.2.2 c)
  obtain ⟨rows, hrows⟩ : ∃ r, (scanR (logF n las wt a b c) c).1 = r := ⟨_, rfl⟩
  have HR : Aside0 (recR n las wt a b c = recsF b rows) := ⟨by unfold recR; rw [hrows]⟩
  have HLG : Aside0 (longs rows ≤ 10240) := ⟨by rw [← hrows, HSF.out.2.1]; exact Nat.le_trans HSF.out.2.2 HL.out.2.2.1⟩
  have HBR : Aside0 (∀ x ∈ rows, Bytes x) := ⟨by rw [← hrows]; exact HSF.out.1⟩
  rw [hrows] at B4
  obtain ⟨N, hN⟩ : ∃ N, rows.length = N := ⟨_, rfl⟩
  have HN := Aside0.mk hN
  obtain ⟨A4, c4, rfl⟩ := B4.out.rowN (n := N) hN
  have B5 := Aside0.mk (B4.out.nilRow K3 60)
  have hN2 : N ≤ 10240 := by have := longs_len rows; have := HLG.out; omega
  clear hrows hN
  go_wp2_with fail
  go_loopg [8, 9, 25] N (fun k_ v s p wr => ∃ (out : List (List Chg)) (tot j : Nat), s = .int .i64 (tot : Int) ∧ p = .int .i64 (j : Int) ∧ j + k_ = N ∧ RecAt b rows out tot j ∧ Sep w0 wr (Row K3 60 v out :: Row K2 24 (.slice A4 N c4) rows :: Row U8 5 (.slice A3 (logF n las wt a b c).length c3) (logF n las wt a b c) :: RTL g n las wt left d :: Blk W.heap.size 80 #[.int .i64 a, .int .i64 b, .int .u32 c] :: F))
  case atStart => exact ⟨[], 0, 0, rfl, rfl, by omega, rec_start b rows, B5.out⟩
  case round =>
    obtain ⟨out, tot, j, rfl, rfl, hjm, hra, hS⟩ := hrel
    have AK := Aside0.mk hjm
    have AS := Aside0.mk hS
    have HRA := Aside0.mk hra
    obtain ⟨A6, c6, rfl⟩ := hS.rowN (n := j) hra.num
    clear hS hra
    by_cases cj : j < N
    case neg =>
      obtain rfl : j = N := by omega
      have hjl : ¬ (j : Int) < (j : Int) := by omega
      have HV : Aside0 (recR n las wt a b c = (out, tot)) := ⟨HR.out.trans (rec_end HRA.out (by rw [HN.out]; exact Nat.le_refl _))⟩
      clear hjm cj
      go_wp2_with fail
      go_ret2
      exact ⟨_, by rw [HV.out]; first | rfl | (simp; done), by rw [HV.out]; exact AS.out.drop2.drop2.at3.tail⟩
    case pos =>
    have hjl : (j : Int) < (N : Int) := by omega
    obtain ⟨hx, ad, B, cB, rfl, hcell, hlc, hCB⟩ := slice_at AS.out.at2.rowC' cj
    have z0 := (AS.out.at5.cell 0).trans rfl
    have z1 := (AS.out.at5.cell 1).trans rfl
    have z2 := (AS.out.at5.cell 2).trans rfl
    obtain ⟨XL, hXL⟩ : ∃ L, rows[j].length = L := ⟨_, rfl⟩
    rw [hXL] at hcell hlc hCB
    have hbx := HBR.out _ (List.getElem_mem hx)
    have hla := long_at hx
    rw [hXL] at hla
    have HX := Aside0.mk (And.intro hlc (And.intro hCB (And.intro hbx (show XL ≤ 1000000 by have := HLG.out; omega))))
    cases hu : undeltaF rows[j] b with
    | none =>
      have HU := Aside0.mk hu
      have HV : Aside0 (recR n las wt a b c = (out, tot)) := ⟨HR.out.trans (rec_none HRA.out hx hu)⟩
      clear hjm hu hla hXL hlc hCB hbx
      go_wp2_with fail
      refine (runde_none HU.out HX.out.2.1 HX.out.1 HX.out.2.2.1 HX.out.2.2.2).mono ?_
      rintro e w6 ⟨v6, rfl, hb6⟩
      have B6 := Aside0.mk (AS.out.below hb6)
      clear hb6
      go_wp2_with fail
      go_ret2
      exact ⟨_, by rw [HV.out]; first | rfl | (simp; done), by rw [HV.out]; exact B6.out.drop2.drop2.at3.tail⟩
    | some x =>
      have HU := Aside0.mk hu
      have hra2 := rec_some HRA.out hx hu
      have hrt := rec_tot hra2
      rw [hXL] at hra2 hrt
      obtain ⟨T2, hT2⟩ : ∃ T, tot + (16 + XL) = T := ⟨_, rfl⟩
      obtain ⟨y1, y2, X16, y3, y4⟩ := rc_nums (t := tot) (x := XL) (n := 10240) (Nat.le_trans hrt HLG.out) (by decide) hT2
      rw [hT2] at hra2
      have HR2 := Aside0.mk hra2
      have hj2 : (j + 1) * 24 ≤ 140737488355328 := by omega
      have HJ2 := Aside0.mk hj2
      clear hjm hu hla hXL hlc hCB hbx hra2 hrt hj2 hT2
      go_wp2_with fail
      refine (runde_some HU.out HX.out.2.1 HX.out.1 HX.out.2.2.1 HX.out.2.2.2).mono ?_
      rintro e w6 ⟨v6, rfl, hS6⟩
      have L6 := Aside0.mk ((AS.out.lift1 hS6).elSlice.at2)
      obtain ⟨A7, c7, rfl⟩ := hS6.rowV
      clear hS6
      go_wp2_with (first | (refine gate_builtin (b := .append) (xs := #[.tmp 38, .tmp 40]) rfl ?_; go_loud (refine L6.out.appendDeep rfl (.tmp 38) (.tmp 40) 124 _ 24 rfl Tryz.underlying124 infoK rfl (by decide) (by decide) rfl rfl (by rw [HRA.out.num]; exact HJ2.out) ?_; intro v8 w8 hs8 hS8; have B8 := Aside0.mk hS8; clear hS8)))
      go_roundg (gk - 1)
      case measure => have := AK.out; omega
      case rel => exact ⟨out ++ [x], T2, j + 1, by go_num, by go_num, by have := AK.out; omega, HR2.out, B8.out⟩
end
end Go.Proofs.YtjngnigelkgekaaGreat.Redo
namespace Go.Proofs.YtjngnigelkgekaaGreat.Redo
end Go.Proofs.YtjngnigelkgekaaGreat.Redo
namespace Go.Proofs.YtjngnigelkgekaaGreat.Redo
open Go.RowKit Go.Proofs.YtjngnigelkgekaaGreatW.PrintWords Go.Proofs.YtjngnigelkgekaaGreatW.PrintLast Go.Proofs.YtjngnigelkgekaaGreatW.PrintMore Go.Proofs.YtjngnigelkgekaaGreat.Kit Go.Proofs.YtjngnigelkgekaaGreat.Plain Go.Proofs.YtjngnigelkgekaaGreat.Disk Go.Proofs.YtjngnigelkgekaaGreat.Root
theorem cutAt {g N c j : Nat} {J : Int} (hJ : J = (j : Int)) (hj : j ≤ N) (hc : N ≤ c) : ∃ o n' c', (∀ W : World, (Instr.slice 24 (.slice (some ⟨g, 0, none⟩) N c) (some (.int .i64 J)) none none).run Tryz.prog W = .ok (.slice (some ⟨g, o, none⟩) n' c') W) ∧ n' = N - j ∧ o + n' ≤ N ∧ (j < N → o = j) := by
  by_cases h : j < N
  · exact ⟨j, N - j, c - j, fun W => Ref.cutF_ hJ h hc W, rfl, by omega, fun _ => rfl⟩
  · obtain rfl : j = N := by omega
    by_cases h2 : c = j
    · refine ⟨0, 0, 0, fun W => ?_, by omega, by omega, fun h3 => absurd h3 h⟩
      have h4 := cutLo Tryz.underlying24 Base.infoB (some ⟨g, 0, none⟩) j c j hJ (Nat.le_refl _) hc W
      rw [if_pos h2] at h4
      rw [h4, h2, Nat.sub_self]
    · by_cases h5 : j = 0
      · subst h5
        refine ⟨0, 0, c, fun W => ?_, by omega, by omega, fun h3 => absurd h3 h⟩
        have h4 := cutLo Tryz.underlying24 Base.infoB (some ⟨g, 0, none⟩) 0 c 0 hJ (Nat.le_refl _) hc W
        rw [if_neg h2] at h4
        rw [h4]
        simp [Addr.add]
      · refine ⟨j, 0, c - j, fun W => ?_, by omega, by omega, fun h3 => absurd h3 h⟩
        have h4 := cutLo Tryz.underlying24 Base.infoB (some ⟨g, 0, none⟩) j c j hJ (Nat.le_refl _) hc W
        rw [if_neg h2] at h4
        rw [h4]
        simp [Addr.add, h5]
theorem eqNil (w : World) (a : Option Addr) (n c n' c' : Nat) : (binOp .eql 24 (.slice a n c) (.slice none n' c')).run Tryz.prog w = .ok (.bool a.isNone) w := Lib.run_eql_slice_nil w _ _ a n c n' c' Tryz.underlying24
theorem over_at {xs ys : List Int} {o p n' N : Nat} (hx : xs.length = N) (hn : n' = N - p) (hy : p + ys.length ≤ N) (ho : p < N → o = p) (hf : o + n' ≤ N) : over xs o (ys.take n') = over xs p ys := by
  rw [List.take_of_length_le (by omega)]
  by_cases h : p < N
  · rw [ho h]
  · obtain rfl : ys = [] := List.eq_nil_of_length_eq_zero (by omega)
    rw [over_nil, over_nil]
theorem ra_nums {p m NL j : Nat} (h : p + m ≤ NL) (hN : NL ≤ 4096) (hj : j ≤ 64) : wrap64 ((NL : Int) - (p : Int)) = (NL : Int) - (p : Int) ∧ wrap64 ((j : Int) * 64) = (j : Int) * 64 ∧ wrap64 ((p : Int) + (m : Int)) = (p : Int) + (m : Int) ∧ wrap64 ((j : Int) + 1) = (j : Int) + 1 ∧ wrap64 (((j : Int) + 1) * 64) = ((j : Int) + 1) * 64 ∧ wrap64 (2 + (j : Int)) = 2 + (j : Int) :=
  ⟨IntWalk.wrap64_in _ (by omega), IntWalk.wrap64_in _ (by omega), IntWalk.wrap64_in _ (by omega), IntWalk.wrap64_in _ (by omega), IntWalk.wrap64_in _ (by omega), IntWalk.wrap64_in _ (by omega)⟩
open Go.Proofs.YtjngnigelkgekaaGreat.Home (RT)
section
variable {w0 W : World} {F : List HP} {g n d : Nat} {las : List Int} {wt : Wt}
set_option maxHeartbeats 1600000 in
set_option maxRecDepth 100000 in
theorem rappend_no (h : Sep w0 W (RT g n las wt d :: F)) (hl : las.length = 64 * n) (hn : n ≤ 160) (hw : ∀ i b, wt i = some b → b.length = 64) (a b c at_ : Int) (hat : -9223372036854775808 ≤ at_ ∧ at_ ≤ 9223372036854775807) {A : Option Addr} {m cp : Nat} (hm : m ≤ 9223372036854775807) (hno : okA n a b c at_ m = false) :
    Calls Tryz.prog 86 #[.pointer (some ⟨g, 0, none⟩), .agg #[.int .i64 a, .int .i64 b, .int .u32 c], .int .i64 at_, .slice A m cp] W fun e w' => e = .returned (.bool false) ∧ Sep w0 w' (RT g n las wt d :: F) := by
  have A0 := Aside0.mk (h.newBlk 80 #[.int .i64 a, .int .i64 b, .int .u32 c])
  have HL := Aside0.mk (And.intro hl hw)
  have z0 := (A0.out.cell 0).trans rfl
  have z1 := (A0.out.cell 1).trans rfl
  have z2 := (A0.out.cell 2).trans rfl
  cases hr : rightR a b c n with
  | false =>
    have HR := Aside0.mk hr
    clear h hl hw hr hno
    have qT := eqNil
    go_enter Tryz.func86, Tryz.ntmps86
    go_wp2_with fail
    refine (rlog_no A0.out.at2 HL.out.1 HL.out.2 a b c HR.out).mono ?_
    rintro e w1 ⟨rfl, hS1⟩
    have A1 := Aside0.mk hS1.drop2
    clear hS1 z0 z1 z2
    go_wp2_with fail
    go_ret
    exact ⟨by first | rfl | (simp; done), A1.out⟩
  | true =>
    have HR := Aside0.mk hr
    have h1 := of_decide_eq_true hr
    obtain ⟨Lg, rfl⟩ := Int.eq_ofNat_of_zero_le (show 0 ≤ a by omega)
    obtain ⟨NL, hNL⟩ : ∃ N, 64 * Lg = N := ⟨_, rfl⟩
    have hLL : (logF n las wt (Lg : Int) b c).length = NL := by
      unfold logF
      rw [if_pos hr, Int.toNat_natCast, secs_len (fun i hi => by rw [secF_len hl hw, if_pos (by omega)])]
      exact hNL
    have HLL := Aside0.mk hLL
    have hno2 : at_ < 0 ∨ (0 ≤ at_ ∧ (NL : Int) < at_) ∨ (0 ≤ at_ ∧ at_ ≤ (NL : Int) ∧ (NL : Int) - at_ < (m : Int)) := by
      unfold okA at hno
      rw [hr] at hno
      simp only [Bool.true_and, Bool.and_eq_false_iff, decide_eq_false_iff_not] at hno
      have hsz : sizeF (Lg : Int) = (NL : Int) := by unfold sizeF; rw [if_neg (by omega)]; omega
      rw [hsz] at hno
      omega
    have hNp : 0 < NL := by omega
    have hNb : (NL : Int) ≤ 4096 := by omega
    have HNP := Aside0.mk hNp
    clear h hl hw hr hno h1 hLL hNL hn
    rcases hno2 with hc1 | ⟨hc1, hc2⟩ | ⟨hc1, hc2, hc3⟩
    · have hd1 : decide (at_ < 0) = true := decide_eq_true hc1
      have qT := eqNil
      go_enter Tryz.func86, Tryz.ntmps86
      go_wp2_with fail
      refine (rlog_yes A0.out.at2 HL.out.1 HL.out.2 (Lg : Int) b c HR.out).mono ?_
      rintro e w1 ⟨v1, rfl, hS1⟩
      obtain ⟨g1, c1, rfl⟩ := hS1.rowFormN HLL.out HNP.out
      have A1 := Aside0.mk hS1.tail.drop2
      clear hS1 z0 z1 z2
      go_wp2_with fail
      go_ret
      exact ⟨by first | rfl | (simp; done), A1.out⟩
    · have hd1 : ¬ at_ < 0 := by omega
      have qT := eqNil
      go_enter Tryz.func86, Tryz.ntmps86
      go_wp2_with fail
      refine (rlog_yes A0.out.at2 HL.out.1 HL.out.2 (Lg : Int) b c HR.out).mono ?_
      rintro e w1 ⟨v1, rfl, hS1⟩
      obtain ⟨g1, c1, rfl⟩ := hS1.rowFormN HLL.out HNP.out
      have A1 := Aside0.mk hS1.tail.drop2
      clear hS1 z0 z1 z2
      go_wp2_with fail
      go_ret
      exact ⟨by first | rfl | (simp; done), A1.out⟩
    · have hd1 : ¬ at_ < 0 := by omega
      have hd2 : ¬ (NL : Int) < at_ := by omega
      have hww : wrap64 ((NL : Int) - at_) = (NL : Int) - at_ := IntWalk.wrap64_in _ (by omega)
      have qT := eqNil
      go_enter Tryz.func86, Tryz.ntmps86
      go_wp2_with fail
      refine (rlog_yes A0.out.at2 HL.out.1 HL.out.2 (Lg : Int) b c HR.out).mono ?_
      rintro e w1 ⟨v1, rfl, hS1⟩
      obtain ⟨g1, c1, rfl⟩ := hS1.rowFormN HLL.out HNP.out
      have A1 := Aside0.mk hS1.tail.drop2
      clear hS1 z0 z1 z2
      go_wp2_with fail
      go_ret
      exact ⟨by first | rfl | (simp; done), A1.out⟩
set_option maxHeartbeats 1600000 in
set_option maxRecDepth 100000 in
theorem rappend_yes (h : Sep w0 W (RT g n las wt d :: F)) (hl : las.length = 64 * n) (hn : n ≤ 160) (hd : d ≤ 900000) (hw : ∀ i b, wt i = some b → b.length = 64) (a b c at_ : Int) (hat : -9223372036854775808 ≤ at_ ∧ at_ ≤ 9223372036854775807) {A : Option Addr} {m cp : Nat} {xs : List Int} (hx : ∀ W', Sep w0 W' F → U8.C W' A m xs) (hcp : m ≤ cp) (hyes : okA n a b c at_ m = true) :
    Calls Tryz.prog 86 #[.pointer (some ⟨g, 0, none⟩), .agg #[.int .i64 a, .int .i64 b, .int .u32 c], .int .i64 at_, .slice A m cp] W fun e w' => e = .returned (.bool true) ∧ ∃ d' : Nat, d' ≤ d + 64 ∧ Sep w0 w' (RT g n las (appR n las wt a b c at_ xs) d' :: F) := by
  have A0 := Aside0.mk (h.newBlk 80 #[.int .i64 a, .int .i64 b, .int .u32 c])
  have HL := Aside0.mk (And.intro hl hw)
  have z0 := (A0.out.cell 0).trans rfl
  have z1 := (A0.out.cell 1).trans rfl
  have z2 := (A0.out.cell 2).trans rfl
  have hxl := (hx W h.tail).1
  have HXL := Aside0.mk hxl
  have HX := Aside0.mk hx
  have hoi := ok_in hyes
  have hr : rightR a b c n = true := by
    have h := hyes
    unfold okA at h
    simp only [Bool.and_eq_true] at h
    exact h.1
  have HR := Aside0.mk hr
  have HV := Aside0.mk hyes
  obtain ⟨Lg, rfl⟩ := Int.eq_ofNat_of_zero_le (show 0 ≤ a by omega)
  obtain ⟨p, rfl⟩ := Int.eq_ofNat_of_zero_le (show 0 ≤ at_ by omega)
  obtain ⟨NL, hNL⟩ : ∃ N, 64 * Lg = N := ⟨_, rfl⟩
  have hLL : (logF n las wt (Lg : Int) b c).length = NL := by
    unfold logF
    rw [if_pos hr, Int.toNat_natCast, secs_len (fun i hi => by rw [secF_len hl hw, if_pos (by omega)])]
    exact hNL
  have HLL := Aside0.mk hLL
  have hpm : p + m ≤ NL := by omega
  have hNb : NL ≤ 4096 := by omega
  have hLg : Lg ≤ 64 := by omega
  have HB := Aside0.mk (show p + m ≤ NL ∧ NL ≤ 4096 ∧ 0 < NL ∧ Lg ≤ 64 ∧ 64 * Lg = NL ∧ 2 + Lg ≤ n by omega)
  have HRR : Aside0 (appR n las wt (Lg : Int) b c (p : Int) xs = appW las wt p xs) := ⟨by unfold appR; rw [hxl, hyes, Int.toNat_natCast]; rfl⟩
  have HD := Aside0.mk hd
  have hlog := logF_of (c := c) (b := b) hl hw hr
  have hF := Ref.flushed_len hl hw
  have HLOG : Aside0 (∀ j, j < Lg → sec (over (logF n las wt (Lg : Int) b c) p xs) j = sec (over (flushed las wt) (128 + p) xs) (2 + j)) := ⟨fun j hj => by rw [hlog]; exact sec_log (by rw [hxl, hNL]; exact hpm) (by rw [hF]; omega) hj⟩
  have hm63 : m ≤ 9223372036854775807 := by omega
  have hq1 : ¬ (NL : Int) < (p : Int) := by omega
  have hq2 : ¬ (NL : Int) - (p : Int) < (m : Int) := by omega
  have hpi : ¬ (p : Int) < 0 := by omega
  obtain ⟨e1, e2, e3, -, -, -⟩ := ra_nums (j := 0) hpm hNb (by decide)
  clear h hl hw hr hyes hoi hx hLL hNL hn hlog hF hat hd hxl e2
  have qT := eqNil
  go_enter Tryz.func86, Tryz.ntmps86
  go_wp2_with fail
  refine (rlog_yes A0.out.at2 HL.out.1 HL.out.2 (Lg : Int) b c HR.out).mono ?_
  rintro e w1 ⟨v1, rfl, hS1⟩
  obtain ⟨g1, c1, rfl⟩ := hS1.rowFormN HLL.out HB.out.2.2.1
  have hcc := hS1.rowC.2.1
  have A1 := Aside0.mk hS1
  obtain ⟨o, n', c', hcut, hn', hon, ho⟩ := cutAt (g := g1) (N := NL) (c := c1) (j := p) (J := (p : Int)) rfl (by omega) hcc
  have HOV := Aside0.mk (over_at (ys := xs) HLL.out hn' (by rw [HXL.out]; exact hpm) ho hon)
  have HON := Aside0.mk hon
  have HCC := Aside0.mk hcc
  clear hS1 z0 z1 z2 hn' hon ho hcc
  go_wp2_with (first | (refine gate_builtin (b := .copy) (xs := #[.tmp 37, .tmp 38]) rfl ?_; go_loud (refine A1.out.copyRow rfl (.tmp 37) (.tmp 38) rfl Tryz.underlying24 size1 (o := o) (n' := n') (c' := c') (m := m) (c := cp) (A := A) (ys := xs) rfl rfl (HX.out _ A1.out.tail.tail.tail) HON.out ?_); intro W2 hS2; rw [HOV.out] at hS2; have B2 := Aside0.mk hS2.at2; clear hS2))
  have HLG : Aside0 ((over (logF n las wt (Lg : Int) b c) p xs).length = NL) := ⟨by rw [over_len (by rw [HLL.out, HXL.out]; exact HB.out.1)]; exact HLL.out⟩
  obtain ⟨lg, hlg⟩ : ∃ l, over (logF n las wt (Lg : Int) b c) p xs = l := ⟨_, rfl⟩
  rw [hlg] at B2 HLG HLOG
  have HAL : Aside0 (appI las wt p xs Lg = appW las wt p xs) := ⟨appI_all (by rw [HXL.out, HB.out.2.2.2.2.1]; exact HB.out.1)⟩
  have HWL : Aside0 (∀ j, j ≤ Lg → ∀ i b, appI las wt p xs j i = some b → b.length = 64) := ⟨fun j hj i y hy => by
    have hF2 : 128 + p + xs.length ≤ 64 * n := by have h1 := HB.out; rw [HXL.out]; omega
    unfold appI at hy
    split at hy
    · exact appW_len HL.out.1 HL.out.2 hF2 i y hy
    · exact HL.out.2 i y hy⟩
  clear hcut hlg HOV HON hq1 hq2 hpi e1 e3 hpm hNb hm63
  go_loopg [10] Lg (fun k_ v wr => ∃ (j d' : Nat), v = .int .i64 (j : Int) ∧ j + k_ = Lg ∧ d' ≤ d + j ∧ Sep w0 wr (RT g n las (appI las wt p xs j) d' :: Row U8 5 (.slice (some ⟨g1, 0, none⟩) NL c1) lg :: Blk W.heap.size 80 #[.int .i64 (Lg : Int), .int .i64 b, .int .u32 c] :: F))
  case atStart => exact ⟨0, d, rfl, by omega, by omega, by rw [appI_zero]; exact B2.out⟩
  case round =>
    obtain ⟨j, d', rfl, hjk, hd', hS⟩ := hrel
    have AK := Aside0.mk (And.intro hjk hd')
    have AS := Aside0.mk hS
    have z0 := (AS.out.at3.cell 0).trans rfl
    have z1 := (AS.out.at3.cell 1).trans rfl
    have z2 := (AS.out.at3.cell 2).trans rfl
    clear hS
    by_cases cj : j < Lg
    case neg =>
      obtain rfl : j = Lg := by omega
      have hjl : ¬ (j : Int) < (j : Int) := by omega
      clear hjk hd' cj hLg
      go_wp2_with fail
      go_ret
      exact ⟨by first | rfl | (simp; done), d', by have := AK.out; have := HB.out; omega, by rw [HRR.out, ← HAL.out]; exact AS.out.drop2.drop2⟩
    case pos =>
    have AN := Aside0.mk (show j + 1 + (gk - 1) = Lg ∧ d' ≤ d + (j + 1) ∧ d' + 1 ≤ d + (j + 1) ∧ gk - 1 < gk ∧ j ≤ Lg ∧ d' ≤ 1000000 ∧ j < Lg by have := HD.out; have := HB.out; omega)
    have hjl : (j : Int) < (Lg : Int) := by omega
    have hjld : decide ((j : Int) < (Lg : Int)) = true := decide_eq_true hjl
    by_cases hm0 : m = 0
    case pos =>
      subst hm0
      have hnl : xs = [] := List.eq_nil_of_length_eq_zero HXL.out
      have HN0 : Aside0 (appI las wt p xs j = appW las wt p xs) := ⟨by rw [hnl, appI_nil, appW_nil]⟩
      clear hjk hd' cj hLg hnl
      go_wp2_with fail
      go_ret
      exact ⟨by first | rfl | (simp; done), d', by have := AK.out; have := HB.out; omega, by rw [HRR.out, ← HN0.out]; exact AS.out.drop2.drop2⟩
    case neg =>
    have hm1 : (0 : Int) < (m : Int) := by omega
    have hm1n : 0 < m := by omega
    have hm1d : decide ((0 : Int) < (m : Int)) = true := decide_eq_true hm1
    have hm1e : decide (0 < m) = true := decide_eq_true hm1n
    have HNE : Aside0 (xs ≠ []) := ⟨fun h => by have h1 := HXL.out; rw [h] at h1; simp at h1; omega⟩
    by_cases qc1 : 64 * j < p + m
    case neg =>
      have HNO : Aside0 (appI las wt p xs (j + 1) = appI las wt p xs j) := ⟨appI_no (fun h => qc1 (by rw [HXL.out] at h; exact h.2.1))⟩
      have hd1 : ¬ (j : Int) * 64 < (p : Int) + (m : Int) := by omega
      have hd1d : decide ((j : Int) * 64 < (p : Int) + (m : Int)) = false := decide_eq_false hd1
      obtain ⟨e1, e2, e3, e4, e5, e6⟩ := ra_nums (j := j) HB.out.1 HB.out.2.1 (by omega)
      clear hjk hd' cj hLg qc1 e1 e5 e6 hm0
      go_wp2_with fail
      go_roundg (gk - 1)
      case measure => exact AN.out.2.2.2.1
      case rel => exact ⟨j + 1, d', by go_num, AN.out.1, AN.out.2.1, by rw [HNO.out]; exact AS.out⟩
    case pos =>
    have hd1 : (j : Int) * 64 < (p : Int) + (m : Int) := by omega
    have hd1d : decide ((j : Int) * 64 < (p : Int) + (m : Int)) = true := decide_eq_true hd1
    by_cases qc2 : p < 64 * (j + 1)
    case neg =>
      have HNO : Aside0 (appI las wt p xs (j + 1) = appI las wt p xs j) := ⟨appI_no (fun h => qc2 h.2.2)⟩
      have hd2 : ¬ (p : Int) < ((j : Int) + 1) * 64 := by omega
      have hd2d : decide ((p : Int) < ((j : Int) + 1) * 64) = false := decide_eq_false hd2
      obtain ⟨e1, e2, e3, e4, e5, e6⟩ := ra_nums (j := j) HB.out.1 HB.out.2.1 (by omega)
      clear hjk hd' cj hLg qc1 qc2 e1 e6 hm0
      go_wp2_with fail
      go_roundg (gk - 1)
      case measure => exact AN.out.2.2.2.1
      case rel => exact ⟨j + 1, d', by go_num, AN.out.1, AN.out.2.1, by rw [HNO.out]; exact AS.out⟩
    case pos =>
    have hd2 : (p : Int) < ((j : Int) + 1) * 64 := by omega
    have hd2d : decide ((p : Int) < ((j : Int) + 1) * 64) = true := decide_eq_true hd2
    have HYE := Aside0.mk (appI_yes (las := las) (wt := wt) (at_ := p) (i := j) (b := xs) ⟨HNE.out, by rw [HXL.out]; exact qc1, qc2⟩)
    obtain ⟨A2, hcut2, hT2⟩ := Base.mid8 (A := some ⟨g1, 0, none⟩) (c := c1) (n := NL) (a := 64 * j) (b := 64 * j + 64) (l := lg) (J := (j : Int) * 64) (K := ((j : Int) + 1) * 64) (by omega) (by omega) HLG.out (by omega) (by have := HB.out.2.2.2.2.1; omega) HCC.out
    rw [show 64 * j + 64 - 64 * j = 64 by omega] at hcut2 hT2
    obtain ⟨y, hy⟩ : ∃ y, (lg.take (64 * j + 64)).drop (64 * j) = y := ⟨_, rfl⟩
    rw [hy] at hT2
    have HFI : Aside0 ((fun k => if k = 2 + j then some y else appI las wt p xs j k) = appI las wt p xs (j + 1)) := ⟨by rw [HYE.out, ← hy, mid_sec, HLOG.out j AN.out.2.2.2.2.2.2]⟩
    have HC2 : Aside0 (∀ W' : World, Sep w0 W' (Row U8 5 (.slice (some ⟨g1, 0, none⟩) NL c1) lg :: Blk W.heap.size 80 #[.int .i64 (Lg : Int), .int .i64 b, .int .u32 c] :: F) → U8.C W' A2 64 y) := ⟨fun W' hW => hT2 _ (by have h := hW.rowC.2.2; rwa [HLG.out] at h)⟩
    have HIN : Aside0 (2 + j < n) := ⟨by have := HB.out.2.2.2.2.2; omega⟩
    obtain ⟨i, hi⟩ : ∃ i, 2 + j = i := ⟨_, rfl⟩
    have hiI : 2 + (j : Int) = (i : Int) := by omega
    obtain ⟨e1, e2, e3, e4, e5, e6⟩ := ra_nums (j := j) HB.out.1 HB.out.2.1 (by omega)
    have e6' := e6.trans hiI
    clear e6
    rw [hi] at HIN HFI
    have HI := Aside0.mk hi
    clear hjk hd' cj hLg qc1 qc2 e1 hm0 hT2 hi hiI hy
    go_wp2_with fail
    refine (Ref.rwrite_ AS.out HL.out.1 (HWL.out j AN.out.2.2.2.2.1) AN.out.2.2.2.2.2.1 i HIN.out HC2.out).mono ?_
    rintro e w5 ⟨rfl, hS5⟩
    rw [HFI.out] at hS5
    have B5 := Aside0.mk hS5
    clear hS5 z0 z1 z2
    go_wp2_with fail
    go_roundg (gk - 1)
    case measure => exact AN.out.2.2.2.1
    case rel => exact ⟨j + 1, d' + 1, by go_num, AN.out.1, AN.out.2.2.1, B5.out⟩
theorem rappend_ (h : Sep w0 W (RT g n las wt d :: F)) (hl : las.length = 64 * n) (hn : n ≤ 160) (hd : d ≤ 900000) (hw : ∀ i b, wt i = some b → b.length = 64) (a b c at_ : Int) (hat : -9223372036854775808 ≤ at_ ∧ at_ ≤ 9223372036854775807) {A : Option Addr} {m cp : Nat} {xs : List Int} (hx : ∀ W', Sep w0 W' F → U8.C W' A m xs) (hcp : m ≤ cp) :
    Calls Tryz.prog 86 #[.pointer (some ⟨g, 0, none⟩), .agg #[.int .i64 a, .int .i64 b, .int .u32 c], .int .i64 at_, .slice A m cp] W fun e w' => e = .returned (.bool (okA n a b c at_ m)) ∧ ∃ d' : Nat, d' ≤ d + 64 ∧ Sep w0 w' (RT g n las (appR n las wt a b c at_ xs) d' :: F) := by
  have hxl := (hx W h.tail).1
  cases ho : okA n a b c at_ m with
  | false =>
    refine (rappend_no h hl hn hw a b c at_ hat (hx W h.tail).2.1 ho).mono ?_
    rintro e w' ⟨rfl, hS⟩
    refine ⟨rfl, d, by omega, ?_⟩
    rw [show appR n las wt a b c at_ xs = wt by unfold appR; rw [hxl, ho]; rfl]
    exact hS
  | true => exact rappend_yes h hl hn hd hw a b c at_ hat hx hcp ho
end
end Go.Proofs.YtjngnigelkgekaaGreat.Redo
namespace Go.Proofs.YtjngnigelkgekaaGreat.Tape
open Go.RowKit Go.Proofs.YtjngnigelkgekaaGreatW.PrintWords Go.Proofs.YtjngnigelkgekaaGreatW.PrintLast Go.Proofs.YtjngnigelkgekaaGreatW.PrintMore Go.Proofs.YtjngnigelkgekaaGreat.Kit
abbrev I64 : Kd Int := Kd.int .i64
def okN (n r : Int) : Prop := 0 ≤ r ∧ (1 ≤ n → r < n) ∧ (n < 1 → r = 0)
abbrev Tp (g : Nat) (A : Option Addr) (n c : Nat) (at_ : Int) : HP := Blk g 56 #[.slice A n c, .int .i64 at_]
set_option maxHeartbeats 1600000 in
set_option maxRecDepth 100000 in
theorem next_ {w0 W : World} {F : List HP} {g : Nat} {A : Option Addr} {n c : Nat} {L : List Int} {p : Int} (ht : I64.C w0 A n L) (hp : 0 ≤ p) (h : Sep w0 W (Tp g A n c p :: F)) (k : Int) :
    Calls Tryz.prog 28 #[.pointer (some ⟨g, 0, none⟩), .int .i64 k] W fun e w' => ∃ r p', e = .returned (.int .i64 r) ∧ okN k r ∧ 0 ≤ p' ∧ Sep w0 w' (Tp g A n c p' :: F) := by
  obtain rfl : L.length = n := ht.1
  have hm : L.length ≤ 9223372036854775807 := ht.2.1
  have AH := Aside0.mk h
  have AT := Aside0.mk ht
  have c0 : ∀ q, (W.drewN q).cell? ⟨g, 0, none⟩ = some (.slice A L.length c) := fun q => ((h.drewN q).cell 0).trans rfl
  have c1 : ∀ q, (W.drewN q).cell? ⟨g, 1, none⟩ = some (.int .i64 p) := fun q => ((h.drewN q).cell 1).trans rfl
  clear h ht
  by_cases h1 : (L.length : Int) ≤ p
  · go_enter Tryz.func28, Tryz.ntmps28
    go_wp2_with fail
    go_quiet (fail)
    go_wp2_with fail
    go_ret
    exact ⟨0, p, by first | rfl | (simp; done), ⟨by decide, fun h => by omega, fun _ => rfl⟩, hp, AH.out.drewN _⟩
  · have h1' : decide ((L.length : Int) ≤ p) = false := decide_eq_false h1
    by_cases h2 : k < 1
    · go_enter Tryz.func28, Tryz.ntmps28
      go_wp2_with fail
      go_quiet (fail)
      go_wp2_with fail
      go_ret
      exact ⟨0, p, by first | rfl | (simp; done), ⟨by decide, fun h => by omega, fun _ => rfl⟩, hp, AH.out.drewN _⟩
    · have h2' : decide (k < 1) = false := decide_eq_false h2
      obtain ⟨N, rfl⟩ := Int.eq_ofNat_of_zero_le hp
      have hN : N < L.length := by omega
      obtain ⟨ad, hA, hc⟩ := Kd.at_int AT.out (N : Int) (by omega) (by omega)
      subst hA
      rw [Int.toNat_natCast] at hc
      have HX := Aside0.mk hc
      generalize rd L (N : Int) = x at *
      go_enter Tryz.func28, Tryz.ntmps28
      go_wp2_with fail
      go_quiet (fail)
      have hcell1 := c1 nq
      have hfr : (W.drewN nq).frozen? ⟨g, 1, none⟩ = false := (AH.out.drewN nq).frozen 1
      have hNl : (N : Int) < (L.length : Int) := by omega
      have hw1 : wrap64 ((N : Int) + 1) = (N : Int) + 1 := IntWalk.wrap64_in _ (by omega)
      clear c0 c1 hc
      go_wp2_with fail
      have S3 := (AH.out.drewN nq).setBlk 1 (.int .i64 ((N : Int) + 1))
      obtain ⟨w3, hw3⟩ : ∃ w3, (W.drewN nq).setCell ⟨g, 1, none⟩ (.int .i64 ((N : Int) + 1)) = w3 := ⟨_, rfl⟩
      rw [hw3] at S3 ⊢
      replace S3 : Sep w0 w3 (Tp g (some ad) L.length c ((N : Int) + 1) :: F) := S3
      have d0 : w3.drew.cell? ⟨g, 0, none⟩ = some (.slice (some ad) L.length c) := (S3.drew.cell 0).trans rfl
      have d1 : w3.drew.cell? ⟨g, 1, none⟩ = some (.int .i64 ((N : Int) + 1)) := (S3.drew.cell 1).trans rfl
      have d2 : w3.drew.cell? (ad.add N) = some (.int .i64 x) := cell_later S3.drew.toBelow HX.out
      have A3 := Aside0.mk S3.drew
      have hws : wrap64 (N : Int) = (N : Int) := IntWalk.wrap64_in _ (by omega)
      have hin := Book.withinF_in (n := x) (lo := 0) (hi := 1073741824) (by decide)
      have hr : okN k ((Book.withinF x 0 1073741824).tmod k) := ⟨Int.tmod_nonneg _ hin.1, fun _ => Int.tmod_lt_of_pos _ (by omega), fun h => by omega⟩
      have AR := Aside0.mk hr
      have hk0 : ¬ k = 0 := by omega
      have hb := hin.2
      have ha := hin.1
      clear hin hr hw3 S3 hcell1 hfr hw1
      refine start_ (n := 15) (S := fun w' => w'.cell? ⟨g, 0, none⟩ = some (.slice (some ad) L.length c) ∧ w'.cell? ⟨g, 1, none⟩ = some (.int .i64 ((N : Int) + 1)) ∧ w'.cell? (ad.add N) = some (.int .i64 x)) (ds := [11]) #[false, false, false, false, false, false, false, false, false, false, false, false, false, false, false] (by kernel_rfl) rfl rfl ⟨d0, d1, d2⟩ (fun hHeld => ?_)
      refine pure_ (i := 0) (N := some 26) (v := ?_) (a' := ?_) #[true, false, false, false, false, false, false, false, false, false, false, false, false, false, false] rfl rfl (by kernel_rfl) (fun _ _ _ h => h) (Or.inl ⟨by rfl, ?_⟩) ?_ ?_
      rotate_left
      · intro w'
        go_simp
        with_reducible rfl
      rotate_left
      · simp only [Act.put, sIB, sCz, sCs, i64_w, i32_w]
        rfl
      refine pure_ (i := 1) (N := some 27) (v := ?_) (a' := ?_) #[true, true, false, false, false, false, false, false, false, false, false, false, false, false, false] rfl rfl (by kernel_rfl) (fun _ _ _ h => h) (Or.inl ⟨by rfl, ?_⟩) ?_ ?_
      rotate_left
      · intro w'
        go_simp
        with_reducible rfl
      rotate_left
      · simp only [Act.put, sIB, sCz, sCs, i64_w, i32_w]
        rfl
      refine pure_ (i := 2) (N := some 28) (v := ?_) (a' := ?_) #[true, true, true, false, false, false, false, false, false, false, false, false, false, false, false] rfl rfl (by kernel_rfl) (fun _ _ _ h => h) (Or.inl ⟨by rfl, ?_⟩) ?_ ?_
      rotate_left
      · intro w'
        go_simp
        with_reducible rfl
      rotate_left
      · simp only [Act.put, sIB, sCz, sCs, i64_w, i32_w]
        rfl
      refine pure_ (i := 4) (N := some 30) (v := ?_) (a' := ?_) #[true, true, true, false, true, false, false, false, false, false, false, false, false, false, false] rfl rfl (by kernel_rfl) (fun _ _ _ h => h) (Or.inl ⟨by rfl, ?_⟩) ?_ ?_
      rotate_left
      · intro w'
        go_simp
        with_reducible rfl
      rotate_left
      · simp only [Act.put, sIB, sCz, sCs, i64_w, i32_w]
        rfl
      refine pure_ (i := 5) (N := some 31) (v := ?_) (a' := ?_) #[true, true, true, false, true, true, false, false, false, false, false, false, false, false, false] rfl rfl (by kernel_rfl) (fun _ _ _ h => h) (Or.inl ⟨by rfl, ?_⟩) ?_ ?_
      rotate_left
      · intro w'
        go_simp
        with_reducible rfl
      rotate_left
      · simp only [Act.put, sIB, sCz, sCs, i64_w, i32_w]
        rfl
      refine pure_ (i := 6) (N := some 32) (v := ?_) (a' := ?_) #[true, true, true, false, true, true, true, false, false, false, false, false, false, false, false] rfl rfl (by kernel_rfl) (fun _ _ _ h => h) (Or.inl ⟨by rfl, ?_⟩) ?_ ?_
      rotate_left
      · intro w'
        go_simp
        with_reducible rfl
      rotate_left
      · simp only [Act.put, sIB, sCz, sCs, i64_w, i32_w]
        rfl
      refine pure_ (i := 12) (N := some 38) (v := ?_) (a' := ?_) #[true, true, true, false, true, true, true, false, false, false, false, false, true, false, false] rfl rfl (by kernel_rfl) (fun _ _ _ h => h) (Or.inl ⟨by rfl, ?_⟩) ?_ ?_
      rotate_left
      · intro w'
        go_simp
        with_reducible rfl
      rotate_left
      · simp only [Act.put, sIB, sCz, sCs, i64_w, i32_w]
        rfl
      refine take_ (i := 3) (N := some 29) (v := ?_) (a' := ?_) #[true, true, true, true, true, true, true, false, false, false, false, false, true, false, false] rfl rfl (by kernel_rfl) (fun _ _ _ h => h) (Or.inl ⟨by rfl, ?_⟩) hHeld ?_ ?_
      rotate_left
      · rintro w' ⟨s0, s1, s2⟩
        go_simp
        with_reducible rfl
      rotate_left
      · simp only [Act.put, sIB, sCz, sCs, i64_w, i32_w]
        rfl
      refine take_ (i := 7) (N := some 33) (v := ?_) (a' := ?_) #[true, true, true, true, true, true, true, true, false, false, false, false, true, false, false] rfl rfl (by kernel_rfl) (fun _ _ _ h => h) (Or.inl ⟨by rfl, ?_⟩) hHeld ?_ ?_
      rotate_left
      · rintro w' ⟨s0, s1, s2⟩
        go_simp
        with_reducible rfl
      rotate_left
      · simp only [Act.put, sIB, sCz, sCs, i64_w, i32_w]
        rfl
      refine pure_ (i := 8) (N := some 34) (v := ?_) (a' := ?_) #[true, true, true, true, true, true, true, true, true, false, false, false, true, false, false] rfl rfl (by kernel_rfl) (fun _ _ _ h => h) (Or.inl ⟨by rfl, ?_⟩) ?_ ?_
      rotate_left
      · intro w'
        go_simp
        with_reducible rfl
      rotate_left
      · simp only [Act.put, sIB, sCz, sCs, i64_w, i32_w]
        rfl
      refine pure_ (i := 9) (N := some 35) (v := ?_) (a' := ?_) #[true, true, true, true, true, true, true, true, true, true, false, false, true, false, false] rfl rfl (by kernel_rfl) (fun _ _ _ h => h) (Or.inl ⟨by rfl, ?_⟩) ?_ ?_
      rotate_left
      · intro w'
        go_simp
        with_reducible rfl
      rotate_left
      · simp only [Act.put, sIB, sCz, sCs, i64_w, i32_w]
        rfl
      refine take_ (i := 10) (N := some 36) (v := ?_) (a' := ?_) #[true, true, true, true, true, true, true, true, true, true, true, false, true, false, false] rfl rfl (by kernel_rfl) (fun _ _ _ h => h) (Or.inl ⟨by rfl, ?_⟩) hHeld ?_ ?_
      rotate_left
      · rintro w' ⟨s0, s1, s2⟩
        go_simp
        with_reducible rfl
      rotate_left
      · simp only [Act.put, sIB, sCz, sCs, i64_w, i32_w]
        rfl
      refine last_ (i := 11) (N := some 37) #[true, true, true, true, true, true, true, true, true, true, true, true, true, false, false] rfl rfl (by kernel_rfl) (by decide) (fun K hK => ?_)
      refine goes_ Tryz.func10 (by kernel_rfl) rfl #[.int .i64 x, .int .i64 0, .int .i64 1073741824] (by rfl) rfl rfl (by simp only [List.map_toArray, List.map_cons, List.map_nil]; rfl) ?_
      with_reducible refine (Book.within_ _ _ _ _ (by decide) (by decide) (by decide)).mono ?_
      rintro e w4 ⟨rfl, rfl⟩
      refine ⟨_, rfl, ?_⟩
      refine hK.out _ _ ?_
      clear hK K
      refine norm_ (a' := ?_) ?_ ?_
      rotate_left
      · show Act.put _ (some 37) _ = _
        simp only [Act.put, sIB, sCz, sCs, i64_w, i32_w]
        rfl
      refine pure_ (i := 13) (N := some 39) (v := ?_) (a' := ?_) #[true, true, true, true, true, true, true, true, true, true, true, true, true, true, false] rfl rfl (by kernel_rfl) (fun _ _ _ h => h) (Or.inl ⟨by rfl, ?_⟩) ?_ ?_
      rotate_left
      · intro w'
        go_simp
        with_reducible rfl
      rotate_left
      · simp only [Act.put, sIB, sCz, sCs, i64_w, i32_w]
        rfl
      refine pure_ (i := 14) (N := some 4) (v := ?_) (a' := ?_) #[true, true, true, true, true, true, true, true, true, true, true, true, true, true, true] rfl rfl (by kernel_rfl) (fun _ _ _ h => h) (Or.inl ⟨by rfl, ?_⟩) ?_ ?_
      rotate_left
      · intro w'
        go_simp
        with_reducible rfl
      rotate_left
      · simp only [Act.put, sIB, sCz, sCs, i64_w, i32_w]
        rfl
      refine done_ (by kernel_rfl) ?_
      go_wp2_with fail
      go_ret
      exact ⟨_, _, by first | rfl | (simp; done), AR.out, by omega, A3.out⟩
end Go.Proofs.YtjngnigelkgekaaGreat.Tape
namespace Go.Proofs.YtjngnigelkgekaaGreat.Tape
open Go.RowKit Go.Proofs.YtjngnigelkgekaaGreatW.PrintWords Go.Proofs.YtjngnigelkgekaaGreatW.PrintLast Go.Proofs.YtjngnigelkgekaaGreatW.PrintMore Go.Proofs.YtjngnigelkgekaaGreat.Kit Go.Proofs.YtjngnigelkgekaaGreat.Base Go.Proofs.YtjngnigelkgekaaGreat.Plain Go.Proofs.YtjngnigelkgekaaGreat.Delta
theorem okF_more {a b : Int} (h : a ≤ b) : ∀ {l : List Chg} {last : Int}, okF a last l = true → okF b last l = true
  | [], _, _ => rfl
  | c :: r, last, hk => by
    unfold okF at hk ⊢
    rw [Bool.and_eq_true, decide_eq_true_eq] at hk ⊢
    exact ⟨⟨hk.1.1, by omega, hk.1.2.2⟩, okF_more h hk.2⟩
theorem okF_snoc {a : Int} {x : Chg} (hx : x.1 = a) (hb : x.2.length = 64) : ∀ {l : List Chg} {last : Int}, last < a → okF a last l = true → okF (a + 1) last (l ++ [x]) = true
  | [], last, hl, _ => by
    show (decide _ && true) = true
    rw [Bool.and_true, decide_eq_true_eq]
    omega
  | c :: r, last, hl, hk => by
    rw [List.cons_append]
    unfold okF at hk ⊢
    rw [Bool.and_eq_true, decide_eq_true_eq] at hk ⊢
    exact ⟨⟨hk.1.1, by omega, hk.1.2.2⟩, okF_snoc hx hb (by omega) hk.2⟩
theorem bytes_set {l : List Int} (h : Bytes l) {x : Int} (h0 : 0 ≤ x) (h1 : x ≤ 255) (i : Nat) : Bytes (l.set i x) := by
  intro y hy
  rcases List.mem_or_eq_of_mem_set hy with h2 | rfl
  · exact h y h2
  · exact ⟨h0, h1⟩
def good (m : Nat) (l : List Chg) : Prop := okF (m : Int) (-1) l = true ∧ (∀ c ∈ l, Bytes c.2) ∧ l.length ≤ m
theorem good.more {j : Nat} {l : List Chg} (h : good j l) : good (j + 1) l := ⟨okF_more (by omega) h.1, h.2.1, by have := h.2.2; omega⟩
theorem good.snoc {j : Nat} {l : List Chg} (h : good j l) {bs : List Int} (hb : Bytes bs) (hl : bs.length = 64) : good (j + 1) (l ++ [((j : Int), bs)]) :=
  ⟨by have := okF_snoc (x := ((j : Int), bs)) rfl hl (by omega) h.1; rwa [show ((j + 1 : Nat) : Int) = (j : Int) + 1 by omega], fun c hc => by
    rcases List.mem_append.1 hc with h1 | h1
    · exact h.2.1 c h1
    · obtain rfl := List.mem_singleton.1 h1; exact hb, by rw [List.length_append, List.length_singleton]; have := h.2.2; omega⟩
set_option maxHeartbeats 3200000 in
set_option maxRecDepth 100000 in
theorem changes_ {w0 W : World} {F : List HP} {g : Nat} {A : Option Addr} {n c : Nat} {L : List Int} {p : Int} (ht : I64.C w0 A n L) (hp : 0 ≤ p) (h : Sep w0 W (Tp g A n c p :: F)) (m : Nat) (hm : m ≤ 1000) :
    Calls Tryz.prog 31 #[.pointer (some ⟨g, 0, none⟩), .int .i64 (m : Int)] W fun e w' => ∃ v l p', e = .returned v ∧ good m l ∧ 0 ≤ p' ∧ Sep w0 w' (Row KC 75 v l :: Tp g A n c p' :: F) := by
  have A0 := Aside0.mk (h.nilRow KC 75)
  have AT := Aside0.mk ht
  have hmk := make_ (m := 64) (by omega)
  rw [show ((64 : Nat) : Int) = 64 from rfl] at hmk
  clear h ht
  go_enter Tryz.func31, Tryz.ntmps31
  go_wp2_with fail
  go_loopg [5, 6] m (fun k v s wr => ∃ (j : Nat) (l : List Chg) (p : Int), s = .int .i64 (j : Int) ∧ j + k = m ∧ good j l ∧ 0 ≤ p ∧ Sep w0 wr (Row KC 75 v l :: Tp g A n c p :: F))
  case atStart => exact ⟨0, [], p, rfl, by omega, ⟨rfl, (fun _ h => by cases h), Nat.le_refl _⟩, hp, A0.out⟩
  case round =>
    obtain ⟨j, l, p1, rfl, hjm, hg, hp1, hS⟩ := hrel
    obtain ⟨A3, c3, rfl⟩ := hS.rowV
    obtain ⟨G, rfl⟩ : ∃ G, G = gk := ⟨_, rfl⟩
    have AK := Aside0.mk hjm
    have AG := Aside0.mk (And.intro hg hp1)
    have AS := Aside0.mk hS
    clear hS hg hp1 hp
    by_cases hj : j < m
    · clear hjm
      go_wp2_with fail
      refine (next_ AT.out AG.out.2 AS.out.at2 3).mono ?_
      rintro e w1 ⟨r1, p2, rfl, hr1, hp2, hS1⟩
      have A1 := Aside0.mk hS1
      have AP := Aside0.mk hp2
      clear hS1 hp2 hr1
      by_cases hz : r1 = 0
      · subst hz
        have M0 := Aside0.mk (A1.out.madeRow (enc := Value.int .u8) (h1 := fun _ => rfl) (e := 5) (0 : Int) 64 (by omega))
        go_wp2_with fail
        go_loopg [8] 4 (fun k s wx => ∃ (i : Nat) (bs : List Int) (p : Int), s = .int .i64 (i : Int) ∧ i + k = 4 ∧ bs.length = 64 ∧ Bytes bs ∧ 0 ≤ p ∧ Sep w0 wx (Row U8 5 (.slice (some ⟨w1.heap.size, 0, none⟩) 64 64) bs :: Tp g A n c p :: Row KC 75 (.slice A3 l.length c3) l :: F))
        case atStart => exact ⟨0, _, p2, rfl, by omega, List.length_replicate, fun x hx => by rw [(List.mem_replicate.1 hx).2]; decide, AP.out, M0.out⟩
        case round =>
          obtain ⟨i, bs, p3, rfl, hik, hbl, hbs, hp3, hS3⟩ := hrel
          have AI := Aside0.mk hik
          have A3' := Aside0.mk hS3
          have AB := Aside0.mk (And.intro hbl (And.intro hbs hp3))
          clear hS3 hbl hbs hp3
          by_cases hi : i < 4
          · clear hik
            go_wp2_with fail
            refine (next_ AT.out AB.out.2.2 A3'.out.at2 64).mono ?_
            rintro e w4 ⟨r4, p4, rfl, hr4, hp4, hS4⟩
            have A4 := Aside0.mk hS4
            have AP4 := Aside0.mk hp4
            obtain ⟨R, rfl⟩ := Int.eq_ofNat_of_zero_le hr4.1
            have hR : R < 64 := by have := hr4.2.1 (by decide); omega
            clear hS4 hp4 hr4
            go_wp2_with fail
            refine (next_ AT.out AP4.out A4.out 256).mono ?_
            rintro e w5 ⟨r5, p5, rfl, hr5, hp5, hS5⟩
            have hu0 := hr5.1
            have hu1 := hr5.2.1 (by decide)
            have hwu : IntKind.u8.wrap r5 = r5 := by rw [IntKind.wrap_u8]; omega
            obtain ⟨f1, f2⟩ := hS5.at2.rowCell (0 : Int) R hR
            have A5 := Aside0.mk hS5
            have AP5 := Aside0.mk hp5
            have hR2 : (R : Int) < 64 := by omega
            clear hS5 hp5 hr5
            go_wp2
            go_roundg (gk - 1)
            case measure => have := AI.out; omega
            case rel => exact ⟨i + 1, bs.set R r5, p5, by go_num, by have := AI.out; omega, by rw [List.length_set]; exact AB.out.1, bytes_set AB.out.2.1 hu0 (by omega) R, AP5.out, A5.out.at2.putRow (enc := Value.int .u8) R r5⟩
          · have hi4 : i = 4 := by omega
            subst hi4
            have E5 := Aside0.mk ((A3'.out.elSlice.elPair (a := Kd.int .i64) (x := (j : Int)) (p := [.int .i64 (j : Int)]) (fun _ _ _ => rfl)).at3)
            have hll : l.length ≤ 1000 := by have := AG.out.1.2.2; omega
            clear hik
            go_wp2_with (first | (refine gate_builtin (b := .append) (xs := #[.tmp 29, .tmp 33]) rfl ?_; go_loud (refine E5.out.appendDeep rfl (.tmp 29) (.tmp 33) 60 _ 32 rfl Tryz.underlying60 infoCh rfl (by decide) (by decide) rfl rfl (by omega) ?_; intro v6 w6 hs6 hS6; have A6 := Aside0.mk hS6; clear hS6)))
            go_roundg (G - 1)
            case measure => have := AK.out; omega
            case rel => exact ⟨j + 1, l ++ [((j : Int), bs)], p3, by go_num, by have := AK.out; omega, AG.out.1.snoc AB.out.2.1 AB.out.1, AB.out.2.2, A6.out⟩
      · go_wp2_with fail
        go_roundg (G - 1)
        case measure => have := AK.out; omega
        case rel => exact ⟨j + 1, l, p2, by go_num, by have := AK.out; omega, AG.out.1.more, AP.out, A1.out.at2⟩
    · have hjm2 : j = m := by omega
      subst hjm2
      clear hjm
      go_wp2_with fail
      go_ret
      exact ⟨_, l, p1, by first | rfl | (simp; done), AG.out.1, AG.out.2, AS.out⟩
end Go.Proofs.YtjngnigelkgekaaGreat.Tape
namespace Go.Proofs.YtjngnigelkgekaaGreat.Redo
open Go.RowKit Go.Proofs.YtjngnigelkgekaaGreatW.PrintWords Go.Proofs.YtjngnigelkgekaaGreatW.PrintLast Go.Proofs.YtjngnigelkgekaaGreatW.PrintMore Go.Proofs.YtjngnigelkgekaaGreat.Kit Go.Proofs.YtjngnigelkgekaaGreat.Plain Go.Proofs.YtjngnigelkgekaaGreat.Disk Go.Proofs.YtjngnigelkgekaaGreat.Root Go.Proofs.YtjngnigelkgekaaGreat.Frame
open Go.Proofs.YtjngnigelkgekaaGreat.Home (K2 RT)
open Go.Proofs.YtjngnigelkgekaaGreat.Delta (Chg KC deltaF oneF two okF)
open Go.Proofs.YtjngnigelkgekaaGreat.Tape (Tp okN good)
def TpX (g : Nat) (A : Option Addr) (n c : Nat) : HP := Ex fun p : Int => Star [Pu (0 ≤ p), Tp g A n c p]
section
variable {w0 W : World} {F : List HP} {g n c : Nat} {A : Option Addr} {L : List Int}
theorem tpx_open (h : Sep w0 W (TpX g A n c :: F)) : ∃ p : Int, 0 ≤ p ∧ Sep w0 W (Tp g A n c p :: F) := by
  obtain ⟨p, h1⟩ := h.ex
  obtain ⟨h2, h3⟩ := h1.star.pu
  exact ⟨p, h2, h3⟩
theorem tpx_shut {p : Int} (hp : 0 ≤ p) (h : Sep w0 W (Tp g A n c p :: F)) : Sep w0 W (TpX g A n c :: F) := Sep.unex p (Sep.unstar (L := [_, _]) (h.unpu hp))
theorem nextX_ (ht : I64.C w0 A n L) (h : Sep w0 W (TpX g A n c :: F)) (k : Int) :
    Calls Tryz.prog 28 #[.pointer (some ⟨g, 0, none⟩), .int .i64 k] W fun e w' => ∃ r, e = .returned (.int .i64 r) ∧ okN k r ∧ Sep w0 w' (TpX g A n c :: F) := by
  obtain ⟨p, hp, h2⟩ := tpx_open h
  refine (Tape.next_ ht hp h2 k).mono ?_
  rintro e w' ⟨r, p', rfl, ho, hp', hS⟩
  exact ⟨r, rfl, ho, tpx_shut hp' hS⟩
theorem changesX_ (ht : I64.C w0 A n L) (h : Sep w0 W (TpX g A n c :: F)) (m : Nat) (hm : m ≤ 1000) :
    Calls Tryz.prog 31 #[.pointer (some ⟨g, 0, none⟩), .int .i64 (m : Int)] W fun e w' => ∃ v l, e = .returned v ∧ good m l ∧ Sep w0 w' (Row KC 75 v l :: TpX g A n c :: F) := by
  obtain ⟨p, hp, h2⟩ := tpx_open h
  refine (Tape.changes_ ht hp h2 m hm).mono ?_
  rintro e w' ⟨v, l, p', rfl, hg, hp', hS⟩
  exact ⟨v, l, rfl, hg, (tpx_shut hp' hS.at2).at2⟩
end
theorem two_bytes {n : Int} : Bytes (two n) := fun x hx => by
  simp [two] at hx
  omega
theorem flat_bytes : ∀ {l : List Chg}, (∀ c ∈ l, Bytes c.2) → Bytes (l.flatMap oneF)
  | [], _ => Bytes.nil
  | c :: r, h => by
    rw [List.flatMap_cons]
    exact (two_bytes.app (h c (List.mem_cons_self ..))).app (flat_bytes (fun x hx => h x (List.mem_cons_of_mem _ hx)))
theorem okF_len : ∀ {l : List Chg} {pages last : Int}, okF pages last l = true → (l.flatMap oneF).length = 66 * l.length
  | [], _, _, _ => rfl
  | c :: r, pages, last, h => by
    unfold okF at h
    rw [Bool.and_eq_true, decide_eq_true_eq] at h
    rw [List.flatMap_cons, List.length_append, okF_len h.2, oneF, List.length_append, h.1.2.2, List.length_cons]
    simp [two]; omega
end Go.Proofs.YtjngnigelkgekaaGreat.Redo
