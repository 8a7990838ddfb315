/- Redo6, RedoS, RedoT, Redo7, Redo9, Redo10, Redo8, Redo11, Tape1, Tape2, Redo12, StCommit, StConv: what StoreOpens needs. -/
import Derived.Test.YtjngnigelkgekaaTstoreOpens12
import Derived.Lib.SliceRun
import Derived.Deep.CutRange
import Derived.Deep.QuietTactic
import Derived.Deep.RegionWith
import Derived.Deep.LoopGhost
import Derived.Lib.SlBytesConst
namespace Go.Proofs.Ytjngnigelkgekaa.Redo
set_option linter.unusedVariables false
set_option linter.unusedSimpArgs false
open Go.RowKit Go.Proofs.YtjngnigelkgekaaW.PrintWords Go.Proofs.YtjngnigelkgekaaW.PrintLast Go.Proofs.YtjngnigelkgekaaW.PrintMore Go.Proofs.Ytjngnigelkgekaa.Kit Go.Proofs.Ytjngnigelkgekaa.Plain Go.Proofs.Ytjngnigelkgekaa.Disk Go.Proofs.Ytjngnigelkgekaa.Root Go.Proofs.Ytjngnigelkgekaa.Frame
open Go.Proofs.Ytjngnigelkgekaa.Home (K2)
open Go.Proofs.Ytjngnigelkgekaa.Delta (Chg KC undeltaF)
abbrev K3 : Kd (List Chg) := Kd.slice 106 KC
theorem infoK : (Try.prog.info? 47).map (fun i => (i.zero, i.size, i.bytes)) = some (some (.slice none 0 0), 1, 24) := by kernel_rfl
theorem slice_at {β : Type} {e : Nat} {d : Kd β} {W : World} {A : Option Addr} {n : Nat} {l : List (List β)} (h : (Kd.slice e d).C W A n l) {j : Nat} (hj : j < n) : ∃ (hx : j < l.length) (ad : Addr) (B : Option Addr) (c : Nat), A = some ad ∧ W.cell? (ad.add j) = some (.slice B (l[j]).length c) ∧ (l[j]).length ≤ c ∧ d.C W B (l[j]).length l[j] := by
  obtain ⟨hx, ad, cs, he, hk, hc0, _⟩ := elem_ h hj
  obtain ⟨B, c, hcs, hmc, hC⟩ := hk
  subst hcs
  have := hc0 _ rfl
  rw [show j * (Kd.slice e d).sz = j from Nat.mul_one j] at this
  exact ⟨hx, ad, B, c, he, this, hmc, hC⟩
/-- The log's records, and how long. -/
def recR (n : Nat) (las : List Int) (wt : Wt) (a b c : Int) : List (List Chg) × Nat := recsF b (scanR (logF n las wt a b c) c).1
theorem rc_nums {t x n T2 : Nat} (h : t + (16 + x) ≤ n) (hn : n ≤ 1000000) (hT : t + (16 + x) = T2) : wrap64 ((t : Int) + 16) = (t : Int) + 16 ∧ wrap64 ((t : Int) + 16 + (x : Int)) = (T2 : Int) ∧ ∃ X : Nat, wrap64 (16 + (x : Int)) = (X : Int) ∧ wrap64 ((t : Int) + (X : Int)) = (T2 : Int) :=
  ⟨IntWalk.wrap64_in _ (by omega), by rw [IntWalk.wrap64_in _ (by omega)]; omega, 16 + x, by rw [IntWalk.wrap64_in _ (by omega)]; omega, by rw [IntWalk.wrap64_in _ (by omega)]; omega⟩
theorem long_at {rows : List (List Int)} {j : Nat} (h : j < rows.length) : 16 + rows[j].length ≤ longs rows := by
  have h2 := longs_app (rows.take j) (rows.drop j)
  rw [List.take_append_drop, List.drop_eq_getElem_cons h] at h2
  simp only [longs] at h2
  omega
theorem dread_none {A : Option Addr} {n c : Nat} {b : List Int} {w : World} {pages : Int} (hu : undeltaF b pages = none) (hr : (Kd.int .u8).C w A n b) (hc : n ≤ c) (hb : Bytes b) (hl : n ≤ 1000000) :
    Calls Try.prog 133 #[.slice A n c, .int .i64 pages] w fun e w' => ∃ v, e = .returned (.tuple #[v, .bool false]) ∧ Below w.heap.size w w' := by
  refine (Delta.read_ hr hc hb hl pages).mono ?_
  rintro e w' ⟨v, rfl, hS⟩
  rw [hu]
  exact ⟨v, rfl, hS.toBelow⟩
theorem dread_some {A : Option Addr} {n c : Nat} {b : List Int} {w : World} {pages : Int} {x : List Chg} (hu : undeltaF b pages = some x) (hr : (Kd.int .u8).C w A n b) (hc : n ≤ c) (hb : Bytes b) (hl : n ≤ 1000000) :
    Calls Try.prog 133 #[.slice A n c, .int .i64 pages] w fun e w' => ∃ v, e = .returned (.tuple #[v, .bool true]) ∧ Sep w w' [Row KC 106 v x] := by
  refine (Delta.read_ hr hc hb hl pages).mono ?_
  rintro e w' ⟨v, rfl, hS⟩
  rw [hu] at hS ⊢
  exact ⟨v, rfl, hS⟩
theorem log_len {n : Nat} {las : List Int} {wt : Wt} (hl : las.length = 64 * n) (hn : n ≤ 160) (hw : ∀ i b, wt i = some b → b.length = 64) (a b c : Int) : (logF n las wt a b c).length ≤ 10240 := by
  unfold logF
  cases hr : rightR a b c n with
  | false => simp
  | true =>
    have h1 := of_decide_eq_true hr
    rw [if_pos rfl, secs_len (fun i hi => by rw [secF_len hl hw, if_pos (by omega)])]
    omega
section
variable {w0 W : World} {F : List HP} {g n : Nat} {las : List Int} {wt : Wt}
set_option maxHeartbeats 1600000 in
set_option maxRecDepth 100000 in
theorem records_ (h : Sep w0 W (Dsk g las wt :: F)) (hl : las.length = 64 * n) (hn : n ≤ 160) (hw : ∀ i b, wt i = some b → b.length = 64) (a b c : Int) (hb : Bytes (logF n las wt a b c)) :
    Calls Try.prog 112 #[.pointer (some ⟨g, 0, none⟩), .agg #[.int .i64 a, .int .i64 b, .int .u32 c]] W fun e w' => ∃ v, e = .returned (.tuple #[v, .int .i64 ((recR n las wt a b c).2 : Int)]) ∧ Sep w0 w' (Row K3 47 v (recR n las wt a b c).1 :: Dsk g las wt :: F) := by
  have A0 := Aside0.mk (h.newBlk 26 #[.int .i64 a, .int .i64 b, .int .u32 c]).drew
  have HL := Aside0.mk (And.intro hl (And.intro hw (And.intro (log_len hl hn hw a b c) hb)))
  clear h hl hw hb hn
  go_enter Try.func112, Try.ntmps112
  go_wp2_with fail
  refine start_ (n := 11) (S := fun w' => w'.cell? ⟨W.heap.size, 0, none⟩ = some (.int .i64 a) ∧ w'.cell? ⟨W.heap.size, 1, none⟩ = some (.int .i64 b) ∧ w'.cell? ⟨W.heap.size, 2, none⟩ = some (.int .u32 c)) (ds := []) #[false, false, false, false, false, false, false, false, false, false, false] (by kernel_rfl) rfl rfl ⟨(A0.out.cell 0).trans rfl, (A0.out.cell 1).trans rfl, (A0.out.cell 2).trans rfl⟩ (fun hHeld => ?_)
  refine pure_ (i := 0) (N := some 15) (v := ?_) (a' := ?_) #[true, false, false, false, false, false, false, false, false, false, false] rfl rfl (by kernel_rfl) (fun _ _ _ h => h) (Or.inl ⟨by rfl, ?_⟩) ?_ ?_
  rotate_left
  · intro w'
    go_simp
    with_reducible rfl
  rotate_left
  · simp only [Act.put, List.setIfInBounds_toArray, List.set_cons_zero, List.set_cons_succ, i64_w, i32_w]
    rfl
  refine pure_ (i := 3) (N := some 18) (v := ?_) (a' := ?_) #[true, false, false, true, false, false, false, false, false, false, false] rfl rfl (by kernel_rfl) (fun _ _ _ h => h) (Or.inl ⟨by rfl, ?_⟩) ?_ ?_
  rotate_left
  · intro w'
    go_simp
    with_reducible rfl
  rotate_left
  · simp only [Act.put, List.setIfInBounds_toArray, List.set_cons_zero, List.set_cons_succ, i64_w, i32_w]
    rfl
  refine take_ (i := 1) (N := some 16) (v := ?_) (a' := ?_) #[true, true, false, true, false, false, false, false, false, false, false] rfl rfl (by kernel_rfl) (fun _ _ _ h => h) (Or.inl ⟨by rfl, ?_⟩) hHeld ?_ ?_
  rotate_left
  · rintro w' ⟨s0, s1, s2⟩
    go_simp
    with_reducible rfl
  rotate_left
  · simp only [Act.put, List.setIfInBounds_toArray, List.set_cons_zero, List.set_cons_succ, i64_w, i32_w]
    rfl
  refine take_ (i := 4) (N := some 19) (v := ?_) (a' := ?_) #[true, true, false, true, true, false, false, false, false, false, false] rfl rfl (by kernel_rfl) (fun _ _ _ h => h) (Or.inl ⟨by rfl, ?_⟩) hHeld ?_ ?_
  rotate_left
  · rintro w' ⟨s0, s1, s2⟩
    go_simp
    with_reducible rfl
  rotate_left
  · simp only [Act.put, List.setIfInBounds_toArray, List.set_cons_zero, List.set_cons_succ, i64_w, i32_w]
    rfl
  refine one_ (i := 2) (N := some 17) #[true, true, true, true, true, false, false, false, false, false, false] rfl rfl (by kernel_rfl) (by decide) (fun K hK => ?_)
  refine goes_ Try.func64 (by kernel_rfl) rfl #[.pointer (some ⟨g, 0, none⟩), .agg #[.int .i64 a, .int .i64 b, .int .u32 c]] (by rfl) rfl rfl (by simp only [List.map_toArray, List.map_cons, List.map_nil]; rfl) ?_
  with_reducible refine (bytes_ A0.out.at2 HL.out.1 HL.out.2.1 a b c).mono ?_
  rintro e w3 ⟨v3, rfl, hS3⟩
  refine ⟨_, rfl, ?_⟩
  obtain ⟨A3, c3, rfl⟩ := hS3.rowV
  have B3 := Aside0.mk hS3
  clear hS3
  refine hK.out _ _ ⟨(B3.out.at3.cell 0).trans rfl, (B3.out.at3.cell 1).trans rfl, (B3.out.at3.cell 2).trans rfl⟩ (fun hHeld => ?_)
  clear hK K
  refine norm_ (a' := ?_) ?_ ?_
  rotate_left
  · show Act.put _ (some 17) _ = _
    simp only [Act.put, List.setIfInBounds_toArray, List.set_cons_zero, List.set_cons_succ, i64_w, i32_w]
    rfl
  refine one_ (i := 5) (N := some 20) #[true, true, true, true, true, true, false, false, false, false, false] rfl rfl (by kernel_rfl) (by decide) (fun K hK => ?_)
  refine goes_ Try.func132 (by kernel_rfl) rfl #[.slice A3 (logF n las wt a b c).length c3, .int .u32 c] (by rfl) rfl rfl (by simp only [List.map_toArray, List.map_cons, List.map_nil]; rfl) ?_
  with_reducible refine (fscan_ B3.out.rowC' B3.out.rowC.2.1 HL.out.2.2.2 (by have := HL.out.2.2.1; omega) c).mono ?_
  rintro e w4 ⟨v4, rfl, hS4⟩
  refine ⟨_, rfl, ?_⟩
  have B4 := Aside0.mk (B3.out.lift1 hS4)
  clear hS4
  refine hK.out _ _ ⟨(B4.out.at4.cell 0).trans rfl, (B4.out.at4.cell 1).trans rfl, (B4.out.at4.cell 2).trans rfl⟩ (fun hHeld => ?_)
  clear hK K
  refine norm_ (a' := ?_) ?_ ?_
  rotate_left
  · show Act.put _ (some 20) _ = _
    simp only [Act.put, List.setIfInBounds_toArray, List.set_cons_zero, List.set_cons_succ, i64_w, i32_w]
    rfl
  refine pure_ (i := 6) (N := some 14) (v := ?_) (a' := ?_) #[true, true, true, true, true, true, true, false, false, false, false] rfl rfl (by kernel_rfl) (fun _ _ _ h => h) (Or.inl ⟨by rfl, ?_⟩) ?_ ?_
  rotate_left
  · intro w'
    go_simp
    with_reducible rfl
  rotate_left
  · simp only [Act.put, List.setIfInBounds_toArray, List.set_cons_zero, List.set_cons_succ, i64_w, i32_w]
    rfl
  refine pure_ (i := 7) (N := some 21) (v := ?_) (a' := ?_) #[true, true, true, true, true, true, true, true, false, false, false] rfl rfl (by kernel_rfl) (fun _ _ _ h => h) (Or.inl ⟨by rfl, ?_⟩) ?_ ?_
  rotate_left
  · intro w'
    go_simp
    with_reducible rfl
  rotate_left
  · simp only [Act.put, List.setIfInBounds_toArray, List.set_cons_zero, List.set_cons_succ, i64_w, i32_w]
    rfl
  refine pure_ (i := 8) (N := some 22) (v := ?_) (a' := ?_) #[true, true, true, true, true, true, true, true, true, false, false] rfl rfl (by kernel_rfl) (fun _ _ _ h => h) (Or.inl ⟨by rfl, ?_⟩) ?_ ?_
  rotate_left
  · intro w'
    go_simp
    with_reducible rfl
  rotate_left
  · simp only [Act.put, List.setIfInBounds_toArray, List.set_cons_zero, List.set_cons_succ, i64_w, i32_w]
    rfl
  refine pure_ (i := 9) (N := some 6) (v := ?_) (a' := ?_) #[true, true, true, true, true, true, true, true, true, true, false] rfl rfl (by kernel_rfl) (fun _ _ _ h => h) (Or.inl ⟨by rfl, ?_⟩) ?_ ?_
  rotate_left
  · intro w'
    go_simp
    with_reducible rfl
  rotate_left
  · simp only [Act.put, List.setIfInBounds_toArray, List.set_cons_zero, List.set_cons_succ, i64_w, i32_w]
    rfl
  refine pure_ (i := 10) (N := some 7) (v := ?_) (a' := ?_) #[true, true, true, true, true, true, true, true, true, true, true] rfl rfl (by kernel_rfl) (fun _ _ _ h => h) (Or.inl ⟨by rfl, ?_⟩) ?_ ?_
  rotate_left
  · intro w'
    go_simp
    with_reducible rfl
  rotate_left
  · simp only [Act.put, List.setIfInBounds_toArray, List.set_cons_zero, List.set_cons_succ, i64_w, i32_w]
    rfl
  refine done_ (by kernel_rfl) ?_
  have HSF := Aside0.mk (scan_facts HL.out.2.2.2 c)
  obtain ⟨rows, hrows⟩ : ∃ r, (scanR (logF n las wt a b c) c).1 = r := ⟨_, rfl⟩
  have HR : Aside0 (recR n las wt a b c = recsF b rows) := ⟨by unfold recR; rw [hrows]⟩
  have HLG : Aside0 (longs rows ≤ 10240) := ⟨by rw [← hrows, HSF.out.2.1]; exact Nat.le_trans HSF.out.2.2 HL.out.2.2.1⟩
  have HBR : Aside0 (∀ x ∈ rows, Bytes x) := ⟨by rw [← hrows]; exact HSF.out.1⟩
  rw [hrows] at B4
  obtain ⟨N, hN⟩ : ∃ N, rows.length = N := ⟨_, rfl⟩
  have HN := Aside0.mk hN
  obtain ⟨A4, c4, rfl⟩ := B4.out.rowN (n := N) hN
  have B5 := Aside0.mk (B4.out.nilRow K3 47)
  have hN2 : N ≤ 10240 := by have := longs_len rows; have := HLG.out; omega
  clear hrows hN
  go_wp2_with fail
  go_loopg [8, 9, 25] N (fun k_ v s p wr => ∃ (out : List (List Chg)) (tot j : Nat), s = .int .i64 (tot : Int) ∧ p = .int .i64 (j : Int) ∧ j + k_ = N ∧ RecAt b rows out tot j ∧ Sep w0 wr (Row K3 47 v out :: Row K2 30 (.slice A4 N c4) rows :: Row U8 5 (.slice A3 (logF n las wt a b c).length c3) (logF n las wt a b c) :: Dsk g las wt :: Blk W.heap.size 26 #[.int .i64 a, .int .i64 b, .int .u32 c] :: F))
  case atStart => exact ⟨[], 0, 0, rfl, rfl, by omega, rec_start b rows, B5.out⟩
  case round =>
    obtain ⟨out, tot, j, rfl, rfl, hjm, hra, hS⟩ := hrel
    have AK := Aside0.mk hjm
    have AS := Aside0.mk hS
    have HRA := Aside0.mk hra
    obtain ⟨A6, c6, rfl⟩ := hS.rowN (n := j) hra.num
    clear hS hra
    by_cases cj : j < N
    case neg =>
      obtain rfl : j = N := by omega
      have hjl : ¬ (j : Int) < (j : Int) := by omega
      have HV : Aside0 (recR n las wt a b c = (out, tot)) := ⟨HR.out.trans (rec_end HRA.out (by rw [HN.out]; exact Nat.le_refl _))⟩
      clear hjm cj
      go_wp2_with fail
      go_ret2
      exact ⟨_, by rw [HV.out]; first | rfl | (simp; done), by rw [HV.out]; exact AS.out.drop2.drop2.at3.tail⟩
    case pos =>
    have hjl : (j : Int) < (N : Int) := by omega
    obtain ⟨hx, ad, B, cB, rfl, hcell, hlc, hCB⟩ := slice_at AS.out.at2.rowC' cj
    have z0 := (AS.out.at5.cell 0).trans rfl
    have z1 := (AS.out.at5.cell 1).trans rfl
    have z2 := (AS.out.at5.cell 2).trans rfl
    obtain ⟨XL, hXL⟩ : ∃ L, rows[j].length = L := ⟨_, rfl⟩
    rw [hXL] at hcell hlc hCB
    have hbx := HBR.out _ (List.getElem_mem hx)
    have hla := long_at hx
    rw [hXL] at hla
    have HX := Aside0.mk (And.intro hlc (And.intro hCB (And.intro hbx (show XL ≤ 1000000 by have := HLG.out; omega))))
    cases hu : undeltaF rows[j] b with
    | none =>
      have HU := Aside0.mk hu
      have HV : Aside0 (recR n las wt a b c = (out, tot)) := ⟨HR.out.trans (rec_none HRA.out hx hu)⟩
      clear hjm hu hla hXL hlc hCB hbx
      go_wp2_with fail
      refine (dread_none HU.out HX.out.2.1 HX.out.1 HX.out.2.2.1 HX.out.2.2.2).mono ?_
      rintro e w6 ⟨v6, rfl, hb6⟩
      have B6 := Aside0.mk (AS.out.below hb6)
      clear hb6
      go_wp2_with fail
      go_ret2
      exact ⟨_, by rw [HV.out]; first | rfl | (simp; done), by rw [HV.out]; exact B6.out.drop2.drop2.at3.tail⟩
    | some x =>
      have HU := Aside0.mk hu
      have hra2 := rec_some HRA.out hx hu
      have hrt := rec_tot hra2
      rw [hXL] at hra2 hrt
      obtain ⟨T2, hT2⟩ : ∃ T, tot + (16 + XL) = T := ⟨_, rfl⟩
      obtain ⟨y1, y2, X16, y3, y4⟩ := rc_nums (t := tot) (x := XL) (n := 10240) (Nat.le_trans hrt HLG.out) (by decide) hT2
      rw [hT2] at hra2
      have HR2 := Aside0.mk hra2
      have hj2 : (j + 1) * 24 ≤ 140737488355328 := by omega
      have HJ2 := Aside0.mk hj2
      clear hjm hu hla hXL hlc hCB hbx hra2 hrt hj2 hT2
      go_wp2_with fail
      refine (dread_some HU.out HX.out.2.1 HX.out.1 HX.out.2.2.1 HX.out.2.2.2).mono ?_
      rintro e w6 ⟨v6, rfl, hS6⟩
      have L6 := Aside0.mk ((AS.out.lift1 hS6).elSlice.at2)
      obtain ⟨A7, c7, rfl⟩ := hS6.rowV
      clear hS6
      go_wp2_with (first | (refine gate_builtin (b := .append) (xs := #[.tmp 38, .tmp 40]) rfl ?_; go_loud (refine L6.out.appendDeep rfl (.tmp 38) (.tmp 40) 133 _ 24 rfl Try.underlying133 infoK rfl (by decide) (by decide) rfl rfl (by rw [HRA.out.num]; exact HJ2.out) ?_; intro v8 w8 hs8 hS8; have B8 := Aside0.mk hS8; clear hS8)))
      go_roundg (gk - 1)
      case measure => have := AK.out; omega
      case rel => exact ⟨out ++ [x], T2, j + 1, by go_num, by go_num, by have := AK.out; omega, HR2.out, B8.out⟩
end
end Go.Proofs.Ytjngnigelkgekaa.Redo
namespace Go.Proofs.Ytjngnigelkgekaa.Redo
set_option linter.unusedVariables false
open Go.RowKit Go.Proofs.YtjngnigelkgekaaW.PrintWords Go.Proofs.YtjngnigelkgekaaW.PrintLast Go.Proofs.YtjngnigelkgekaaW.PrintMore Go.Proofs.Ytjngnigelkgekaa.Kit Go.Proofs.Ytjngnigelkgekaa.Plain Go.Proofs.Ytjngnigelkgekaa.Disk Go.Proofs.Ytjngnigelkgekaa.Root
end Go.Proofs.Ytjngnigelkgekaa.Redo
namespace Go.Proofs.Ytjngnigelkgekaa.Redo
set_option linter.unusedVariables false
open Go.RowKit Go.Proofs.YtjngnigelkgekaaW.PrintWords Go.Proofs.YtjngnigelkgekaaW.PrintLast Go.Proofs.YtjngnigelkgekaaW.PrintMore Go.Proofs.Ytjngnigelkgekaa.Kit Go.Proofs.Ytjngnigelkgekaa.Plain Go.Proofs.Ytjngnigelkgekaa.Disk Go.Proofs.Ytjngnigelkgekaa.Root
theorem over_bytes {xs ys : List Int} {o : Nat} (h : Bytes xs) (k : Bytes ys) : Bytes (over xs o ys) := by
  unfold over
  exact ((h.take _).app k).app (h.drop _)
theorem secs_bytes {f : Nat → List Int} : ∀ {n : Nat}, (∀ i, i < n → Bytes (f i)) → Bytes (secs n f)
  | 0, _ => by unfold secs; exact Bytes.nil
  | n + 1, h => by
    rw [secs_succ]
    exact (secs_bytes (fun i hi => h i (by omega))).app (h n (by omega))
theorem flushed_bytes {las : List Int} {wt : Wt} (hl : Bytes las) (hw : ∀ i b, wt i = some b → Bytes b) : Bytes (flushed las wt) := by
  unfold flushed
  refine secs_bytes (fun i _ => ?_)
  cases h : wt i with
  | none => exact (hl.drop _).take _
  | some b => exact hw i b h
theorem logF_bytes {n : Nat} {las : List Int} {wt : Wt} (hl : Bytes las) (hw : ∀ i b, wt i = some b → Bytes b) (a b c : Int) : Bytes (logF n las wt a b c) := by
  unfold logF
  split
  · exact secs_bytes (fun i _ => secF_bytes hl hw _)
  · exact Bytes.nil
end Go.Proofs.Ytjngnigelkgekaa.Redo
namespace Go.Proofs.Ytjngnigelkgekaa.Redo
set_option linter.unusedVariables false
set_option linter.unusedSimpArgs false
open Go.RowKit Go.Proofs.YtjngnigelkgekaaW.PrintWords Go.Proofs.YtjngnigelkgekaaW.PrintLast Go.Proofs.YtjngnigelkgekaaW.PrintMore Go.Proofs.Ytjngnigelkgekaa.Kit Go.Proofs.Ytjngnigelkgekaa.Plain Go.Proofs.Ytjngnigelkgekaa.Disk Go.Proofs.Ytjngnigelkgekaa.Root
open Go.Proofs.Ytjngnigelkgekaa.Home (RT)
section
variable {w0 W : World} {F : List HP} {g n d : Nat} {las : List Int} {wt : Wt}
end
end Go.Proofs.Ytjngnigelkgekaa.Redo
namespace Go.Proofs.Ytjngnigelkgekaa.Redo
set_option linter.unusedVariables false
set_option linter.unusedSimpArgs false
open Go.RowKit Go.Proofs.YtjngnigelkgekaaW.PrintWords Go.Proofs.YtjngnigelkgekaaW.PrintLast Go.Proofs.YtjngnigelkgekaaW.PrintMore Go.Proofs.Ytjngnigelkgekaa.Kit Go.Proofs.Ytjngnigelkgekaa.Plain Go.Proofs.Ytjngnigelkgekaa.Disk Go.Proofs.Ytjngnigelkgekaa.Root Go.Proofs.Ytjngnigelkgekaa.Frame
open Go.Proofs.Ytjngnigelkgekaa.Home (K2 RT)
open Go.Proofs.Ytjngnigelkgekaa.Delta (Chg KC undeltaF)
section
variable {w0 W : World} {F : List HP} {g n d : Nat} {las : List Int} {wt : Wt}
end
end Go.Proofs.Ytjngnigelkgekaa.Redo
namespace Go.Proofs.Ytjngnigelkgekaa.Redo
set_option linter.unusedVariables false
set_option linter.unusedSimpArgs false
open Go.RowKit Go.Proofs.YtjngnigelkgekaaW.PrintWords Go.Proofs.YtjngnigelkgekaaW.PrintLast Go.Proofs.YtjngnigelkgekaaW.PrintMore Go.Proofs.Ytjngnigelkgekaa.Kit Go.Proofs.Ytjngnigelkgekaa.Plain Go.Proofs.Ytjngnigelkgekaa.Disk Go.Proofs.Ytjngnigelkgekaa.Root Go.Proofs.Ytjngnigelkgekaa.Frame
open Go.Proofs.Ytjngnigelkgekaa.Home (K2 RT)
open Go.Proofs.Ytjngnigelkgekaa.Delta (Chg KC undeltaF)
section
variable {w0 W : World} {F : List HP} {g gr n d : Nat} {las : List Int} {wt : Wt}
end
end Go.Proofs.Ytjngnigelkgekaa.Redo
namespace Go.Proofs.Ytjngnigelkgekaa.Redo
set_option linter.unusedVariables false
set_option linter.unusedSimpArgs false
open Go.RowKit Go.Proofs.YtjngnigelkgekaaW.PrintWords Go.Proofs.YtjngnigelkgekaaW.PrintLast Go.Proofs.YtjngnigelkgekaaW.PrintMore Go.Proofs.Ytjngnigelkgekaa.Kit Go.Proofs.Ytjngnigelkgekaa.Plain Go.Proofs.Ytjngnigelkgekaa.Disk Go.Proofs.Ytjngnigelkgekaa.Root
open Go.Proofs.Ytjngnigelkgekaa.Home (RT)
section
variable {w0 W : World} {F : List HP} {g n d : Nat} {las : List Int} {wt : Wt}
end
end Go.Proofs.Ytjngnigelkgekaa.Redo
namespace Go.Proofs.Ytjngnigelkgekaa.Redo
set_option linter.unusedVariables false
set_option linter.unusedSimpArgs false
open Go.RowKit Go.Proofs.YtjngnigelkgekaaW.PrintWords Go.Proofs.YtjngnigelkgekaaW.PrintLast Go.Proofs.YtjngnigelkgekaaW.PrintMore Go.Proofs.Ytjngnigelkgekaa.Kit Go.Proofs.Ytjngnigelkgekaa.Plain Go.Proofs.Ytjngnigelkgekaa.Disk Go.Proofs.Ytjngnigelkgekaa.Root Go.Proofs.Ytjngnigelkgekaa.Frame
open Go.Proofs.Ytjngnigelkgekaa.Home (K2 RT pair16_)
end Go.Proofs.Ytjngnigelkgekaa.Redo
namespace Go.Proofs.Ytjngnigelkgekaa.Tape
set_option linter.unusedVariables false
set_option linter.unusedSimpArgs false
open Go.RowKit Go.Proofs.YtjngnigelkgekaaW.PrintWords Go.Proofs.YtjngnigelkgekaaW.PrintLast Go.Proofs.YtjngnigelkgekaaW.PrintMore Go.Proofs.Ytjngnigelkgekaa.Kit
abbrev I64 : Kd Int := Kd.int .i64
/-- What Next says of its number. -/
def okN (n r : Int) : Prop := 0 ≤ r ∧ (1 ≤ n → r < n) ∧ (n < 1 → r = 0)
/-- The tape in its block. -/
abbrev Tp (g : Nat) (A : Option Addr) (n c : Nat) (at_ : Int) : HP := Blk g 46 #[.slice A n c, .int .i64 at_]
set_option maxHeartbeats 1600000 in
set_option maxRecDepth 100000 in
theorem next_ {w0 W : World} {F : List HP} {g : Nat} {A : Option Addr} {n c : Nat} {L : List Int} {p : Int} (ht : I64.C w0 A n L) (hp : 0 ≤ p) (h : Sep w0 W (Tp g A n c p :: F)) (k : Int) :
    Calls Try.prog 70 #[.pointer (some ⟨g, 0, none⟩), .int .i64 k] W fun e w' => ∃ r p', e = .returned (.int .i64 r) ∧ okN k r ∧ 0 ≤ p' ∧ Sep w0 w' (Tp g A n c p' :: F) := by
  obtain rfl : L.length = n := ht.1
  have hm : L.length ≤ 9223372036854775807 := ht.2.1
  have AH := Aside0.mk h
  have AT := Aside0.mk ht
  have c0 : ∀ q, (W.drewN q).cell? ⟨g, 0, none⟩ = some (.slice A L.length c) := fun q => ((h.drewN q).cell 0).trans rfl
  have c1 : ∀ q, (W.drewN q).cell? ⟨g, 1, none⟩ = some (.int .i64 p) := fun q => ((h.drewN q).cell 1).trans rfl
  clear h ht
  by_cases h1 : (L.length : Int) ≤ p
  · go_enter Try.func70, Try.ntmps70
    go_wp2_with fail
    go_quiet (fail)
    go_wp2_with fail
    go_ret
    exact ⟨0, p, by first | rfl | (simp; done), ⟨by decide, fun h => by omega, fun _ => rfl⟩, hp, AH.out.drewN _⟩
  · have h1' : decide ((L.length : Int) ≤ p) = false := decide_eq_false h1
    by_cases h2 : k < 1
    · go_enter Try.func70, Try.ntmps70
      go_wp2_with fail
      go_quiet (fail)
      go_wp2_with fail
      go_ret
      exact ⟨0, p, by first | rfl | (simp; done), ⟨by decide, fun h => by omega, fun _ => rfl⟩, hp, AH.out.drewN _⟩
    · have h2' : decide (k < 1) = false := decide_eq_false h2
      obtain ⟨N, rfl⟩ := Int.eq_ofNat_of_zero_le hp
      have hN : N < L.length := by omega
      obtain ⟨ad, hA, hc⟩ := Kd.at_int AT.out (N : Int) (by omega) (by omega)
      subst hA
      rw [Int.toNat_natCast] at hc
      have HX := Aside0.mk hc
      generalize rd L (N : Int) = x at *
      go_enter Try.func70, Try.ntmps70
      go_wp2_with fail
      go_quiet (fail)
      have hcell1 := c1 nq
      have hfr : (W.drewN nq).frozen? ⟨g, 1, none⟩ = false := (AH.out.drewN nq).frozen 1
      have hNl : (N : Int) < (L.length : Int) := by omega
      have hw1 : wrap64 ((N : Int) + 1) = (N : Int) + 1 := IntWalk.wrap64_in _ (by omega)
      clear c0 c1 hc
      go_wp2_with fail
      have S3 := (AH.out.drewN nq).setBlk 1 (.int .i64 ((N : Int) + 1))
      obtain ⟨w3, hw3⟩ : ∃ w3, (W.drewN nq).setCell ⟨g, 1, none⟩ (.int .i64 ((N : Int) + 1)) = w3 := ⟨_, rfl⟩
      rw [hw3] at S3 ⊢
      replace S3 : Sep w0 w3 (Tp g (some ad) L.length c ((N : Int) + 1) :: F) := S3
      have d0 : w3.drew.cell? ⟨g, 0, none⟩ = some (.slice (some ad) L.length c) := (S3.drew.cell 0).trans rfl
      have d1 : w3.drew.cell? ⟨g, 1, none⟩ = some (.int .i64 ((N : Int) + 1)) := (S3.drew.cell 1).trans rfl
      have d2 : w3.drew.cell? (ad.add N) = some (.int .i64 x) := cell_later S3.drew.toBelow HX.out
      have A3 := Aside0.mk S3.drew
      have hws : wrap64 (N : Int) = (N : Int) := IntWalk.wrap64_in _ (by omega)
      have hin := Book.withinF_in (n := x) (lo := 0) (hi := 1073741824) (by decide)
      have hr : okN k ((Book.withinF x 0 1073741824).tmod k) := ⟨Int.tmod_nonneg _ hin.1, fun _ => Int.tmod_lt_of_pos _ (by omega), fun h => by omega⟩
      have AR := Aside0.mk hr
      have hk0 : ¬ k = 0 := by omega
      have hb := hin.2
      have ha := hin.1
      clear hin hr hw3 S3 hcell1 hfr hw1
      refine start_ (n := 15) (S := fun w' => w'.cell? ⟨g, 0, none⟩ = some (.slice (some ad) L.length c) ∧ w'.cell? ⟨g, 1, none⟩ = some (.int .i64 ((N : Int) + 1)) ∧ w'.cell? (ad.add N) = some (.int .i64 x)) (ds := [11]) #[false, false, false, false, false, false, false, false, false, false, false, false, false, false, false] (by kernel_rfl) rfl rfl ⟨d0, d1, d2⟩ (fun hHeld => ?_)
      refine pure_ (i := 0) (N := some 26) (v := ?_) (a' := ?_) #[true, false, false, false, false, false, false, false, false, false, false, false, false, false, false] rfl rfl (by kernel_rfl) (fun _ _ _ h => h) (Or.inl ⟨by rfl, ?_⟩) ?_ ?_
      rotate_left
      · intro w'
        go_simp
        with_reducible rfl
      rotate_left
      · simp only [Act.put, List.setIfInBounds_toArray, List.set_cons_zero, List.set_cons_succ, i64_w, i32_w]
        rfl
      refine pure_ (i := 1) (N := some 27) (v := ?_) (a' := ?_) #[true, true, false, false, false, false, false, false, false, false, false, false, false, false, false] rfl rfl (by kernel_rfl) (fun _ _ _ h => h) (Or.inl ⟨by rfl, ?_⟩) ?_ ?_
      rotate_left
      · intro w'
        go_simp
        with_reducible rfl
      rotate_left
      · simp only [Act.put, List.setIfInBounds_toArray, List.set_cons_zero, List.set_cons_succ, i64_w, i32_w]
        rfl
      refine pure_ (i := 2) (N := some 28) (v := ?_) (a' := ?_) #[true, true, true, false, false, false, false, false, false, false, false, false, false, false, false] rfl rfl (by kernel_rfl) (fun _ _ _ h => h) (Or.inl ⟨by rfl, ?_⟩) ?_ ?_
      rotate_left
      · intro w'
        go_simp
        with_reducible rfl
      rotate_left
      · simp only [Act.put, List.setIfInBounds_toArray, List.set_cons_zero, List.set_cons_succ, i64_w, i32_w]
        rfl
      refine pure_ (i := 4) (N := some 30) (v := ?_) (a' := ?_) #[true, true, true, false, true, false, false, false, false, false, false, false, false, false, false] rfl rfl (by kernel_rfl) (fun _ _ _ h => h) (Or.inl ⟨by rfl, ?_⟩) ?_ ?_
      rotate_left
      · intro w'
        go_simp
        with_reducible rfl
      rotate_left
      · simp only [Act.put, List.setIfInBounds_toArray, List.set_cons_zero, List.set_cons_succ, i64_w, i32_w]
        rfl
      refine pure_ (i := 5) (N := some 31) (v := ?_) (a' := ?_) #[true, true, true, false, true, true, false, false, false, false, false, false, false, false, false] rfl rfl (by kernel_rfl) (fun _ _ _ h => h) (Or.inl ⟨by rfl, ?_⟩) ?_ ?_
      rotate_left
      · intro w'
        go_simp
        with_reducible rfl
      rotate_left
      · simp only [Act.put, List.setIfInBounds_toArray, List.set_cons_zero, List.set_cons_succ, i64_w, i32_w]
        rfl
      refine pure_ (i := 6) (N := some 32) (v := ?_) (a' := ?_) #[true, true, true, false, true, true, true, false, false, false, false, false, false, false, false] rfl rfl (by kernel_rfl) (fun _ _ _ h => h) (Or.inl ⟨by rfl, ?_⟩) ?_ ?_
      rotate_left
      · intro w'
        go_simp
        with_reducible rfl
      rotate_left
      · simp only [Act.put, List.setIfInBounds_toArray, List.set_cons_zero, List.set_cons_succ, i64_w, i32_w]
        rfl
      refine pure_ (i := 12) (N := some 38) (v := ?_) (a' := ?_) #[true, true, true, false, true, true, true, false, false, false, false, false, true, false, false] rfl rfl (by kernel_rfl) (fun _ _ _ h => h) (Or.inl ⟨by rfl, ?_⟩) ?_ ?_
      rotate_left
      · intro w'
        go_simp
        with_reducible rfl
      rotate_left
      · simp only [Act.put, List.setIfInBounds_toArray, List.set_cons_zero, List.set_cons_succ, i64_w, i32_w]
        rfl
      refine take_ (i := 3) (N := some 29) (v := ?_) (a' := ?_) #[true, true, true, true, true, true, true, false, false, false, false, false, true, false, false] rfl rfl (by kernel_rfl) (fun _ _ _ h => h) (Or.inl ⟨by rfl, ?_⟩) hHeld ?_ ?_
      rotate_left
      · rintro w' ⟨s0, s1, s2⟩
        go_simp
        with_reducible rfl
      rotate_left
      · simp only [Act.put, List.setIfInBounds_toArray, List.set_cons_zero, List.set_cons_succ, i64_w, i32_w]
        rfl
      refine take_ (i := 7) (N := some 33) (v := ?_) (a' := ?_) #[true, true, true, true, true, true, true, true, false, false, false, false, true, false, false] rfl rfl (by kernel_rfl) (fun _ _ _ h => h) (Or.inl ⟨by rfl, ?_⟩) hHeld ?_ ?_
      rotate_left
      · rintro w' ⟨s0, s1, s2⟩
        go_simp
        with_reducible rfl
      rotate_left
      · simp only [Act.put, List.setIfInBounds_toArray, List.set_cons_zero, List.set_cons_succ, i64_w, i32_w]
        rfl
      refine pure_ (i := 8) (N := some 34) (v := ?_) (a' := ?_) #[true, true, true, true, true, true, true, true, true, false, false, false, true, false, false] rfl rfl (by kernel_rfl) (fun _ _ _ h => h) (Or.inl ⟨by rfl, ?_⟩) ?_ ?_
      rotate_left
      · intro w'
        go_simp
        with_reducible rfl
      rotate_left
      · simp only [Act.put, List.setIfInBounds_toArray, List.set_cons_zero, List.set_cons_succ, i64_w, i32_w]
        rfl
      refine pure_ (i := 9) (N := some 35) (v := ?_) (a' := ?_) #[true, true, true, true, true, true, true, true, true, true, false, false, true, false, false] rfl rfl (by kernel_rfl) (fun _ _ _ h => h) (Or.inl ⟨by rfl, ?_⟩) ?_ ?_
      rotate_left
      · intro w'
        go_simp
        with_reducible rfl
      rotate_left
      · simp only [Act.put, List.setIfInBounds_toArray, List.set_cons_zero, List.set_cons_succ, i64_w, i32_w]
        rfl
      refine take_ (i := 10) (N := some 36) (v := ?_) (a' := ?_) #[true, true, true, true, true, true, true, true, true, true, true, false, true, false, false] rfl rfl (by kernel_rfl) (fun _ _ _ h => h) (Or.inl ⟨by rfl, ?_⟩) hHeld ?_ ?_
      rotate_left
      · rintro w' ⟨s0, s1, s2⟩
        go_simp
        with_reducible rfl
      rotate_left
      · simp only [Act.put, List.setIfInBounds_toArray, List.set_cons_zero, List.set_cons_succ, i64_w, i32_w]
        rfl
      refine last_ (i := 11) (N := some 37) #[true, true, true, true, true, true, true, true, true, true, true, true, true, false, false] rfl rfl (by kernel_rfl) (by decide) (fun K hK => ?_)
      refine goes_ Try.func19 (by kernel_rfl) rfl #[.int .i64 x, .int .i64 0, .int .i64 1073741824] (by rfl) rfl rfl (by simp only [List.map_toArray, List.map_cons, List.map_nil]; rfl) ?_
      with_reducible refine (Book.within_ _ _ _ _ (by decide) (by decide) (by decide)).mono ?_
      rintro e w4 ⟨rfl, rfl⟩
      refine ⟨_, rfl, ?_⟩
      refine hK.out _ _ ?_
      clear hK K
      refine norm_ (a' := ?_) ?_ ?_
      rotate_left
      · show Act.put _ (some 37) _ = _
        simp only [Act.put, List.setIfInBounds_toArray, List.set_cons_zero, List.set_cons_succ, i64_w, i32_w]
        rfl
      refine pure_ (i := 13) (N := some 39) (v := ?_) (a' := ?_) #[true, true, true, true, true, true, true, true, true, true, true, true, true, true, false] rfl rfl (by kernel_rfl) (fun _ _ _ h => h) (Or.inl ⟨by rfl, ?_⟩) ?_ ?_
      rotate_left
      · intro w'
        go_simp
        with_reducible rfl
      rotate_left
      · simp only [Act.put, List.setIfInBounds_toArray, List.set_cons_zero, List.set_cons_succ, i64_w, i32_w]
        rfl
      refine pure_ (i := 14) (N := some 4) (v := ?_) (a' := ?_) #[true, true, true, true, true, true, true, true, true, true, true, true, true, true, true] rfl rfl (by kernel_rfl) (fun _ _ _ h => h) (Or.inl ⟨by rfl, ?_⟩) ?_ ?_
      rotate_left
      · intro w'
        go_simp
        with_reducible rfl
      rotate_left
      · simp only [Act.put, List.setIfInBounds_toArray, List.set_cons_zero, List.set_cons_succ, i64_w, i32_w]
        rfl
      refine done_ (by kernel_rfl) ?_
      go_wp2_with fail
      go_ret
      exact ⟨_, _, by first | rfl | (simp; done), AR.out, by omega, A3.out⟩
end Go.Proofs.Ytjngnigelkgekaa.Tape
namespace Go.Proofs.Ytjngnigelkgekaa.Tape
set_option linter.unusedVariables false
set_option linter.unusedSimpArgs false
open Go.RowKit Go.Proofs.YtjngnigelkgekaaW.PrintWords Go.Proofs.YtjngnigelkgekaaW.PrintLast Go.Proofs.YtjngnigelkgekaaW.PrintMore Go.Proofs.Ytjngnigelkgekaa.Kit Go.Proofs.Ytjngnigelkgekaa.Base Go.Proofs.Ytjngnigelkgekaa.Plain Go.Proofs.Ytjngnigelkgekaa.Delta
theorem okF_more {a b : Int} (h : a ≤ b) : ∀ {l : List Chg} {last : Int}, okF a last l = true → okF b last l = true
  | [], _, _ => rfl
  | c :: r, last, hk => by
    unfold okF at hk ⊢
    rw [Bool.and_eq_true, decide_eq_true_eq] at hk ⊢
    exact ⟨⟨hk.1.1, by omega, hk.1.2.2⟩, okF_more h hk.2⟩
theorem okF_snoc {a : Int} {x : Chg} (hx : x.1 = a) (hb : x.2.length = 64) : ∀ {l : List Chg} {last : Int}, last < a → okF a last l = true → okF (a + 1) last (l ++ [x]) = true
  | [], last, hl, _ => by
    show (decide _ && true) = true
    rw [Bool.and_true, decide_eq_true_eq]
    omega
  | c :: r, last, hl, hk => by
    rw [List.cons_append]
    unfold okF at hk ⊢
    rw [Bool.and_eq_true, decide_eq_true_eq] at hk ⊢
    exact ⟨⟨hk.1.1, by omega, hk.1.2.2⟩, okF_snoc hx hb (by omega) hk.2⟩
theorem bytes_set {l : List Int} (h : Bytes l) {x : Int} (h0 : 0 ≤ x) (h1 : x ≤ 255) (i : Nat) : Bytes (l.set i x) := by
  intro y hy
  rcases List.mem_or_eq_of_mem_set hy with h2 | rfl
  · exact h y h2
  · exact ⟨h0, h1⟩
/-- What is said of changes that a tape made. -/
def good (m : Nat) (l : List Chg) : Prop := okF (m : Int) (-1) l = true ∧ (∀ c ∈ l, Bytes c.2) ∧ l.length ≤ m
theorem good.more {j : Nat} {l : List Chg} (h : good j l) : good (j + 1) l := ⟨okF_more (by omega) h.1, h.2.1, by have := h.2.2; omega⟩
theorem good.snoc {j : Nat} {l : List Chg} (h : good j l) {bs : List Int} (hb : Bytes bs) (hl : bs.length = 64) : good (j + 1) (l ++ [((j : Int), bs)]) :=
  ⟨by have := okF_snoc (x := ((j : Int), bs)) rfl hl (by omega) h.1; rwa [show ((j + 1 : Nat) : Int) = (j : Int) + 1 by omega], fun c hc => by
    rcases List.mem_append.1 hc with h1 | h1
    · exact h.2.1 c h1
    · obtain rfl := List.mem_singleton.1 h1; exact hb, by rw [List.length_append, List.length_singleton]; have := h.2.2; omega⟩
set_option maxHeartbeats 3200000 in
set_option maxRecDepth 100000 in
theorem changes_ {w0 W : World} {F : List HP} {g : Nat} {A : Option Addr} {n c : Nat} {L : List Int} {p : Int} (ht : I64.C w0 A n L) (hp : 0 ≤ p) (h : Sep w0 W (Tp g A n c p :: F)) (m : Nat) (hm : m ≤ 1000) :
    Calls Try.prog 28 #[.pointer (some ⟨g, 0, none⟩), .int .i64 (m : Int)] W fun e w' => ∃ v l p', e = .returned v ∧ good m l ∧ 0 ≤ p' ∧ Sep w0 w' (Row KC 106 v l :: Tp g A n c p' :: F) := by
  have A0 := Aside0.mk (h.nilRow KC 106)
  have AT := Aside0.mk ht
  have hmk := make_ (m := 64) (by omega)
  rw [show ((64 : Nat) : Int) = 64 from rfl] at hmk
  clear h ht
  go_enter Try.func28, Try.ntmps28
  go_wp2_with fail
  go_loopg [5, 6] m (fun k v s wr => ∃ (j : Nat) (l : List Chg) (p : Int), s = .int .i64 (j : Int) ∧ j + k = m ∧ good j l ∧ 0 ≤ p ∧ Sep w0 wr (Row KC 106 v l :: Tp g A n c p :: F))
  case atStart => exact ⟨0, [], p, rfl, by omega, ⟨rfl, (fun _ h => by cases h), Nat.le_refl _⟩, hp, A0.out⟩
  case round =>
    obtain ⟨j, l, p1, rfl, hjm, hg, hp1, hS⟩ := hrel
    obtain ⟨A3, c3, rfl⟩ := hS.rowV
    obtain ⟨G, rfl⟩ : ∃ G, G = gk := ⟨_, rfl⟩
    have AK := Aside0.mk hjm
    have AG := Aside0.mk (And.intro hg hp1)
    have AS := Aside0.mk hS
    clear hS hg hp1 hp
    by_cases hj : j < m
    · clear hjm
      go_wp2_with fail
      refine (next_ AT.out AG.out.2 AS.out.at2 3).mono ?_
      rintro e w1 ⟨r1, p2, rfl, hr1, hp2, hS1⟩
      have A1 := Aside0.mk hS1
      have AP := Aside0.mk hp2
      clear hS1 hp2 hr1
      by_cases hz : r1 = 0
      · subst hz
        have M0 := Aside0.mk (A1.out.madeRow (enc := Value.int .u8) (h1 := fun _ => rfl) (e := 5) (0 : Int) 64 (by omega))
        go_wp2_with fail
        go_loopg [8] 4 (fun k s wx => ∃ (i : Nat) (bs : List Int) (p : Int), s = .int .i64 (i : Int) ∧ i + k = 4 ∧ bs.length = 64 ∧ Bytes bs ∧ 0 ≤ p ∧ Sep w0 wx (Row U8 5 (.slice (some ⟨w1.heap.size, 0, none⟩) 64 64) bs :: Tp g A n c p :: Row KC 106 (.slice A3 l.length c3) l :: F))
        case atStart => exact ⟨0, _, p2, rfl, by omega, List.length_replicate, fun x hx => by rw [(List.mem_replicate.1 hx).2]; decide, AP.out, M0.out⟩
        case round =>
          obtain ⟨i, bs, p3, rfl, hik, hbl, hbs, hp3, hS3⟩ := hrel
          have AI := Aside0.mk hik
          have A3' := Aside0.mk hS3
          have AB := Aside0.mk (And.intro hbl (And.intro hbs hp3))
          clear hS3 hbl hbs hp3
          by_cases hi : i < 4
          · clear hik
            go_wp2_with fail
            refine (next_ AT.out AB.out.2.2 A3'.out.at2 64).mono ?_
            rintro e w4 ⟨r4, p4, rfl, hr4, hp4, hS4⟩
            have A4 := Aside0.mk hS4
            have AP4 := Aside0.mk hp4
            obtain ⟨R, rfl⟩ := Int.eq_ofNat_of_zero_le hr4.1
            have hR : R < 64 := by have := hr4.2.1 (by decide); omega
            clear hS4 hp4 hr4
            go_wp2_with fail
            refine (next_ AT.out AP4.out A4.out 256).mono ?_
            rintro e w5 ⟨r5, p5, rfl, hr5, hp5, hS5⟩
            have hu0 := hr5.1
            have hu1 := hr5.2.1 (by decide)
            have hwu : IntKind.u8.wrap r5 = r5 := by rw [IntKind.wrap_u8]; omega
            obtain ⟨f1, f2⟩ := hS5.at2.rowCell (0 : Int) R hR
            have A5 := Aside0.mk hS5
            have AP5 := Aside0.mk hp5
            have hR2 : (R : Int) < 64 := by omega
            clear hS5 hp5 hr5
            go_wp2
            go_roundg (gk - 1)
            case measure => have := AI.out; omega
            case rel => exact ⟨i + 1, bs.set R r5, p5, by go_num, by have := AI.out; omega, by rw [List.length_set]; exact AB.out.1, bytes_set AB.out.2.1 hu0 (by omega) R, AP5.out, A5.out.at2.putRow (enc := Value.int .u8) R r5⟩
          · have hi4 : i = 4 := by omega
            subst hi4
            have E5 := Aside0.mk ((A3'.out.elSlice.elPair (a := Kd.int .i64) (x := (j : Int)) (p := [.int .i64 (j : Int)]) (fun _ _ _ => rfl)).at3)
            have hll : l.length ≤ 1000 := by have := AG.out.1.2.2; omega
            clear hik
            go_wp2_with (first | (refine gate_builtin (b := .append) (xs := #[.tmp 29, .tmp 33]) rfl ?_; go_loud (refine E5.out.appendDeep rfl (.tmp 29) (.tmp 33) 47 _ 32 rfl Try.underlying47 infoCh rfl (by decide) (by decide) rfl rfl (by omega) ?_; intro v6 w6 hs6 hS6; have A6 := Aside0.mk hS6; clear hS6)))
            go_roundg (G - 1)
            case measure => have := AK.out; omega
            case rel => exact ⟨j + 1, l ++ [((j : Int), bs)], p3, by go_num, by have := AK.out; omega, AG.out.1.snoc AB.out.2.1 AB.out.1, AB.out.2.2, A6.out⟩
      · go_wp2_with fail
        go_roundg (G - 1)
        case measure => have := AK.out; omega
        case rel => exact ⟨j + 1, l, p2, by go_num, by have := AK.out; omega, AG.out.1.more, AP.out, A1.out.at2⟩
    · have hjm2 : j = m := by omega
      subst hjm2
      clear hjm
      go_wp2_with fail
      go_ret
      exact ⟨_, l, p1, by first | rfl | (simp; done), AG.out.1, AG.out.2, AS.out⟩
end Go.Proofs.Ytjngnigelkgekaa.Tape
namespace Go.Proofs.Ytjngnigelkgekaa.Redo
set_option linter.unusedVariables false
set_option linter.unusedSimpArgs false
open Go.RowKit Go.Proofs.YtjngnigelkgekaaW.PrintWords Go.Proofs.YtjngnigelkgekaaW.PrintLast Go.Proofs.YtjngnigelkgekaaW.PrintMore Go.Proofs.Ytjngnigelkgekaa.Kit Go.Proofs.Ytjngnigelkgekaa.Plain Go.Proofs.Ytjngnigelkgekaa.Disk Go.Proofs.Ytjngnigelkgekaa.Root Go.Proofs.Ytjngnigelkgekaa.Frame
open Go.Proofs.Ytjngnigelkgekaa.Home (K2 RT)
open Go.Proofs.Ytjngnigelkgekaa.Delta (Chg KC deltaF oneF two okF)
open Go.Proofs.Ytjngnigelkgekaa.Tape (Tp okN good)
/-- A tape, wherever it is read. -/
def TpX (g : Nat) (A : Option Addr) (n c : Nat) : HP := Ex fun p : Int => Star [Pu (0 ≤ p), Tp g A n c p]
section
variable {w0 W : World} {F : List HP} {g n c : Nat} {A : Option Addr} {L : List Int}
theorem tpx_open (h : Sep w0 W (TpX g A n c :: F)) : ∃ p : Int, 0 ≤ p ∧ Sep w0 W (Tp g A n c p :: F) := by
  obtain ⟨p, h1⟩ := h.ex
  obtain ⟨h2, h3⟩ := h1.star.pu
  exact ⟨p, h2, h3⟩
theorem tpx_shut {p : Int} (hp : 0 ≤ p) (h : Sep w0 W (Tp g A n c p :: F)) : Sep w0 W (TpX g A n c :: F) := Sep.unex p (Sep.unstar (L := [_, _]) (h.unpu hp))
theorem changesX_ (ht : I64.C w0 A n L) (h : Sep w0 W (TpX g A n c :: F)) (m : Nat) (hm : m ≤ 1000) :
    Calls Try.prog 28 #[.pointer (some ⟨g, 0, none⟩), .int .i64 (m : Int)] W fun e w' => ∃ v l, e = .returned v ∧ good m l ∧ Sep w0 w' (Row KC 106 v l :: TpX g A n c :: F) := by
  obtain ⟨p, hp, h2⟩ := tpx_open h
  refine (Tape.changes_ ht hp h2 m hm).mono ?_
  rintro e w' ⟨v, l, p', rfl, hg, hp', hS⟩
  exact ⟨v, l, rfl, hg, (tpx_shut hp' hS.at2).at2⟩
end
theorem two_bytes {n : Int} : Bytes (two n) := fun x hx => by
  simp [two] at hx
  omega
theorem flat_bytes : ∀ {l : List Chg}, (∀ c ∈ l, Bytes c.2) → Bytes (l.flatMap oneF)
  | [], _ => Bytes.nil
  | c :: r, h => by
    rw [List.flatMap_cons]
    exact (two_bytes.app (h c (List.mem_cons_self ..))).app (flat_bytes (fun x hx => h x (List.mem_cons_of_mem _ hx)))
theorem okF_len : ∀ {l : List Chg} {pages last : Int}, okF pages last l = true → (l.flatMap oneF).length = 66 * l.length
  | [], _, _, _ => rfl
  | c :: r, pages, last, h => by
    unfold okF at h
    rw [Bool.and_eq_true, decide_eq_true_eq] at h
    rw [List.flatMap_cons, List.length_append, okF_len h.2, oneF, List.length_append, h.1.2.2, List.length_cons]
    simp [two]; omega
theorem delta_good {m : Nat} {l : List Chg} (h : good m l) : Bytes (deltaF l) ∧ (deltaF l).length ≤ 2 + 66 * m := by
  refine ⟨two_bytes.app (flat_bytes h.2.1), ?_⟩
  unfold deltaF
  rw [List.length_append, okF_len h.1]
  have := h.2.2
  simp [two]; omega
end Go.Proofs.Ytjngnigelkgekaa.Redo
namespace Go.Proofs.Ytjngnigelkgekaa.Store
set_option linter.unusedVariables false
set_option linter.unusedSimpArgs false
open Go.RowKit Go.Proofs.YtjngnigelkgekaaW.PrintWords Go.Proofs.YtjngnigelkgekaaW.PrintLast Go.Proofs.YtjngnigelkgekaaW.PrintMore Go.Proofs.Ytjngnigelkgekaa.Kit Go.Proofs.Ytjngnigelkgekaa.Plain Go.Proofs.Ytjngnigelkgekaa.Disk Go.Proofs.Ytjngnigelkgekaa.Root
open Go.Proofs.Ytjngnigelkgekaa.Delta (Chg KC deltaF rightF okF right_ needF)
open Go.Proofs.Ytjngnigelkgekaa.Frame (frameF frameF_len frameF_bytes fbytes_)
open Go.Proofs.Ytjngnigelkgekaa.Redo (appR okA append_ sizeF)
def insAll (ks : List Int) (l : List Chg) : List Int := l.foldl (fun ks c => insK ks c.1) ks
theorem insK_len (ks : List Int) (k : Int) : (insK ks k).length ≤ ks.length + 1 := by unfold insK; split <;> simp
theorem insAll_len (l : List Chg) : ∀ ks : List Int, (insAll ks l).length ≤ ks.length + l.length := by
  induction l with
  | nil => intro ks; exact Nat.le_refl _
  | cons c r ih =>
    intro ks
    have h1 := ih (insK ks c.1)
    have h2 := insK_len ks c.1
    show (insAll (insK ks c.1) r).length ≤ _
    rw [List.length_cons]; omega
theorem insAll_snoc (ks : List Int) (l : List Chg) (c : Chg) : insAll ks (l ++ [c]) = insK (insAll ks l) c.1 := by unfold insAll; rw [List.foldl_append]; rfl
theorem insK_mem {ks : List Int} {k x : Int} (h : x ∈ insK ks k) : x ∈ ks ∨ x = k := by
  unfold insK at h
  split at h
  · exact .inl h
  · rcases List.mem_append.1 h with h | h
    · exact .inl h
    · exact .inr (List.mem_singleton.1 h)
theorem insAll_mem {x : Int} (l : List Chg) : ∀ {ks : List Int}, x ∈ insAll ks l → x ∈ ks ∨ ∃ c ∈ l, x = c.1 := by
  induction l with
  | nil => intro ks h; exact .inl h
  | cons c r ih =>
    intro ks h
    rcases ih (ks := insK ks c.1) h with h | ⟨d, hd, hx⟩
    · rcases insK_mem h with h | h
      · exact .inl h
      · exact .inr ⟨c, List.mem_cons_self .., h⟩
    · exact .inr ⟨d, List.mem_cons_of_mem _ hd, hx⟩
theorem right_all : ∀ {l : List Chg} {pages last : Int}, okF pages last l = true → -1 ≤ last → ∀ c ∈ l, 0 ≤ c.1 ∧ c.1 < pages ∧ c.2.length = 64
  | [], _, _, _, _, _, hc => by cases hc
  | c :: r, pages, last, h, hl, x, hx => by
    unfold okF at h
    rw [Bool.and_eq_true, decide_eq_true_eq] at h
    rcases List.mem_cons.1 hx with rfl | hx
    · exact ⟨by omega, by omega, h.1.2.2⟩
    · exact right_all h.2 (by omega) x hx
theorem fits_in {a : Int} {u n : Nat} (h : fitsF a u n = true) : n ≤ 64 ∧ (u : Int) + 18 + 66 * n ≤ sizeF a := by
  unfold fitsF needF at h
  rw [decide_eq_true_eq] at h
  split at h
  · omega
  · omega
section
variable {w0 W : World} {F : List HP} {gs g m n : Nat} {a b ep : Int} {pages : List (List Int)} {named : List Int} {used seq : Nat} {las : List Int} {wt : Wt}
set_option maxHeartbeats 1600000 in
set_option maxRecDepth 100000 in
theorem commit_bad (h : Sep w0 W (StB gs g m a b ep pages named used seq :: F)) {A2 : Option Addr} {n2 c2 : Nat} {l : List Chg} (hC : KC.C W A2 n2 l) (hr : rightF l b = false) :
    Calls Try.prog 33 #[.pointer (some ⟨gs, 0, none⟩), .slice A2 n2 c2] W fun e w' => e = .returned (.int .i64 1) ∧ Sep w0 w' (StB gs g m a b ep pages named used seq :: F) := by
  obtain ⟨A, c, hs⟩ := stb_open h
  have H0 := Aside0.mk h
  have HC := Aside0.mk hC
  have HR := Aside0.mk hr
  have z2 := (hs.cell 2).trans rfl
  clear h hs hC hr
  go_enter Try.func33, Try.ntmps33
  go_wp2_with fail
  refine (right_ HC.out b).mono ?_
  rintro e w1 ⟨rfl, hb1⟩
  rw [HR.out]
  have B1 := Aside0.mk (H0.out.below hb1)
  clear hb1
  go_wp2_with fail
  go_ret
  exact ⟨by first | rfl | (simp; done), B1.out⟩
end
end Go.Proofs.Ytjngnigelkgekaa.Store
namespace Go.Proofs.Ytjngnigelkgekaa.Kit
set_option linter.unusedVariables false
set_option linter.unusedSimpArgs false
open Go.RowKit Go.Proofs.YtjngnigelkgekaaW.PrintWords Go.Proofs.YtjngnigelkgekaaW.PrintLast Go.Proofs.YtjngnigelkgekaaW.PrintMore
theorem ovs : ∀ {inner : List Value}, (∀ u ∈ inner, u.oneCell' = true) → ∃ cs : List OV, cs.map (·.1) = inner
  | [], _ => ⟨[], rfl⟩
  | u :: t, h => by
    obtain ⟨cs, hc⟩ := ovs (inner := t) (fun x hx => h x (List.mem_cons_of_mem _ hx))
    exact ⟨⟨u, h u (List.mem_cons_self ..)⟩ :: cs, by rw [List.map_cons, hc]⟩
theorem take1 {α : Type} {l : List α} {j : Nat} {x : α} (h : l[j]? = some x) : (l.drop (j * 1)).take 1 = [x] := by
  obtain ⟨hj, hx⟩ := List.getElem?_eq_some_iff.1 h
  rw [Nat.mul_one, List.drop_eq_getElem_cons hj, hx]
  rfl
theorem Sep.rowToV {w0 W : World} {F : List HP} {α : Type} {d : Kd α} {e : Nat} {v : Value} {xs : List α} (hd : d.sz = 1) (h : Sep w0 W (Row d e v xs :: F)) : Sep w0 W (RowV d e v xs :: F) := by
  obtain ⟨ok, ⟨⟨h0, inner, ho, hr⟩, hb⟩, hdis, hF⟩ := h.sep
  rw [hd] at ho hr
  have hlen : inner.length = xs.length := by have := ho.1; omega
  have hone : ∀ u ∈ inner, u.oneCell' = true := fun u hu => by
    obtain ⟨j, hj, rfl⟩ := List.getElem_of_mem hu
    have hx : j < xs.length := by omega
    have hM := hr.2 j _ (List.getElem?_eq_getElem hx)
    rw [take1 (List.getElem?_eq_getElem hj)] at hM
    exact d.K_one (d.K_of_M hM) _ (List.mem_singleton.2 rfl)
  obtain ⟨cs, hcs⟩ := ovs hone
  have hcl : cs.length = xs.length := by rw [← hlen, ← hcs, List.length_map]
  refine Sep.rowV_shut (cs := cs) ⟨h.os, h.tape, h.output, h.size, h.old, fun k => v.ownBlock = some k, ⟨⟨fun k hk => hk, inner, ?_, ?_⟩, fun k hk => hb k (h0 k hk)⟩, fun k hk => hdis k (h0 k hk), fun k => ok k ∧ some k ≠ v.ownBlock, ⟨fun W' hm => ⟨hcl.symm, fun j x c hx hc => ?_⟩, fun k hk => hb k hk.1⟩, fun k hk ha => ?_, ?_⟩
  · show W.ownsRow 0 e 1 v cs.length inner
    rw [hcl]; exact ho
  · refine ⟨by rw [hlen, hcl]; exact (Nat.mul_one _).symm, fun j c hj => ?_⟩
    have : inner[j]? = some c.1 := by rw [← hcs, List.getElem?_map, hj]; rfl
    show (inner.drop (j * 1)).take 1 = [c.1]
    exact take1 this
  · have hM := hr.2 j x hx
    have hi : inner[j]? = some c.1 := by rw [← hcs, List.getElem?_map, hc]; rfl
    rw [take1 hi] at hM
    exact d.K_of_M (d.M_move (w1 := W') (fun k hk => hm k hk) hM)
  · rcases ha with ha | ha
    · exact hdis k hk.1 ha
    · exact hk.2 ha.symm
  · refine hF.weaken (fun k hk => ?_)
    rcases hk with (hk | hk) | hk
    · exact .inl hk
    · exact .inr (h0 k hk)
    · exact .inr hk.1
end Go.Proofs.Ytjngnigelkgekaa.Kit
