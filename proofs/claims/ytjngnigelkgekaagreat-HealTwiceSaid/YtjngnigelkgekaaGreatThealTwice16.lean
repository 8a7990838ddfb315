/- Redo6, RedoS, RedoT, Redo7, Redo9, Redo10, Redo8: what HealTwice needs. -/
import Derived.Test.YtjngnigelkgekaaGreatThealTwice15
import Derived.Lib.SliceRun
set_option linter.unusedVariables false
set_option linter.unusedSimpArgs false
namespace Go.Proofs.YtjngnigelkgekaaGreat.Redo
open Go.RowKit Go.Proofs.YtjngnigelkgekaaGreatW.PrintWords Go.Proofs.YtjngnigelkgekaaGreatW.PrintLast Go.Proofs.YtjngnigelkgekaaGreatW.PrintMore Go.Proofs.YtjngnigelkgekaaGreat.Kit Go.Proofs.YtjngnigelkgekaaGreat.Plain Go.Proofs.YtjngnigelkgekaaGreat.Disk Go.Proofs.YtjngnigelkgekaaGreat.Root Go.Proofs.YtjngnigelkgekaaGreat.Frame
open Go.Proofs.YtjngnigelkgekaaGreat.Home (K2)
open Go.Proofs.YtjngnigelkgekaaGreat.Delta (Chg KC undeltaF)
abbrev K3 : Kd (List Chg) := Kd.slice 75 KC
theorem infoK : (Tryz.prog.info? 60).map (fun i => (i.zero, i.size, i.bytes)) = some (some (.slice none 0 0), 1, 24) := by kernel_rfl
theorem slice_at {β : Type} {e : Nat} {d : Kd β} {W : World} {A : Option Addr} {n : Nat} {l : List (List β)} (h : (Kd.slice e d).C W A n l) {j : Nat} (hj : j < n) : ∃ (hx : j < l.length) (ad : Addr) (B : Option Addr) (c : Nat), A = some ad ∧ W.cell? (ad.add j) = some (.slice B (l[j]).length c) ∧ (l[j]).length ≤ c ∧ d.C W B (l[j]).length l[j] := by
  obtain ⟨hx, ad, cs, he, hk, hc0, _⟩ := elem_ h hj
  obtain ⟨B, c, hcs, hmc, hC⟩ := hk
  subst hcs
  have := hc0 _ rfl
  rw [show j * (Kd.slice e d).sz = j from Nat.mul_one j] at this
  exact ⟨hx, ad, B, c, he, this, hmc, hC⟩
def recR (n : Nat) (las : List Int) (wt : Wt) (a b c : Int) : List (List Chg) × Nat := recsF b (scanR (logF n las wt a b c) c).1
theorem rc_nums {t x n T2 : Nat} (h : t + (16 + x) ≤ n) (hn : n ≤ 1000000) (hT : t + (16 + x) = T2) : wrap64 ((t : Int) + 16) = (t : Int) + 16 ∧ wrap64 ((t : Int) + 16 + (x : Int)) = (T2 : Int) ∧ ∃ X : Nat, wrap64 (16 + (x : Int)) = (X : Int) ∧ wrap64 ((t : Int) + (X : Int)) = (T2 : Int) :=
  ⟨IntWalk.wrap64_in _ (by omega), by rw [IntWalk.wrap64_in _ (by omega)]; omega, 16 + x, by rw [IntWalk.wrap64_in _ (by omega)]; omega, by rw [IntWalk.wrap64_in _ (by omega)]; omega⟩
theorem long_at {rows : List (List Int)} {j : Nat} (h : j < rows.length) : 16 + rows[j].length ≤ longs rows := by
  have h2 := longs_app (rows.take j) (rows.drop j)
  rw [List.take_append_drop, List.drop_eq_getElem_cons h] at h2
  simp only [longs] at h2
  omega
theorem dread_none {A : Option Addr} {n c : Nat} {b : List Int} {w : World} {pages : Int} (hu : undeltaF b pages = none) (hr : (Kd.int .u8).C w A n b) (hc : n ≤ c) (hb : Bytes b) (hl : n ≤ 1000000) :
    Calls Tryz.prog 136 #[.slice A n c, .int .i64 pages] w fun e w' => ∃ v, e = .returned (.tuple #[v, .bool false]) ∧ Below w.heap.size w w' := by
  refine (Delta.read_ hr hc hb hl pages).mono ?_
  rintro e w' ⟨v, rfl, hS⟩
  rw [hu]
  exact ⟨v, rfl, hS.toBelow⟩
theorem dread_some {A : Option Addr} {n c : Nat} {b : List Int} {w : World} {pages : Int} {x : List Chg} (hu : undeltaF b pages = some x) (hr : (Kd.int .u8).C w A n b) (hc : n ≤ c) (hb : Bytes b) (hl : n ≤ 1000000) :
    Calls Tryz.prog 136 #[.slice A n c, .int .i64 pages] w fun e w' => ∃ v, e = .returned (.tuple #[v, .bool true]) ∧ Sep w w' [Row KC 75 v x] := by
  refine (Delta.read_ hr hc hb hl pages).mono ?_
  rintro e w' ⟨v, rfl, hS⟩
  rw [hu] at hS ⊢
  exact ⟨v, rfl, hS⟩
theorem log_len {n : Nat} {las : List Int} {wt : Wt} (hl : las.length = 64 * n) (hn : n ≤ 160) (hw : ∀ i b, wt i = some b → b.length = 64) (a b c : Int) : (logF n las wt a b c).length ≤ 10240 := by
  unfold logF
  cases hr : rightR a b c n with
  | false => simp
  | true =>
    have h1 := of_decide_eq_true hr
    rw [if_pos rfl, secs_len (fun i hi => by rw [secF_len hl hw, if_pos (by omega)])]
    omega
section
variable {w0 W : World} {F : List HP} {g n : Nat} {las : List Int} {wt : Wt}
set_option maxHeartbeats 1600000 in
set_option maxRecDepth 100000 in
theorem records_ (h : Sep w0 W (Dsk g las wt :: F)) (hl : las.length = 64 * n) (hn : n ≤ 160) (hw : ∀ i b, wt i = some b → b.length = 64) (a b c : Int) (hb : Bytes (logF n las wt a b c)) :
    Calls Tryz.prog 124 #[.pointer (some ⟨g, 0, none⟩), .agg #[.int .i64 a, .int .i64 b, .int .u32 c]] W fun e w' => ∃ v, e = .returned (.tuple #[v, .int .i64 ((recR n las wt a b c).2 : Int)]) ∧ Sep w0 w' (Row K3 60 v (recR n las wt a b c).1 :: Dsk g las wt :: F) := by
  have A0 := Aside0.mk (h.newBlk 80 #[.int .i64 a, .int .i64 b, .int .u32 c]).drew
  have HL := Aside0.mk (And.intro hl (And.intro hw (And.intro (log_len hl hn hw a b c) hb)))
  clear h hl hw hb hn
  go_enter Tryz.func124, Tryz.ntmps124
  go_wp2_with fail
  refine start_ (n := 11) (S := fun w' => w'.cell? ⟨W.heap.size, 0, none⟩ = some (.int .i64 a) ∧ w'.cell? ⟨W.heap.size, 1, none⟩ = some (.int .i64 b) ∧ w'.cell? ⟨W.heap.size, 2, none⟩ = some (.int .u32 c)) (ds := []) #[Z,Z,Z,Z,Z,Z,Z,Z,Z,Z,Z] (by kernel_rfl) rfl rfl ⟨(A0.out.cell 0).trans rfl, (A0.out.cell 1).trans rfl, (A0.out.cell 2).trans rfl⟩ (fun hHeld => ?_)
  refine pu_ 0 15 ?_ #[J,Z,Z,Z,Z,Z,Z,Z,Z,Z,Z] rfl rfl ?_ ?_ ?_ ?_
  rotate_left
  · intro w'
    go_simp
    with_reducible rfl
  rotate_left
  · simp only [aP]
    rfl
  refine pu_ 3 18 ?_ #[J,Z,Z,J,Z,Z,Z,Z,Z,Z,Z] rfl rfl ?_ ?_ ?_ ?_
  rotate_left
  · intro w'
    go_simp
    with_reducible rfl
  rotate_left
  · simp only [aP]
    rfl
  refine ta_ 1 16 ?_ #[J,J,Z,J,Z,Z,Z,Z,Z,Z,Z] rfl rfl ?_ hHeld ?_ ?_ ?_
  rotate_left
  · rintro w' ⟨s0, s1, s2⟩
    go_simp
    with_reducible rfl
  rotate_left
  · simp only [aP]
    rfl
  refine ta_ 4 19 ?_ #[J,J,Z,J,J,Z,Z,Z,Z,Z,Z] rfl rfl ?_ hHeld ?_ ?_ ?_
  rotate_left
  · rintro w' ⟨s0, s1, s2⟩
    go_simp
    with_reducible rfl
  rotate_left
  · simp only [aP]
    rfl
  refine one_ (i := 2) (N := some 17) #[J,J,J,J,J,Z,Z,Z,Z,Z,Z] rfl rfl (by kernel_rfl) (by decide) (fun K hK => ?_)
  refine goes_ Tryz.func135 (by kernel_rfl) rfl #[.pointer (some ⟨g, 0, none⟩), .agg #[.int .i64 a, .int .i64 b, .int .u32 c]] (by rfl) rfl rfl (by simp only [List.map_toArray, List.map_cons, List.map_nil]; rfl) ?_
  with_reducible refine (bytes_ A0.out.at2 HL.out.1 HL.out.2.1 a b c).mono ?_
  rintro e w3 ⟨v3, rfl, hS3⟩
  refine ⟨_, rfl, ?_⟩
  obtain ⟨A3, c3, rfl⟩ := hS3.rowV
  have B3 := Aside0.mk hS3
  clear hS3
  refine hK.out _ _ ⟨(B3.out.at3.cell 0).trans rfl, (B3.out.at3.cell 1).trans rfl, (B3.out.at3.cell 2).trans rfl⟩ (fun hHeld => ?_)
  clear hK K
  refine norm_ (a' := ?_) ?_ ?_
  rotate_left
  · show Act.put _ (some 17) _ = _
    simp only [aP]
    rfl
  refine one_ (i := 5) (N := some 20) #[J,J,J,J,J,J,Z,Z,Z,Z,Z] rfl rfl (by kernel_rfl) (by decide) (fun K hK => ?_)
  refine goes_ Tryz.func134 (by kernel_rfl) rfl #[.slice A3 (logF n las wt a b c).length c3, .int .u32 c] (by rfl) rfl rfl (by simp only [List.map_toArray, List.map_cons, List.map_nil]; rfl) ?_
  with_reducible refine (fscan_ B3.out.rowC' B3.out.rowC.2.1 HL.out.2.2.2 (by have := HL.out.2.2.1; omega) c).mono ?_
  rintro e w4 ⟨v4, rfl, hS4⟩
  refine ⟨_, rfl, ?_⟩
  have B4 := Aside0.mk (B3.out.lift1 hS4)
  clear hS4
  refine hK.out _ _ ⟨(B4.out.at4.cell 0).trans rfl, (B4.out.at4.cell 1).trans rfl, (B4.out.at4.cell 2).trans rfl⟩ (fun hHeld => ?_)
  clear hK K
  refine norm_ (a' := ?_) ?_ ?_
  rotate_left
  · show Act.put _ (some 20) _ = _
    simp only [aP]
    rfl
  refine pu_ 6 14 ?_ #[J,J,J,J,J,J,J,Z,Z,Z,Z] rfl rfl ?_ ?_ ?_ ?_
  rotate_left
  · intro w'
    go_simp
    with_reducible rfl
  rotate_left
  · simp only [aP]
    rfl
  refine pu_ 7 21 ?_ #[J,J,J,J,J,J,J,J,Z,Z,Z] rfl rfl ?_ ?_ ?_ ?_
  rotate_left
  · intro w'
    go_simp
    with_reducible rfl
  rotate_left
  · simp only [aP]
    rfl
  refine pu_ 8 22 ?_ #[J,J,J,J,J,J,J,J,J,Z,Z] rfl rfl ?_ ?_ ?_ ?_
  rotate_left
  · intro w'
    go_simp
    with_reducible rfl
  rotate_left
  · simp only [aP]
    rfl
  refine pu_ 9 6 ?_ #[J,J,J,J,J,J,J,J,J,J,Z] rfl rfl ?_ ?_ ?_ ?_
  rotate_left
  · intro w'
    go_simp
    with_reducible rfl
  rotate_left
  · simp only [aP]
    rfl
  refine pu_ 10 7 ?_ #[J,J,J,J,J,J,J,J,J,J,J] rfl rfl ?_ ?_ ?_ ?_
  rotate_left
  · intro w'
    go_simp
    with_reducible rfl
  rotate_left
  · simp only [aP]
    rfl
  refine done_ (by kernel_rfl) ?_
  have HSF := Aside0.mk (scan_facts HL.out.2.2.2 c)
  obtain ⟨rows, hrows⟩ : ∃ r, (scanR (logF n las wt a b c) c).1 = r := ⟨_, rfl⟩
  have HR : Aside0 (recR n las wt a b c = recsF b rows) := ⟨by unfold recR; rw [hrows]⟩
  have HLG : Aside0 (longs rows ≤ 10240) := ⟨by rw [← hrows, HSF.out.2.1]; exact Nat.le_trans HSF.out.2.2 HL.out.2.2.1⟩
  have HBR : Aside0 (∀ x ∈ rows, Bytes x) := ⟨by rw [← hrows]; exact HSF.out.1⟩
  rw [hrows] at B4
  obtain ⟨N, hN⟩ : ∃ N, rows.length = N := ⟨_, rfl⟩
  have HN := Aside0.mk hN
  obtain ⟨A4, c4, rfl⟩ := B4.out.rowN (n := N) hN
  have B5 := Aside0.mk (B4.out.nilRow K3 60)
  have hN2 : N ≤ 10240 := by have := longs_len rows; have := HLG.out; omega
  clear hrows hN
  go_wp2_with fail
  go_loopg [8, 9, 25] N (fun k_ v s p wr => ∃ (out : List (List Chg)) (tot j : Nat), s = .int .i64 (tot : Int) ∧ p = .int .i64 (j : Int) ∧ j + k_ = N ∧ RecAt b rows out tot j ∧ Sep w0 wr (Row K3 60 v out :: Row K2 24 (.slice A4 N c4) rows :: Row U8 5 (.slice A3 (logF n las wt a b c).length c3) (logF n las wt a b c) :: Dsk g las wt :: Blk W.heap.size 80 #[.int .i64 a, .int .i64 b, .int .u32 c] :: F))
  case atStart => exact ⟨[], 0, 0, rfl, rfl, by omega, rec_start b rows, B5.out⟩
  case round =>
    obtain ⟨out, tot, j, rfl, rfl, hjm, hra, hS⟩ := hrel
    have AK := Aside0.mk hjm
    have AS := Aside0.mk hS
    have HRA := Aside0.mk hra
    obtain ⟨A6, c6, rfl⟩ := hS.rowN (n := j) hra.num
    clear hS hra
    by_cases cj : j < N
    case neg =>
      obtain rfl : j = N := by omega
      have hjl : ¬ (j : Int) < (j : Int) := by omega
      have HV : Aside0 (recR n las wt a b c = (out, tot)) := ⟨HR.out.trans (rec_end HRA.out (by rw [HN.out]; exact Nat.le_refl _))⟩
      clear hjm cj
      go_wp2_with fail
      go_ret2
      exact ⟨_, by rw [HV.out]; first | rfl | (simp; done), by rw [HV.out]; exact AS.out.drop2.drop2.at3.tail⟩
    case pos =>
    have hjl : (j : Int) < (N : Int) := by omega
    obtain ⟨hx, ad, B, cB, rfl, hcell, hlc, hCB⟩ := slice_at AS.out.at2.rowC' cj
    have z0 := (AS.out.at5.cell 0).trans rfl
    have z1 := (AS.out.at5.cell 1).trans rfl
    have z2 := (AS.out.at5.cell 2).trans rfl
    obtain ⟨XL, hXL⟩ : ∃ L, rows[j].length = L := ⟨_, rfl⟩
    rw [hXL] at hcell hlc hCB
    have hbx := HBR.out _ (List.getElem_mem hx)
    have hla := long_at hx
    rw [hXL] at hla
    have HX := Aside0.mk (And.intro hlc (And.intro hCB (And.intro hbx (show XL ≤ 1000000 by have := HLG.out; omega))))
    cases hu : undeltaF rows[j] b with
    | none =>
      have HU := Aside0.mk hu
      have HV : Aside0 (recR n las wt a b c = (out, tot)) := ⟨HR.out.trans (rec_none HRA.out hx hu)⟩
      clear hjm hu hla hXL hlc hCB hbx
      go_wp2_with fail
      refine (dread_none HU.out HX.out.2.1 HX.out.1 HX.out.2.2.1 HX.out.2.2.2).mono ?_
      rintro e w6 ⟨v6, rfl, hb6⟩
      have B6 := Aside0.mk (AS.out.below hb6)
      clear hb6
      go_wp2_with fail
      go_ret2
      exact ⟨_, by rw [HV.out]; first | rfl | (simp; done), by rw [HV.out]; exact B6.out.drop2.drop2.at3.tail⟩
    | some x =>
      have HU := Aside0.mk hu
      have hra2 := rec_some HRA.out hx hu
      have hrt := rec_tot hra2
      rw [hXL] at hra2 hrt
      obtain ⟨T2, hT2⟩ : ∃ T, tot + (16 + XL) = T := ⟨_, rfl⟩
      obtain ⟨y1, y2, X16, y3, y4⟩ := rc_nums (t := tot) (x := XL) (n := 10240) (Nat.le_trans hrt HLG.out) (by decide) hT2
      rw [hT2] at hra2
      have HR2 := Aside0.mk hra2
      have hj2 : (j + 1) * 24 ≤ 140737488355328 := by omega
      have HJ2 := Aside0.mk hj2
      clear hjm hu hla hXL hlc hCB hbx hra2 hrt hj2 hT2
      go_wp2_with fail
      refine (dread_some HU.out HX.out.2.1 HX.out.1 HX.out.2.2.1 HX.out.2.2.2).mono ?_
      rintro e w6 ⟨v6, rfl, hS6⟩
      have L6 := Aside0.mk ((AS.out.lift1 hS6).elSlice.at2)
      obtain ⟨A7, c7, rfl⟩ := hS6.rowV
      clear hS6
      go_wp2_with (first | (refine gate_builtin (b := .append) (xs := #[.tmp 38, .tmp 40]) rfl ?_; go_loud (refine L6.out.appendDeep rfl (.tmp 38) (.tmp 40) 124 _ 24 rfl Tryz.underlying124 infoK rfl (by decide) (by decide) rfl rfl (by rw [HRA.out.num]; exact HJ2.out) ?_; intro v8 w8 hs8 hS8; have B8 := Aside0.mk hS8; clear hS8)))
      go_roundg (gk - 1)
      case measure => have := AK.out; omega
      case rel => exact ⟨out ++ [x], T2, j + 1, by go_num, by go_num, by have := AK.out; omega, HR2.out, B8.out⟩
end
end Go.Proofs.YtjngnigelkgekaaGreat.Redo
namespace Go.Proofs.YtjngnigelkgekaaGreat.Redo
open Go.RowKit Go.Proofs.YtjngnigelkgekaaGreatW.PrintWords Go.Proofs.YtjngnigelkgekaaGreatW.PrintLast Go.Proofs.YtjngnigelkgekaaGreatW.PrintMore Go.Proofs.YtjngnigelkgekaaGreat.Kit Go.Proofs.YtjngnigelkgekaaGreat.Plain Go.Proofs.YtjngnigelkgekaaGreat.Disk Go.Proofs.YtjngnigelkgekaaGreat.Root
def appI (las : List Int) (wt : Wt) (at_ : Nat) (b : List Int) (i : Nat) : Wt := fun j => if j < 2 + i then appW las wt at_ b j else wt j
theorem appI_zero (las : List Int) (wt : Wt) (at_ : Nat) (b : List Int) : appI las wt at_ b 0 = wt := by
  funext j
  unfold appI appW
  by_cases h : j < 2 + 0
  · rw [if_pos h, if_neg (by omega)]
  · rw [if_neg h]
theorem appI_no {las : List Int} {wt : Wt} {at_ i : Nat} {b : List Int} (h : ¬ (b ≠ [] ∧ 64 * i < at_ + b.length ∧ at_ < 64 * (i + 1))) : appI las wt at_ b (i + 1) = appI las wt at_ b i := by
  funext j
  unfold appI
  by_cases h1 : j < 2 + i
  · rw [if_pos h1, if_pos (by omega)]
  · rw [if_neg h1]
    by_cases h2 : j < 2 + (i + 1)
    · rw [if_pos h2]
      unfold appW
      exact if_neg (fun h3 => h ⟨h3.1, by omega, by omega⟩)
    · rw [if_neg h2]
theorem appI_yes {las : List Int} {wt : Wt} {at_ i : Nat} {b : List Int} (h : b ≠ [] ∧ 64 * i < at_ + b.length ∧ at_ < 64 * (i + 1)) : appI las wt at_ b (i + 1) = fun j => if j = 2 + i then some (sec (over (flushed las wt) (128 + at_) b) (2 + i)) else appI las wt at_ b i j := by
  funext j
  unfold appI
  by_cases h1 : j < 2 + i
  · rw [if_pos (by omega), if_neg (by omega), if_pos h1]
  · by_cases h2 : j = 2 + i
    · subst h2
      rw [if_pos (by omega), if_pos rfl]
      unfold appW
      exact if_pos ⟨h.1, by omega, by omega⟩
    · rw [if_neg (by omega), if_neg h2, if_neg h1]
theorem appI_all {las : List Int} {wt : Wt} {at_ a : Nat} {b : List Int} (h : at_ + b.length ≤ 64 * a) : appI las wt at_ b a = appW las wt at_ b := by
  funext j
  unfold appI
  by_cases h1 : j < 2 + a
  · rw [if_pos h1]
  · rw [if_neg h1]
    unfold appW
    rw [if_neg (by omega)]
theorem appI_nil {las : List Int} {wt : Wt} {at_ i : Nat} : appI las wt at_ [] i = wt := by
  funext j
  unfold appI
  rw [appW_nil]
  split <;> rfl
theorem cut_over {G b : List Int} {at_ N : Nat} (h : 128 + at_ + b.length ≤ N) (hG : N ≤ G.length) : over ((G.take N).drop 128) at_ b = ((over G (128 + at_) b).take N).drop 128 := by
  apply List.ext_getElem?
  intro j
  rw [over_get (by rw [List.length_drop, List.length_take]; omega), List.getElem?_drop, List.getElem?_take, List.getElem?_drop, List.getElem?_take, over_get (by omega)]
  by_cases h1 : at_ ≤ j ∧ j < at_ + b.length
  · rw [if_pos h1, if_pos (by omega), if_pos (by omega), show 128 + j - (128 + at_) = j - at_ by omega]
  · rw [if_neg h1, if_neg (show ¬ (128 + at_ ≤ 128 + j ∧ 128 + j < 128 + at_ + b.length) by omega)]
theorem sec_cut {X : List Int} {i a : Nat} (h : i < a) (hX : 64 * (2 + a) ≤ X.length) : sec ((X.take (64 * (2 + a))).drop 128) i = sec X (2 + i) := by
  apply List.ext_getElem?
  intro j
  by_cases hj : j < 64
  · rw [sec_get _ _ _ hj, sec_get _ _ _ hj, List.getElem?_drop, List.getElem?_take, if_pos (by omega)]
    congr 1
    omega
  · rw [List.getElem?_eq_none (by unfold sec; rw [List.length_take]; omega), List.getElem?_eq_none (by unfold sec; rw [List.length_take]; omega)]
theorem sec_log {G b : List Int} {at_ i a : Nat} (h : at_ + b.length ≤ 64 * a) (hG : 64 * (2 + a) ≤ G.length) (hi : i < a) : sec (over ((G.take (64 * (2 + a))).drop 128) at_ b) i = sec (over G (128 + at_) b) (2 + i) := by
  rw [cut_over (by omega) hG]
  exact sec_cut hi (by rw [over_len (by omega)]; exact hG)
theorem mid_sec (l : List Int) (i : Nat) : (l.take (64 * i + 64)).drop (64 * i) = sec l i := by
  unfold sec
  rw [List.drop_take]
  congr 1
  omega
end Go.Proofs.YtjngnigelkgekaaGreat.Redo
namespace Go.Proofs.YtjngnigelkgekaaGreat.Redo
open Go.RowKit Go.Proofs.YtjngnigelkgekaaGreatW.PrintWords Go.Proofs.YtjngnigelkgekaaGreatW.PrintLast Go.Proofs.YtjngnigelkgekaaGreatW.PrintMore Go.Proofs.YtjngnigelkgekaaGreat.Kit Go.Proofs.YtjngnigelkgekaaGreat.Plain Go.Proofs.YtjngnigelkgekaaGreat.Disk Go.Proofs.YtjngnigelkgekaaGreat.Root
theorem over_bytes {xs ys : List Int} {o : Nat} (h : Bytes xs) (k : Bytes ys) : Bytes (over xs o ys) := by
  unfold over
  exact ((h.take _).app k).app (h.drop _)
theorem secs_bytes {f : Nat → List Int} : ∀ {n : Nat}, (∀ i, i < n → Bytes (f i)) → Bytes (secs n f)
  | 0, _ => by unfold secs; exact Bytes.nil
  | n + 1, h => by
    rw [secs_succ]
    exact (secs_bytes (fun i hi => h i (by omega))).app (h n (by omega))
theorem flushed_bytes {las : List Int} {wt : Wt} (hl : Bytes las) (hw : ∀ i b, wt i = some b → Bytes b) : Bytes (flushed las wt) := by
  unfold flushed
  refine secs_bytes (fun i _ => ?_)
  cases h : wt i with
  | none => exact (hl.drop _).take _
  | some b => exact hw i b h
theorem logF_bytes {n : Nat} {las : List Int} {wt : Wt} (hl : Bytes las) (hw : ∀ i b, wt i = some b → Bytes b) (a b c : Int) : Bytes (logF n las wt a b c) := by
  unfold logF
  split
  · exact secs_bytes (fun i _ => secF_bytes hl hw _)
  · exact Bytes.nil
def WtOk (wt : Wt) : Prop := (∀ i b, wt i = some b → b.length = 64) ∧ ∀ i b, wt i = some b → Bytes b
theorem appR_ok {n : Nat} {las : List Int} {wt : Wt} {a b c at_ : Int} {xs : List Int} (hl : las.length = 64 * n) (hb : Bytes las) (hw : WtOk wt) (hx : Bytes xs) : WtOk (appR n las wt a b c at_ xs) := by
  unfold appR
  split
  · rename_i h
    have h1 := ok_in h
    refine ⟨appW_len hl hw.1 (by omega), fun i y hy => ?_⟩
    unfold appW at hy
    split at hy
    · injection hy with hy
      rw [← hy]
      exact ((over_bytes (flushed_bytes hb hw.2) hx).drop _).take _
    · exact hw.2 i y hy
  · exact hw
end Go.Proofs.YtjngnigelkgekaaGreat.Redo
namespace Go.Proofs.YtjngnigelkgekaaGreat.Redo
open Go.RowKit Go.Proofs.YtjngnigelkgekaaGreatW.PrintWords Go.Proofs.YtjngnigelkgekaaGreatW.PrintLast Go.Proofs.YtjngnigelkgekaaGreatW.PrintMore Go.Proofs.YtjngnigelkgekaaGreat.Kit Go.Proofs.YtjngnigelkgekaaGreat.Plain Go.Proofs.YtjngnigelkgekaaGreat.Disk Go.Proofs.YtjngnigelkgekaaGreat.Root
open Go.Proofs.YtjngnigelkgekaaGreat.Home (RTL)
section
variable {w0 W : World} {F : List HP} {g n : Nat} {left d : Int} {las : List Int} {wt : Wt}
theorem lg_nums {j Lg : Nat} (h : j ≤ Lg) (hL : Lg ≤ 64) : wrap64 (2 + (Lg : Int)) = 2 + (Lg : Int) ∧ wrap64 ((j : Int) + 1) = (j : Int) + 1 := ⟨IntWalk.wrap64_in _ (by omega), IntWalk.wrap64_in _ (by omega)⟩
set_option maxHeartbeats 1600000 in
set_option maxRecDepth 100000 in
theorem rlog_no (h : Sep w0 W (RTL g n las wt left d :: F)) (hl : las.length = 64 * n) (hw : ∀ i b, wt i = some b → b.length = 64) (a b c : Int) (hr : rightR a b c n = false) :
    Calls Tryz.prog 76 #[.pointer (some ⟨g, 0, none⟩), .agg #[.int .i64 a, .int .i64 b, .int .u32 c]] W fun e w' => e = .returned (.slice none 0 0) ∧ Sep w0 w' (RTL g n las wt left d :: F) := by
  have A0 := Aside0.mk (h.newBlk 80 #[.int .i64 a, .int .i64 b, .int .u32 c]).drew
  have HL := Aside0.mk (And.intro hl hw)
  clear h hl hw
  have HRT := Aside0.mk hr
  clear hr
  go_enter Tryz.func76, Tryz.ntmps76
  go_wp2_with fail
  refine start_ (n := 5) (S := fun w' => w'.cell? ⟨W.heap.size, 0, none⟩ = some (.int .i64 a) ∧ w'.cell? ⟨W.heap.size, 1, none⟩ = some (.int .i64 b) ∧ w'.cell? ⟨W.heap.size, 2, none⟩ = some (.int .u32 c)) (ds := [3]) #[Z,Z,Z,Z,Z] (by kernel_rfl) rfl rfl ⟨(A0.out.cell 0).trans rfl, (A0.out.cell 1).trans rfl, (A0.out.cell 2).trans rfl⟩ (fun hHeld => ?_)
  refine pu_ 1 10 ?_ #[Z,J,Z,Z,Z] rfl rfl ?_ ?_ ?_ ?_
  rotate_left
  · intro w'
    go_simp
    with_reducible rfl
  rotate_left
  · simp only [aP]
    rfl
  refine ta_ 0 9 ?_ #[J,J,Z,Z,Z] rfl rfl ?_ hHeld ?_ ?_ ?_
  rotate_left
  · rintro w' ⟨s0, s1, s2⟩
    go_simp
    with_reducible rfl
  rotate_left
  · simp only [aP]
    rfl
  refine one_ (i := 2) (N := some 11) #[J,J,J,Z,Z] rfl rfl (by kernel_rfl) (by decide) (fun K hK => ?_)
  refine goes_ Tryz.func78 (by kernel_rfl) rfl #[.pointer (some ⟨g, 0, none⟩)] (by rfl) rfl rfl (by simp only [List.map_toArray, List.map_cons, List.map_nil]; rfl) ?_
  with_reducible refine (Ref.len_ A0.out.at2).mono ?_
  rintro e w4 ⟨rfl, rfl⟩
  refine ⟨_, rfl, ?_⟩
  refine hK.out _ _ ⟨(A0.out.cell 0).trans rfl, (A0.out.cell 1).trans rfl, (A0.out.cell 2).trans rfl⟩ (fun hHeld => ?_)
  clear hK K
  refine norm_ (a' := ?_) ?_ ?_
  rotate_left
  · show Act.put _ (some 11) _ = _
    simp only [aP]
    rfl
  refine last_ (i := 3) (N := some 12) #[J,J,J,J,Z] rfl rfl (by kernel_rfl) (by decide) (fun K hK => ?_)
  refine goes_ Tryz.func77 (by kernel_rfl) rfl #[.agg #[.int .i64 a, .int .i64 b, .int .u32 c], .int .i64 (n : Int)] (by rfl) rfl rfl (by simp only [List.map_toArray, List.map_cons, List.map_nil]; rfl) ?_
  with_reducible refine (rright_ a b c (n : Int) _).mono ?_
  rintro e w5 ⟨rfl, hb5⟩
  refine ⟨_, rfl, ?_⟩
  rw [HRT.out]
  have A5 := Aside0.mk (A0.out.below hb5)
  clear hb5
  refine hK.out _ _ ?_
  clear hK K
  refine norm_ (a' := ?_) ?_ ?_
  rotate_left
  · show Act.put _ (some 12) _ = _
    simp only [aP]
    rfl
  refine pu_ 4 13 ?_ #[J,J,J,J,J] rfl rfl ?_ ?_ ?_ ?_
  rotate_left
  · intro w'
    go_simp
    with_reducible rfl
  rotate_left
  · simp only [aP]
    rfl
  refine done_ (by kernel_rfl) ?_
  go_wp2_with fail
  go_ret
  exact ⟨by first | rfl | (simp; done), A5.out.tail⟩
set_option maxHeartbeats 1600000 in
set_option maxRecDepth 100000 in
theorem rlog_yes (h : Sep w0 W (RTL g n las wt left d :: F)) (hl : las.length = 64 * n) (hw : ∀ i b, wt i = some b → b.length = 64) (a b c : Int) (hr : rightR a b c n = true) :
    Calls Tryz.prog 76 #[.pointer (some ⟨g, 0, none⟩), .agg #[.int .i64 a, .int .i64 b, .int .u32 c]] W fun e w' => ∃ v, e = .returned v ∧ Sep w0 w' (Row U8 5 v (logF n las wt a b c) :: RTL g n las wt left d :: F) := by
  have A0 := Aside0.mk (h.newBlk 80 #[.int .i64 a, .int .i64 b, .int .u32 c]).drew
  have HL := Aside0.mk (And.intro hl hw)
  clear h hl hw
  have HRT := Aside0.mk hr
  have h1 := of_decide_eq_true hr
  obtain ⟨Lg, rfl⟩ := Int.eq_ofNat_of_zero_le (show 0 ≤ a by omega)
  have HP : Aside0 (logF n las wt (Lg : Int) b c = secs Lg (fun i => secF n las wt (2 + i))) := ⟨by unfold logF; rw [if_pos hr, Int.toNat_natCast]⟩
  have hK : Lg ≤ 64 := by omega
  have HK := Aside0.mk hK
  have HKN : Aside0 (2 + Lg ≤ n) := ⟨by omega⟩
  clear hr h1
  go_enter Tryz.func76, Tryz.ntmps76
  go_wp2_with fail
  refine start_ (n := 5) (S := fun w' => w'.cell? ⟨W.heap.size, 0, none⟩ = some (.int .i64 (Lg : Int)) ∧ w'.cell? ⟨W.heap.size, 1, none⟩ = some (.int .i64 b) ∧ w'.cell? ⟨W.heap.size, 2, none⟩ = some (.int .u32 c)) (ds := [3]) #[Z,Z,Z,Z,Z] (by kernel_rfl) rfl rfl ⟨(A0.out.cell 0).trans rfl, (A0.out.cell 1).trans rfl, (A0.out.cell 2).trans rfl⟩ (fun hHeld => ?_)
  refine pu_ 1 10 ?_ #[Z,J,Z,Z,Z] rfl rfl ?_ ?_ ?_ ?_
  rotate_left
  · intro w'
    go_simp
    with_reducible rfl
  rotate_left
  · simp only [aP]
    rfl
  refine ta_ 0 9 ?_ #[J,J,Z,Z,Z] rfl rfl ?_ hHeld ?_ ?_ ?_
  rotate_left
  · rintro w' ⟨s0, s1, s2⟩
    go_simp
    with_reducible rfl
  rotate_left
  · simp only [aP]
    rfl
  refine one_ (i := 2) (N := some 11) #[J,J,J,Z,Z] rfl rfl (by kernel_rfl) (by decide) (fun K hK => ?_)
  refine goes_ Tryz.func78 (by kernel_rfl) rfl #[.pointer (some ⟨g, 0, none⟩)] (by rfl) rfl rfl (by simp only [List.map_toArray, List.map_cons, List.map_nil]; rfl) ?_
  with_reducible refine (Ref.len_ A0.out.at2).mono ?_
  rintro e w4 ⟨rfl, rfl⟩
  refine ⟨_, rfl, ?_⟩
  refine hK.out _ _ ⟨(A0.out.cell 0).trans rfl, (A0.out.cell 1).trans rfl, (A0.out.cell 2).trans rfl⟩ (fun hHeld => ?_)
  clear hK K
  refine norm_ (a' := ?_) ?_ ?_
  rotate_left
  · show Act.put _ (some 11) _ = _
    simp only [aP]
    rfl
  refine last_ (i := 3) (N := some 12) #[J,J,J,J,Z] rfl rfl (by kernel_rfl) (by decide) (fun K hK => ?_)
  refine goes_ Tryz.func77 (by kernel_rfl) rfl #[.agg #[.int .i64 (Lg : Int), .int .i64 b, .int .u32 c], .int .i64 (n : Int)] (by rfl) rfl rfl (by simp only [List.map_toArray, List.map_cons, List.map_nil]; rfl) ?_
  with_reducible refine (rright_ (Lg : Int) b c (n : Int) _).mono ?_
  rintro e w5 ⟨rfl, hb5⟩
  refine ⟨_, rfl, ?_⟩
  rw [HRT.out]
  have A5 := Aside0.mk (A0.out.below hb5)
  clear hb5
  refine hK.out _ _ ?_
  clear hK K
  refine norm_ (a' := ?_) ?_ ?_
  rotate_left
  · show Act.put _ (some 12) _ = _
    simp only [aP]
    rfl
  refine pu_ 4 13 ?_ #[J,J,J,J,J] rfl rfl ?_ ?_ ?_ ?_
  rotate_left
  · intro w'
    go_simp
    with_reducible rfl
  rotate_left
  · simp only [aP]
    rfl
  refine done_ (by kernel_rfl) ?_
  have A6 := Aside0.mk (A5.out.nilRow U8 5)
  go_wp2_with fail
  go_loopg [5, 6] Lg (fun m v p wr => ∃ j i : Nat, p = .int .i64 (i : Int) ∧ i = 2 + j ∧ j + m = Lg ∧ Sep w0 wr (Row U8 5 v (secs j (fun i => secF n las wt (2 + i))) :: Blk W.heap.size 80 #[.int .i64 (Lg : Int), .int .i64 b, .int .u32 c] :: RTL g n las wt left d :: F))
  case atStart => exact ⟨0, 2, rfl, rfl, by omega, A6.out⟩
  case round =>
    obtain ⟨j, i, rfl, hij, hjm, hS⟩ := hrel
    have AK := Aside0.mk (And.intro hjm hij)
    have AS := Aside0.mk hS
    have HSL : Aside0 (j ≤ Lg → (secs j (fun i => secF n las wt (2 + i))).length = 64 * j) := ⟨fun h => secs_len (fun i hi => by rw [secF_len HL.out.1 HL.out.2, if_pos (by have := HKN.out; omega)])⟩
    clear hS
    have z0 := (AS.out.at2.cell 0).trans rfl
    have z1 := (AS.out.at2.cell 1).trans rfl
    have z2 := (AS.out.at2.cell 2).trans rfl
    obtain ⟨A3, c3, rfl⟩ := AS.out.rowN (n := 64 * j) (HSL.out (by omega))
    have hwL := (lg_nums (j := j) (by omega) HK.out).1
    by_cases hj : j < Lg
    · have hjl : (i : Int) < 2 + (Lg : Int) := by omega
      have hjld : decide ((i : Int) < 2 + (Lg : Int)) = true := decide_eq_true hjl
      have HSN : Aside0 (secs (j + 1) (fun i => secF n las wt (2 + i)) = secs j (fun i => secF n las wt (2 + i)) ++ secF n las wt i) := ⟨by rw [hij]; exact secs_succ _ _⟩
      have HIN : Aside0 (i < n) := ⟨by have := HKN.out; omega⟩
      have HXL : Aside0 ((secF n las wt i).length = 64) := ⟨by rw [secF_len HL.out.1 HL.out.2, if_pos HIN.out]⟩
      have hw1 : wrap64 ((i : Int) + 1) = (i : Int) + 1 := IntWalk.wrap64_in _ (by omega)
      clear hjm hij
      go_wp2_with fail
      refine (Ref.rread_ AS.out.at3 HL.out.1 HL.out.2 i HIN.out).mono ?_
      rintro e w3 ⟨v3, rfl, hS3⟩
      have hsf : (wt i).getD (sec las i) = secF n las wt i := by unfold secF; rw [if_pos HIN.out]
      rw [hsf] at hS3
      obtain ⟨A4, c4, rfl⟩ := hS3.rowN (n := 64) HXL.out
      have L3 : Aside0 (Sep w0 w3 (Row U8 5 (.slice A3 (64 * j) c3) (secs j (fun i => secF n las wt (2 + i))) :: Row U8 5 (.slice A4 64 c4) (secF n las wt i) :: Blk W.heap.size 80 #[.int .i64 (Lg : Int), .int .i64 b, .int .u32 c] :: RTL g n las wt left d :: F)) := ⟨hS3.at3.perm (.cons _ (.cons _ (.swap _ _ _)))⟩
      clear hS3 hsf z0 z1 z2
      go_wp2_with (first | (refine gate_builtin (b := .append) (xs := #[.tmp 27, .tmp 28]) rfl ?_; go_loud (refine L3.out.appendRow rfl (.tmp 27) (.tmp 28) 24 (.int .u8 0) 1 rfl Tryz.underlying24 Base.infoB rfl (by decide) A4 64 c4 rfl rfl L3.out.at2.rowC' (by rw [HSL.out (by omega), HXL.out]; omega) ?_; intro v6 w6 hS6; have B6 := Aside0.mk hS6; clear hS6)))
      go_roundg (gk - 1)
      case measure => have := AK.out; omega
      case rel => exact ⟨j + 1, i + 1, by go_num, by have := AK.out; omega, by have := AK.out; omega, by rw [HSN.out]; exact B6.out.drop2⟩
    · obtain rfl : j = Lg := by omega
      have hjl : ¬ (i : Int) < 2 + (j : Int) := by omega
      have hjld : decide ((i : Int) < 2 + (j : Int)) = false := decide_eq_false hjl
      clear hjm hij
      go_wp2_with fail
      go_ret
      exact ⟨_, by first | rfl | (simp; done), by rw [HP.out]; exact AS.out.drop2⟩
theorem rlog_ (h : Sep w0 W (RTL g n las wt left d :: F)) (hl : las.length = 64 * n) (hw : ∀ i b, wt i = some b → b.length = 64) (a b c : Int) :
    Calls Tryz.prog 76 #[.pointer (some ⟨g, 0, none⟩), .agg #[.int .i64 a, .int .i64 b, .int .u32 c]] W fun e w' => ∃ v, e = .returned v ∧ Sep w0 w' (Row U8 5 v (logF n las wt a b c) :: RTL g n las wt left d :: F) := by
  cases hr : rightR a b c n with
  | false =>
    refine (rlog_no h hl hw a b c hr).mono ?_
    rintro e w' ⟨rfl, hS⟩
    exact ⟨_, rfl, by rw [show logF n las wt a b c = [] by unfold logF; rw [hr]; rfl]; exact hS.nilRow _ _⟩
  | true => exact rlog_yes h hl hw a b c hr
end
end Go.Proofs.YtjngnigelkgekaaGreat.Redo
namespace Go.Proofs.YtjngnigelkgekaaGreat.Redo
open Go.RowKit Go.Proofs.YtjngnigelkgekaaGreatW.PrintWords Go.Proofs.YtjngnigelkgekaaGreatW.PrintLast Go.Proofs.YtjngnigelkgekaaGreatW.PrintMore Go.Proofs.YtjngnigelkgekaaGreat.Kit Go.Proofs.YtjngnigelkgekaaGreat.Plain Go.Proofs.YtjngnigelkgekaaGreat.Disk Go.Proofs.YtjngnigelkgekaaGreat.Root Go.Proofs.YtjngnigelkgekaaGreat.Frame
open Go.Proofs.YtjngnigelkgekaaGreat.Home (K2 RTL)
open Go.Proofs.YtjngnigelkgekaaGreat.Delta (Chg KC undeltaF)
theorem runde_none {A : Option Addr} {n c : Nat} {b : List Int} {w : World} {pages : Int} (hu : undeltaF b pages = none) (hr : (Kd.int .u8).C w A n b) (hc : n ≤ c) (hb : Bytes b) (hl : n ≤ 1000000) :
    Calls Tryz.prog 112 #[.slice A n c, .int .i64 pages] w fun e w' => ∃ v, e = .returned (.tuple #[v, .bool false]) ∧ Below w.heap.size w w' := by
  refine (Delta.rundelta_ hr hc hb hl pages).mono ?_
  rintro e w' ⟨v, rfl, hS⟩
  rw [hu]
  exact ⟨v, rfl, hS.toBelow⟩
theorem runde_some {A : Option Addr} {n c : Nat} {b : List Int} {w : World} {pages : Int} {x : List Chg} (hu : undeltaF b pages = some x) (hr : (Kd.int .u8).C w A n b) (hc : n ≤ c) (hb : Bytes b) (hl : n ≤ 1000000) :
    Calls Tryz.prog 112 #[.slice A n c, .int .i64 pages] w fun e w' => ∃ v, e = .returned (.tuple #[v, .bool true]) ∧ Sep w w' [Row KC 75 v x] := by
  refine (Delta.rundelta_ hr hc hb hl pages).mono ?_
  rintro e w' ⟨v, rfl, hS⟩
  rw [hu] at hS ⊢
  exact ⟨v, rfl, hS⟩
section
variable {w0 W : World} {F : List HP} {g n : Nat} {left d : Int} {las : List Int} {wt : Wt}
set_option maxHeartbeats 1600000 in
set_option maxRecDepth 100000 in
theorem rrecords_ (h : Sep w0 W (RTL g n las wt left d :: F)) (hl : las.length = 64 * n) (hn : n ≤ 160) (hw : ∀ i b, wt i = some b → b.length = 64) (a b c : Int) (hb : Bytes (logF n las wt a b c)) :
    Calls Tryz.prog 81 #[.pointer (some ⟨g, 0, none⟩), .agg #[.int .i64 a, .int .i64 b, .int .u32 c]] W fun e w' => ∃ v, e = .returned (.tuple #[v, .int .i64 ((recR n las wt a b c).2 : Int)]) ∧ Sep w0 w' (Row K3 60 v (recR n las wt a b c).1 :: RTL g n las wt left d :: F) := by
  have A0 := Aside0.mk (h.newBlk 80 #[.int .i64 a, .int .i64 b, .int .u32 c]).drew
  have HL := Aside0.mk (And.intro hl (And.intro hw (And.intro (log_len hl hn hw a b c) hb)))
  clear h hl hw hb hn
  go_enter Tryz.func81, Tryz.ntmps81
  go_wp2_with fail
  refine start_ (n := 11) (S := fun w' => w'.cell? ⟨W.heap.size, 0, none⟩ = some (.int .i64 a) ∧ w'.cell? ⟨W.heap.size, 1, none⟩ = some (.int .i64 b) ∧ w'.cell? ⟨W.heap.size, 2, none⟩ = some (.int .u32 c)) (ds := []) #[Z,Z,Z,Z,Z,Z,Z,Z,Z,Z,Z] (by kernel_rfl) rfl rfl ⟨(A0.out.cell 0).trans rfl, (A0.out.cell 1).trans rfl, (A0.out.cell 2).trans rfl⟩ (fun hHeld => ?_)
  refine pu_ 0 15 ?_ #[J,Z,Z,Z,Z,Z,Z,Z,Z,Z,Z] rfl rfl ?_ ?_ ?_ ?_
  rotate_left
  · intro w'
    go_simp
    with_reducible rfl
  rotate_left
  · simp only [aP]
    rfl
  refine pu_ 3 18 ?_ #[J,Z,Z,J,Z,Z,Z,Z,Z,Z,Z] rfl rfl ?_ ?_ ?_ ?_
  rotate_left
  · intro w'
    go_simp
    with_reducible rfl
  rotate_left
  · simp only [aP]
    rfl
  refine ta_ 1 16 ?_ #[J,J,Z,J,Z,Z,Z,Z,Z,Z,Z] rfl rfl ?_ hHeld ?_ ?_ ?_
  rotate_left
  · rintro w' ⟨s0, s1, s2⟩
    go_simp
    with_reducible rfl
  rotate_left
  · simp only [aP]
    rfl
  refine ta_ 4 19 ?_ #[J,J,Z,J,J,Z,Z,Z,Z,Z,Z] rfl rfl ?_ hHeld ?_ ?_ ?_
  rotate_left
  · rintro w' ⟨s0, s1, s2⟩
    go_simp
    with_reducible rfl
  rotate_left
  · simp only [aP]
    rfl
  refine one_ (i := 2) (N := some 17) #[J,J,J,J,J,Z,Z,Z,Z,Z,Z] rfl rfl (by kernel_rfl) (by decide) (fun K hK => ?_)
  refine goes_ Tryz.func76 (by kernel_rfl) rfl #[.pointer (some ⟨g, 0, none⟩), .agg #[.int .i64 a, .int .i64 b, .int .u32 c]] (by rfl) rfl rfl (by simp only [List.map_toArray, List.map_cons, List.map_nil]; rfl) ?_
  with_reducible refine (rlog_ A0.out.at2 HL.out.1 HL.out.2.1 a b c).mono ?_
  rintro e w3 ⟨v3, rfl, hS3⟩
  refine ⟨_, rfl, ?_⟩
  obtain ⟨A3, c3, rfl⟩ := hS3.rowV
  have B3 := Aside0.mk hS3
  clear hS3
  refine hK.out _ _ ⟨(B3.out.at3.cell 0).trans rfl, (B3.out.at3.cell 1).trans rfl, (B3.out.at3.cell 2).trans rfl⟩ (fun hHeld => ?_)
  clear hK K
  refine norm_ (a' := ?_) ?_ ?_
  rotate_left
  · show Act.put _ (some 17) _ = _
    simp only [aP]
    rfl
  refine one_ (i := 5) (N := some 20) #[J,J,J,J,J,J,Z,Z,Z,Z,Z] rfl rfl (by kernel_rfl) (by decide) (fun K hK => ?_)
  refine goes_ Tryz.func75 (by kernel_rfl) rfl #[.slice A3 (logF n las wt a b c).length c3, .int .u32 c] (by rfl) rfl rfl (by simp only [List.map_toArray, List.map_cons, List.map_nil]; rfl) ?_
  with_reducible refine (rscan_ B3.out.rowC' B3.out.rowC.2.1 HL.out.2.2.2 (by have := HL.out.2.2.1; omega) c).mono ?_
  rintro e w4 ⟨v4, rfl, hS4⟩
  refine ⟨_, rfl, ?_⟩
  have B4 := Aside0.mk (B3.out.lift1 hS4)
  clear hS4
  refine hK.out _ _ ⟨(B4.out.at4.cell 0).trans rfl, (B4.out.at4.cell 1).trans rfl, (B4.out.at4.cell 2).trans rfl⟩ (fun hHeld => ?_)
  clear hK K
  refine norm_ (a' := ?_) ?_ ?_
  rotate_left
  · show Act.put _ (some 20) _ = _
    simp only [aP]
    rfl
  refine pu_ 6 14 ?_ #[J,J,J,J,J,J,J,Z,Z,Z,Z] rfl rfl ?_ ?_ ?_ ?_
  rotate_left
  · intro w'
    go_simp
    with_reducible rfl
  rotate_left
  · simp only [aP]
    rfl
  refine pu_ 7 21 ?_ #[J,J,J,J,J,J,J,J,Z,Z,Z] rfl rfl ?_ ?_ ?_ ?_
  rotate_left
  · intro w'
    go_simp
    with_reducible rfl
  rotate_left
  · simp only [aP]
    rfl
  refine pu_ 8 22 ?_ #[J,J,J,J,J,J,J,J,J,Z,Z] rfl rfl ?_ ?_ ?_ ?_
  rotate_left
  · intro w'
    go_simp
    with_reducible rfl
  rotate_left
  · simp only [aP]
    rfl
  refine pu_ 9 6 ?_ #[J,J,J,J,J,J,J,J,J,J,Z] rfl rfl ?_ ?_ ?_ ?_
  rotate_left
  · intro w'
    go_simp
    with_reducible rfl
  rotate_left
  · simp only [aP]
    rfl
  refine pu_ 10 7 ?_ #[J,J,J,J,J,J,J,J,J,J,J] rfl rfl ?_ ?_ ?_ ?_
  rotate_left
  · intro w'
    go_simp
    with_reducible rfl
  rotate_left
  · simp only [aP]
    rfl
  refine done_ (by kernel_rfl) ?_
  have HSF := Aside0.mk (scan_facts HL.out.2.2.2 c)
  obtain ⟨rows, hrows⟩ : ∃ r, (scanR (logF n las wt a b c) c).1 = r := ⟨_, rfl⟩
  have HR : Aside0 (recR n las wt a b c = recsF b rows) := ⟨by unfold recR; rw [hrows]⟩
  have HLG : Aside0 (longs rows ≤ 10240) := ⟨by rw [← hrows, HSF.out.2.1]; exact Nat.le_trans HSF.out.2.2 HL.out.2.2.1⟩
  have HBR : Aside0 (∀ x ∈ rows, Bytes x) := ⟨by rw [← hrows]; exact HSF.out.1⟩
  rw [hrows] at B4
  obtain ⟨N, hN⟩ : ∃ N, rows.length = N := ⟨_, rfl⟩
  have HN := Aside0.mk hN
  obtain ⟨A4, c4, rfl⟩ := B4.out.rowN (n := N) hN
  have B5 := Aside0.mk (B4.out.nilRow K3 60)
  have hN2 : N ≤ 10240 := by have := longs_len rows; have := HLG.out; omega
  clear hrows hN
  go_wp2_with fail
  go_loopg [8, 9, 25] N (fun k_ v s p wr => ∃ (out : List (List Chg)) (tot j : Nat), s = .int .i64 (tot : Int) ∧ p = .int .i64 (j : Int) ∧ j + k_ = N ∧ RecAt b rows out tot j ∧ Sep w0 wr (Row K3 60 v out :: Row K2 24 (.slice A4 N c4) rows :: Row U8 5 (.slice A3 (logF n las wt a b c).length c3) (logF n las wt a b c) :: RTL g n las wt left d :: Blk W.heap.size 80 #[.int .i64 a, .int .i64 b, .int .u32 c] :: F))
  case atStart => exact ⟨[], 0, 0, rfl, rfl, by omega, rec_start b rows, B5.out⟩
  case round =>
    obtain ⟨out, tot, j, rfl, rfl, hjm, hra, hS⟩ := hrel
    have AK := Aside0.mk hjm
    have AS := Aside0.mk hS
    have HRA := Aside0.mk hra
    obtain ⟨A6, c6, rfl⟩ := hS.rowN (n := j) hra.num
    clear hS hra
    by_cases cj : j < N
    case neg =>
      obtain rfl : j = N := by omega
      have hjl : ¬ (j : Int) < (j : Int) := by omega
      have HV : Aside0 (recR n las wt a b c = (out, tot)) := ⟨HR.out.trans (rec_end HRA.out (by rw [HN.out]; exact Nat.le_refl _))⟩
      clear hjm cj
      go_wp2_with fail
      go_ret2
      exact ⟨_, by rw [HV.out]; first | rfl | (simp; done), by rw [HV.out]; exact AS.out.drop2.drop2.at3.tail⟩
    case pos =>
    have hjl : (j : Int) < (N : Int) := by omega
    obtain ⟨hx, ad, B, cB, rfl, hcell, hlc, hCB⟩ := slice_at AS.out.at2.rowC' cj
    have z0 := (AS.out.at5.cell 0).trans rfl
    have z1 := (AS.out.at5.cell 1).trans rfl
    have z2 := (AS.out.at5.cell 2).trans rfl
    obtain ⟨XL, hXL⟩ : ∃ L, rows[j].length = L := ⟨_, rfl⟩
    rw [hXL] at hcell hlc hCB
    have hbx := HBR.out _ (List.getElem_mem hx)
    have hla := long_at hx
    rw [hXL] at hla
    have HX := Aside0.mk (And.intro hlc (And.intro hCB (And.intro hbx (show XL ≤ 1000000 by have := HLG.out; omega))))
    cases hu : undeltaF rows[j] b with
    | none =>
      have HU := Aside0.mk hu
      have HV : Aside0 (recR n las wt a b c = (out, tot)) := ⟨HR.out.trans (rec_none HRA.out hx hu)⟩
      clear hjm hu hla hXL hlc hCB hbx
      go_wp2_with fail
      refine (runde_none HU.out HX.out.2.1 HX.out.1 HX.out.2.2.1 HX.out.2.2.2).mono ?_
      rintro e w6 ⟨v6, rfl, hb6⟩
      have B6 := Aside0.mk (AS.out.below hb6)
      clear hb6
      go_wp2_with fail
      go_ret2
      exact ⟨_, by rw [HV.out]; first | rfl | (simp; done), by rw [HV.out]; exact B6.out.drop2.drop2.at3.tail⟩
    | some x =>
      have HU := Aside0.mk hu
      have hra2 := rec_some HRA.out hx hu
      have hrt := rec_tot hra2
      rw [hXL] at hra2 hrt
      obtain ⟨T2, hT2⟩ : ∃ T, tot + (16 + XL) = T := ⟨_, rfl⟩
      obtain ⟨y1, y2, X16, y3, y4⟩ := rc_nums (t := tot) (x := XL) (n := 10240) (Nat.le_trans hrt HLG.out) (by decide) hT2
      rw [hT2] at hra2
      have HR2 := Aside0.mk hra2
      have hj2 : (j + 1) * 24 ≤ 140737488355328 := by omega
      have HJ2 := Aside0.mk hj2
      clear hjm hu hla hXL hlc hCB hbx hra2 hrt hj2 hT2
      go_wp2_with fail
      refine (runde_some HU.out HX.out.2.1 HX.out.1 HX.out.2.2.1 HX.out.2.2.2).mono ?_
      rintro e w6 ⟨v6, rfl, hS6⟩
      have L6 := Aside0.mk ((AS.out.lift1 hS6).elSlice.at2)
      obtain ⟨A7, c7, rfl⟩ := hS6.rowV
      clear hS6
      go_wp2_with (first | (refine gate_builtin (b := .append) (xs := #[.tmp 38, .tmp 40]) rfl ?_; go_loud (refine L6.out.appendDeep rfl (.tmp 38) (.tmp 40) 124 _ 24 rfl Tryz.underlying124 infoK rfl (by decide) (by decide) rfl rfl (by rw [HRA.out.num]; exact HJ2.out) ?_; intro v8 w8 hs8 hS8; have B8 := Aside0.mk hS8; clear hS8)))
      go_roundg (gk - 1)
      case measure => have := AK.out; omega
      case rel => exact ⟨out ++ [x], T2, j + 1, by go_num, by go_num, by have := AK.out; omega, HR2.out, B8.out⟩
end
end Go.Proofs.YtjngnigelkgekaaGreat.Redo
namespace Go.Proofs.YtjngnigelkgekaaGreat.Redo
end Go.Proofs.YtjngnigelkgekaaGreat.Redo
namespace Go.Proofs.YtjngnigelkgekaaGreat.Redo
open Go.RowKit Go.Proofs.YtjngnigelkgekaaGreatW.PrintWords Go.Proofs.YtjngnigelkgekaaGreatW.PrintLast Go.Proofs.YtjngnigelkgekaaGreatW.PrintMore Go.Proofs.YtjngnigelkgekaaGreat.Kit Go.Proofs.YtjngnigelkgekaaGreat.Plain Go.Proofs.YtjngnigelkgekaaGreat.Disk Go.Proofs.YtjngnigelkgekaaGreat.Root
theorem cutAt {g N c j : Nat} {J : Int} (hJ : J = (j : Int)) (hj : j ≤ N) (hc : N ≤ c) : ∃ o n' c', (∀ W : World, (Instr.slice 24 (.slice (some ⟨g, 0, none⟩) N c) (some (.int .i64 J)) none none).run Tryz.prog W = .ok (.slice (some ⟨g, o, none⟩) n' c') W) ∧ n' = N - j ∧ o + n' ≤ N ∧ (j < N → o = j) := by
  by_cases h : j < N
  · exact ⟨j, N - j, c - j, fun W => Ref.cutF_ hJ h hc W, rfl, by omega, fun _ => rfl⟩
  · obtain rfl : j = N := by omega
    by_cases h2 : c = j
    · refine ⟨0, 0, 0, fun W => ?_, by omega, by omega, fun h3 => absurd h3 h⟩
      have h4 := cutLo Tryz.underlying24 Base.infoB (some ⟨g, 0, none⟩) j c j hJ (Nat.le_refl _) hc W
      rw [if_pos h2] at h4
      rw [h4, h2, Nat.sub_self]
    · by_cases h5 : j = 0
      · subst h5
        refine ⟨0, 0, c, fun W => ?_, by omega, by omega, fun h3 => absurd h3 h⟩
        have h4 := cutLo Tryz.underlying24 Base.infoB (some ⟨g, 0, none⟩) 0 c 0 hJ (Nat.le_refl _) hc W
        rw [if_neg h2] at h4
        rw [h4]
        simp [Addr.add]
      · refine ⟨j, 0, c - j, fun W => ?_, by omega, by omega, fun h3 => absurd h3 h⟩
        have h4 := cutLo Tryz.underlying24 Base.infoB (some ⟨g, 0, none⟩) j c j hJ (Nat.le_refl _) hc W
        rw [if_neg h2] at h4
        rw [h4]
        simp [Addr.add, h5]
theorem eqNil (w : World) (a : Option Addr) (n c n' c' : Nat) : (binOp .eql 24 (.slice a n c) (.slice none n' c')).run Tryz.prog w = .ok (.bool a.isNone) w := Lib.run_eql_slice_nil w _ _ a n c n' c' Tryz.underlying24
theorem over_at {xs ys : List Int} {o p n' N : Nat} (hx : xs.length = N) (hn : n' = N - p) (hy : p + ys.length ≤ N) (ho : p < N → o = p) (hf : o + n' ≤ N) : over xs o (ys.take n') = over xs p ys := by
  rw [List.take_of_length_le (by omega)]
  by_cases h : p < N
  · rw [ho h]
  · obtain rfl : ys = [] := List.eq_nil_of_length_eq_zero (by omega)
    rw [over_nil, over_nil]
theorem ra_nums {p m NL j : Nat} (h : p + m ≤ NL) (hN : NL ≤ 4096) (hj : j ≤ 64) : wrap64 ((NL : Int) - (p : Int)) = (NL : Int) - (p : Int) ∧ wrap64 ((j : Int) * 64) = (j : Int) * 64 ∧ wrap64 ((p : Int) + (m : Int)) = (p : Int) + (m : Int) ∧ wrap64 ((j : Int) + 1) = (j : Int) + 1 ∧ wrap64 (((j : Int) + 1) * 64) = ((j : Int) + 1) * 64 ∧ wrap64 (2 + (j : Int)) = 2 + (j : Int) :=
  ⟨IntWalk.wrap64_in _ (by omega), IntWalk.wrap64_in _ (by omega), IntWalk.wrap64_in _ (by omega), IntWalk.wrap64_in _ (by omega), IntWalk.wrap64_in _ (by omega), IntWalk.wrap64_in _ (by omega)⟩
open Go.Proofs.YtjngnigelkgekaaGreat.Home (RT)
section
variable {w0 W : World} {F : List HP} {g n d : Nat} {las : List Int} {wt : Wt}
set_option maxHeartbeats 1600000 in
set_option maxRecDepth 100000 in
theorem rappend_no (h : Sep w0 W (RT g n las wt d :: F)) (hl : las.length = 64 * n) (hn : n ≤ 160) (hw : ∀ i b, wt i = some b → b.length = 64) (a b c at_ : Int) (hat : -9223372036854775808 ≤ at_ ∧ at_ ≤ 9223372036854775807) {A : Option Addr} {m cp : Nat} (hm : m ≤ 9223372036854775807) (hno : okA n a b c at_ m = false) :
    Calls Tryz.prog 86 #[.pointer (some ⟨g, 0, none⟩), .agg #[.int .i64 a, .int .i64 b, .int .u32 c], .int .i64 at_, .slice A m cp] W fun e w' => e = .returned (.bool false) ∧ Sep w0 w' (RT g n las wt d :: F) := by
  have A0 := Aside0.mk (h.newBlk 80 #[.int .i64 a, .int .i64 b, .int .u32 c])
  have HL := Aside0.mk (And.intro hl hw)
  have z0 := (A0.out.cell 0).trans rfl
  have z1 := (A0.out.cell 1).trans rfl
  have z2 := (A0.out.cell 2).trans rfl
  cases hr : rightR a b c n with
  | false =>
    have HR := Aside0.mk hr
    clear h hl hw hr hno
    have qT := eqNil
    go_enter Tryz.func86, Tryz.ntmps86
    go_wp2_with fail
    refine (rlog_no A0.out.at2 HL.out.1 HL.out.2 a b c HR.out).mono ?_
    rintro e w1 ⟨rfl, hS1⟩
    have A1 := Aside0.mk hS1.drop2
    clear hS1 z0 z1 z2
    go_wp2_with fail
    go_ret
    exact ⟨by first | rfl | (simp; done), A1.out⟩
  | true =>
    have HR := Aside0.mk hr
    have h1 := of_decide_eq_true hr
    obtain ⟨Lg, rfl⟩ := Int.eq_ofNat_of_zero_le (show 0 ≤ a by omega)
    obtain ⟨NL, hNL⟩ : ∃ N, 64 * Lg = N := ⟨_, rfl⟩
    have hLL : (logF n las wt (Lg : Int) b c).length = NL := by
      unfold logF
      rw [if_pos hr, Int.toNat_natCast, secs_len (fun i hi => by rw [secF_len hl hw, if_pos (by omega)])]
      exact hNL
    have HLL := Aside0.mk hLL
    have hno2 : at_ < 0 ∨ (0 ≤ at_ ∧ (NL : Int) < at_) ∨ (0 ≤ at_ ∧ at_ ≤ (NL : Int) ∧ (NL : Int) - at_ < (m : Int)) := by
      unfold okA at hno
      rw [hr] at hno
      simp only [Bool.true_and, Bool.and_eq_false_iff, decide_eq_false_iff_not] at hno
      have hsz : sizeF (Lg : Int) = (NL : Int) := by unfold sizeF; rw [if_neg (by omega)]; omega
      rw [hsz] at hno
      omega
    have hNp : 0 < NL := by omega
    have hNb : (NL : Int) ≤ 4096 := by omega
    have HNP := Aside0.mk hNp
    clear h hl hw hr hno h1 hLL hNL hn
    rcases hno2 with hc1 | ⟨hc1, hc2⟩ | ⟨hc1, hc2, hc3⟩
    · have hd1 : decide (at_ < 0) = true := decide_eq_true hc1
      have qT := eqNil
      go_enter Tryz.func86, Tryz.ntmps86
      go_wp2_with fail
      refine (rlog_yes A0.out.at2 HL.out.1 HL.out.2 (Lg : Int) b c HR.out).mono ?_
      rintro e w1 ⟨v1, rfl, hS1⟩
      obtain ⟨g1, c1, rfl⟩ := hS1.rowFormN HLL.out HNP.out
      have A1 := Aside0.mk hS1.tail.drop2
      clear hS1 z0 z1 z2
      go_wp2_with fail
      go_ret
      exact ⟨by first | rfl | (simp; done), A1.out⟩
    · have hd1 : ¬ at_ < 0 := by omega
      have qT := eqNil
      go_enter Tryz.func86, Tryz.ntmps86
      go_wp2_with fail
      refine (rlog_yes A0.out.at2 HL.out.1 HL.out.2 (Lg : Int) b c HR.out).mono ?_
      rintro e w1 ⟨v1, rfl, hS1⟩
      obtain ⟨g1, c1, rfl⟩ := hS1.rowFormN HLL.out HNP.out
      have A1 := Aside0.mk hS1.tail.drop2
      clear hS1 z0 z1 z2
      go_wp2_with fail
      go_ret
      exact ⟨by first | rfl | (simp; done), A1.out⟩
    · have hd1 : ¬ at_ < 0 := by omega
      have hd2 : ¬ (NL : Int) < at_ := by omega
      have hww : wrap64 ((NL : Int) - at_) = (NL : Int) - at_ := IntWalk.wrap64_in _ (by omega)
      have qT := eqNil
      go_enter Tryz.func86, Tryz.ntmps86
      go_wp2_with fail
      refine (rlog_yes A0.out.at2 HL.out.1 HL.out.2 (Lg : Int) b c HR.out).mono ?_
      rintro e w1 ⟨v1, rfl, hS1⟩
      obtain ⟨g1, c1, rfl⟩ := hS1.rowFormN HLL.out HNP.out
      have A1 := Aside0.mk hS1.tail.drop2
      clear hS1 z0 z1 z2
      go_wp2_with fail
      go_ret
      exact ⟨by first | rfl | (simp; done), A1.out⟩
set_option maxHeartbeats 1600000 in
set_option maxRecDepth 100000 in
theorem rappend_yes (h : Sep w0 W (RT g n las wt d :: F)) (hl : las.length = 64 * n) (hn : n ≤ 160) (hd : d ≤ 900000) (hw : ∀ i b, wt i = some b → b.length = 64) (a b c at_ : Int) (hat : -9223372036854775808 ≤ at_ ∧ at_ ≤ 9223372036854775807) {A : Option Addr} {m cp : Nat} {xs : List Int} (hx : ∀ W', Sep w0 W' F → U8.C W' A m xs) (hcp : m ≤ cp) (hyes : okA n a b c at_ m = true) :
    Calls Tryz.prog 86 #[.pointer (some ⟨g, 0, none⟩), .agg #[.int .i64 a, .int .i64 b, .int .u32 c], .int .i64 at_, .slice A m cp] W fun e w' => e = .returned (.bool true) ∧ ∃ d' : Nat, d' ≤ d + 64 ∧ Sep w0 w' (RT g n las (appR n las wt a b c at_ xs) d' :: F) := by
  have A0 := Aside0.mk (h.newBlk 80 #[.int .i64 a, .int .i64 b, .int .u32 c])
  have HL := Aside0.mk (And.intro hl hw)
  have z0 := (A0.out.cell 0).trans rfl
  have z1 := (A0.out.cell 1).trans rfl
  have z2 := (A0.out.cell 2).trans rfl
  have hxl := (hx W h.tail).1
  have HXL := Aside0.mk hxl
  have HX := Aside0.mk hx
  have hoi := ok_in hyes
  have hr : rightR a b c n = true := by
    have h := hyes
    unfold okA at h
    simp only [Bool.and_eq_true] at h
    exact h.1
  have HR := Aside0.mk hr
  have HV := Aside0.mk hyes
  obtain ⟨Lg, rfl⟩ := Int.eq_ofNat_of_zero_le (show 0 ≤ a by omega)
  obtain ⟨p, rfl⟩ := Int.eq_ofNat_of_zero_le (show 0 ≤ at_ by omega)
  obtain ⟨NL, hNL⟩ : ∃ N, 64 * Lg = N := ⟨_, rfl⟩
  have hLL : (logF n las wt (Lg : Int) b c).length = NL := by
    unfold logF
    rw [if_pos hr, Int.toNat_natCast, secs_len (fun i hi => by rw [secF_len hl hw, if_pos (by omega)])]
    exact hNL
  have HLL := Aside0.mk hLL
  have hpm : p + m ≤ NL := by omega
  have hNb : NL ≤ 4096 := by omega
  have hLg : Lg ≤ 64 := by omega
  have HB := Aside0.mk (show p + m ≤ NL ∧ NL ≤ 4096 ∧ 0 < NL ∧ Lg ≤ 64 ∧ 64 * Lg = NL ∧ 2 + Lg ≤ n by omega)
  have HRR : Aside0 (appR n las wt (Lg : Int) b c (p : Int) xs = appW las wt p xs) := ⟨by unfold appR; rw [hxl, hyes, Int.toNat_natCast]; rfl⟩
  have HD := Aside0.mk hd
  have hlog := logF_of (c := c) (b := b) hl hw hr
  have hF := Ref.flushed_len hl hw
  have HLOG : Aside0 (∀ j, j < Lg → sec (over (logF n las wt (Lg : Int) b c) p xs) j = sec (over (flushed las wt) (128 + p) xs) (2 + j)) := ⟨fun j hj => by rw [hlog]; exact sec_log (by rw [hxl, hNL]; exact hpm) (by rw [hF]; omega) hj⟩
  have hm63 : m ≤ 9223372036854775807 := by omega
  have hq1 : ¬ (NL : Int) < (p : Int) := by omega
  have hq2 : ¬ (NL : Int) - (p : Int) < (m : Int) := by omega
  have hpi : ¬ (p : Int) < 0 := by omega
  obtain ⟨e1, e2, e3, -, -, -⟩ := ra_nums (j := 0) hpm hNb (by decide)
  clear h hl hw hr hyes hoi hx hLL hNL hn hlog hF hat hd hxl e2
  have qT := eqNil
  go_enter Tryz.func86, Tryz.ntmps86
  go_wp2_with fail
  refine (rlog_yes A0.out.at2 HL.out.1 HL.out.2 (Lg : Int) b c HR.out).mono ?_
  rintro e w1 ⟨v1, rfl, hS1⟩
  obtain ⟨g1, c1, rfl⟩ := hS1.rowFormN HLL.out HB.out.2.2.1
  have hcc := hS1.rowC.2.1
  have A1 := Aside0.mk hS1
  obtain ⟨o, n', c', hcut, hn', hon, ho⟩ := cutAt (g := g1) (N := NL) (c := c1) (j := p) (J := (p : Int)) rfl (by omega) hcc
  have HOV := Aside0.mk (over_at (ys := xs) HLL.out hn' (by rw [HXL.out]; exact hpm) ho hon)
  have HON := Aside0.mk hon
  have HCC := Aside0.mk hcc
  clear hS1 z0 z1 z2 hn' hon ho hcc
  go_wp2_with (first | (refine gate_builtin (b := .copy) (xs := #[.tmp 37, .tmp 38]) rfl ?_; go_loud (refine A1.out.copyRow rfl (.tmp 37) (.tmp 38) rfl Tryz.underlying24 size1 (o := o) (n' := n') (c' := c') (m := m) (c := cp) (A := A) (ys := xs) rfl rfl (HX.out _ A1.out.tail.tail.tail) HON.out ?_); intro W2 hS2; rw [HOV.out] at hS2; have B2 := Aside0.mk hS2.at2; clear hS2))
  have HLG : Aside0 ((over (logF n las wt (Lg : Int) b c) p xs).length = NL) := ⟨by rw [over_len (by rw [HLL.out, HXL.out]; exact HB.out.1)]; exact HLL.out⟩
  obtain ⟨lg, hlg⟩ : ∃ l, over (logF n las wt (Lg : Int) b c) p xs = l := ⟨_, rfl⟩
  rw [hlg] at B2 HLG HLOG
  have HAL : Aside0 (appI las wt p xs Lg = appW las wt p xs) := ⟨appI_all (by rw [HXL.out, HB.out.2.2.2.2.1]; exact HB.out.1)⟩
  have HWL : Aside0 (∀ j, j ≤ Lg → ∀ i b, appI las wt p xs j i = some b → b.length = 64) := ⟨fun j hj i y hy => by
    have hF2 : 128 + p + xs.length ≤ 64 * n := by have h1 := HB.out; rw [HXL.out]; omega
    unfold appI at hy
    split at hy
    · exact appW_len HL.out.1 HL.out.2 hF2 i y hy
    · exact HL.out.2 i y hy⟩
  clear hcut hlg HOV HON hq1 hq2 hpi e1 e3 hpm hNb hm63
  go_loopg [10] Lg (fun k_ v wr => ∃ (j d' : Nat), v = .int .i64 (j : Int) ∧ j + k_ = Lg ∧ d' ≤ d + j ∧ Sep w0 wr (RT g n las (appI las wt p xs j) d' :: Row U8 5 (.slice (some ⟨g1, 0, none⟩) NL c1) lg :: Blk W.heap.size 80 #[.int .i64 (Lg : Int), .int .i64 b, .int .u32 c] :: F))
  case atStart => exact ⟨0, d, rfl, by omega, by omega, by rw [appI_zero]; exact B2.out⟩
  case round =>
    obtain ⟨j, d', rfl, hjk, hd', hS⟩ := hrel
    have AK := Aside0.mk (And.intro hjk hd')
    have AS := Aside0.mk hS
    have z0 := (AS.out.at3.cell 0).trans rfl
    have z1 := (AS.out.at3.cell 1).trans rfl
    have z2 := (AS.out.at3.cell 2).trans rfl
    clear hS
    by_cases cj : j < Lg
    case neg =>
      obtain rfl : j = Lg := by omega
      have hjl : ¬ (j : Int) < (j : Int) := by omega
      clear hjk hd' cj hLg
      go_wp2_with fail
      go_ret
      exact ⟨by first | rfl | (simp; done), d', by have := AK.out; have := HB.out; omega, by rw [HRR.out, ← HAL.out]; exact AS.out.drop2.drop2⟩
    case pos =>
    have AN := Aside0.mk (show j + 1 + (gk - 1) = Lg ∧ d' ≤ d + (j + 1) ∧ d' + 1 ≤ d + (j + 1) ∧ gk - 1 < gk ∧ j ≤ Lg ∧ d' ≤ 1000000 ∧ j < Lg by have := HD.out; have := HB.out; omega)
    have hjl : (j : Int) < (Lg : Int) := by omega
    have hjld : decide ((j : Int) < (Lg : Int)) = true := decide_eq_true hjl
    by_cases hm0 : m = 0
    case pos =>
      subst hm0
      have hnl : xs = [] := List.eq_nil_of_length_eq_zero HXL.out
      have HN0 : Aside0 (appI las wt p xs j = appW las wt p xs) := ⟨by rw [hnl, appI_nil, appW_nil]⟩
      clear hjk hd' cj hLg hnl
      go_wp2_with fail
      go_ret
      exact ⟨by first | rfl | (simp; done), d', by have := AK.out; have := HB.out; omega, by rw [HRR.out, ← HN0.out]; exact AS.out.drop2.drop2⟩
    case neg =>
    have hm1 : (0 : Int) < (m : Int) := by omega
    have hm1n : 0 < m := by omega
    have hm1d : decide ((0 : Int) < (m : Int)) = true := decide_eq_true hm1
    have hm1e : decide (0 < m) = true := decide_eq_true hm1n
    have HNE : Aside0 (xs ≠ []) := ⟨fun h => by have h1 := HXL.out; rw [h] at h1; simp at h1; omega⟩
    by_cases qc1 : 64 * j < p + m
    case neg =>
      have HNO : Aside0 (appI las wt p xs (j + 1) = appI las wt p xs j) := ⟨appI_no (fun h => qc1 (by rw [HXL.out] at h; exact h.2.1))⟩
      have hd1 : ¬ (j : Int) * 64 < (p : Int) + (m : Int) := by omega
      have hd1d : decide ((j : Int) * 64 < (p : Int) + (m : Int)) = false := decide_eq_false hd1
      obtain ⟨e1, e2, e3, e4, e5, e6⟩ := ra_nums (j := j) HB.out.1 HB.out.2.1 (by omega)
      clear hjk hd' cj hLg qc1 e1 e5 e6 hm0
      go_wp2_with fail
      go_roundg (gk - 1)
      case measure => exact AN.out.2.2.2.1
      case rel => exact ⟨j + 1, d', by go_num, AN.out.1, AN.out.2.1, by rw [HNO.out]; exact AS.out⟩
    case pos =>
    have hd1 : (j : Int) * 64 < (p : Int) + (m : Int) := by omega
    have hd1d : decide ((j : Int) * 64 < (p : Int) + (m : Int)) = true := decide_eq_true hd1
    by_cases qc2 : p < 64 * (j + 1)
    case neg =>
      have HNO : Aside0 (appI las wt p xs (j + 1) = appI las wt p xs j) := ⟨appI_no (fun h => qc2 h.2.2)⟩
      have hd2 : ¬ (p : Int) < ((j : Int) + 1) * 64 := by omega
      have hd2d : decide ((p : Int) < ((j : Int) + 1) * 64) = false := decide_eq_false hd2
      obtain ⟨e1, e2, e3, e4, e5, e6⟩ := ra_nums (j := j) HB.out.1 HB.out.2.1 (by omega)
      clear hjk hd' cj hLg qc1 qc2 e1 e6 hm0
      go_wp2_with fail
      go_roundg (gk - 1)
      case measure => exact AN.out.2.2.2.1
      case rel => exact ⟨j + 1, d', by go_num, AN.out.1, AN.out.2.1, by rw [HNO.out]; exact AS.out⟩
    case pos =>
    have hd2 : (p : Int) < ((j : Int) + 1) * 64 := by omega
    have hd2d : decide ((p : Int) < ((j : Int) + 1) * 64) = true := decide_eq_true hd2
    have HYE := Aside0.mk (appI_yes (las := las) (wt := wt) (at_ := p) (i := j) (b := xs) ⟨HNE.out, by rw [HXL.out]; exact qc1, qc2⟩)
    obtain ⟨A2, hcut2, hT2⟩ := Base.mid8 (A := some ⟨g1, 0, none⟩) (c := c1) (n := NL) (a := 64 * j) (b := 64 * j + 64) (l := lg) (J := (j : Int) * 64) (K := ((j : Int) + 1) * 64) (by omega) (by omega) HLG.out (by omega) (by have := HB.out.2.2.2.2.1; omega) HCC.out
    rw [show 64 * j + 64 - 64 * j = 64 by omega] at hcut2 hT2
    obtain ⟨y, hy⟩ : ∃ y, (lg.take (64 * j + 64)).drop (64 * j) = y := ⟨_, rfl⟩
    rw [hy] at hT2
    have HFI : Aside0 ((fun k => if k = 2 + j then some y else appI las wt p xs j k) = appI las wt p xs (j + 1)) := ⟨by rw [HYE.out, ← hy, mid_sec, HLOG.out j AN.out.2.2.2.2.2.2]⟩
    have HC2 : Aside0 (∀ W' : World, Sep w0 W' (Row U8 5 (.slice (some ⟨g1, 0, none⟩) NL c1) lg :: Blk W.heap.size 80 #[.int .i64 (Lg : Int), .int .i64 b, .int .u32 c] :: F) → U8.C W' A2 64 y) := ⟨fun W' hW => hT2 _ (by have h := hW.rowC.2.2; rwa [HLG.out] at h)⟩
    have HIN : Aside0 (2 + j < n) := ⟨by have := HB.out.2.2.2.2.2; omega⟩
    obtain ⟨i, hi⟩ : ∃ i, 2 + j = i := ⟨_, rfl⟩
    have hiI : 2 + (j : Int) = (i : Int) := by omega
    obtain ⟨e1, e2, e3, e4, e5, e6⟩ := ra_nums (j := j) HB.out.1 HB.out.2.1 (by omega)
    have e6' := e6.trans hiI
    clear e6
    rw [hi] at HIN HFI
    have HI := Aside0.mk hi
    clear hjk hd' cj hLg qc1 qc2 e1 hm0 hT2 hi hiI hy
    go_wp2_with fail
    refine (Ref.rwrite_ AS.out HL.out.1 (HWL.out j AN.out.2.2.2.2.1) AN.out.2.2.2.2.2.1 i HIN.out HC2.out).mono ?_
    rintro e w5 ⟨rfl, hS5⟩
    rw [HFI.out] at hS5
    have B5 := Aside0.mk hS5
    clear hS5 z0 z1 z2
    go_wp2_with fail
    go_roundg (gk - 1)
    case measure => exact AN.out.2.2.2.1
    case rel => exact ⟨j + 1, d' + 1, by go_num, AN.out.1, AN.out.2.2.1, B5.out⟩
theorem rappend_ (h : Sep w0 W (RT g n las wt d :: F)) (hl : las.length = 64 * n) (hn : n ≤ 160) (hd : d ≤ 900000) (hw : ∀ i b, wt i = some b → b.length = 64) (a b c at_ : Int) (hat : -9223372036854775808 ≤ at_ ∧ at_ ≤ 9223372036854775807) {A : Option Addr} {m cp : Nat} {xs : List Int} (hx : ∀ W', Sep w0 W' F → U8.C W' A m xs) (hcp : m ≤ cp) :
    Calls Tryz.prog 86 #[.pointer (some ⟨g, 0, none⟩), .agg #[.int .i64 a, .int .i64 b, .int .u32 c], .int .i64 at_, .slice A m cp] W fun e w' => e = .returned (.bool (okA n a b c at_ m)) ∧ ∃ d' : Nat, d' ≤ d + 64 ∧ Sep w0 w' (RT g n las (appR n las wt a b c at_ xs) d' :: F) := by
  have hxl := (hx W h.tail).1
  cases ho : okA n a b c at_ m with
  | false =>
    refine (rappend_no h hl hn hw a b c at_ hat (hx W h.tail).2.1 ho).mono ?_
    rintro e w' ⟨rfl, hS⟩
    refine ⟨rfl, d, by omega, ?_⟩
    rw [show appR n las wt a b c at_ xs = wt by unfold appR; rw [hxl, ho]; rfl]
    exact hS
  | true => exact rappend_yes h hl hn hd hw a b c at_ hat hx hcp ho
end
end Go.Proofs.YtjngnigelkgekaaGreat.Redo
