/- Heal2, HealP, Heal3, RefNone, Alike19, Heal4, StDeed3, StRef4: what HealCounts needs. -/
import Derived.Test.YtjngnigelkgekaaGreatThealCounts26
import Derived.Deep.Cut
set_option linter.unusedVariables false
set_option linter.unusedSimpArgs false
namespace Go.Proofs.YtjngnigelkgekaaGreat.Heal
open Go.RowKit Go.Proofs.YtjngnigelkgekaaGreatW.PrintWords Go.Proofs.YtjngnigelkgekaaGreatW.PrintLast Go.Proofs.YtjngnigelkgekaaGreatW.PrintMore Go.Proofs.YtjngnigelkgekaaGreat.Kit Go.Proofs.YtjngnigelkgekaaGreat.Plain Go.Proofs.YtjngnigelkgekaaGreat.Disk Go.Proofs.YtjngnigelkgekaaGreat.Root
open Go.Proofs.YtjngnigelkgekaaGreat.Store (KP found_none found_full found_ok)
open Go.Proofs.YtjngnigelkgekaaGreat.RStore
open Go.Proofs.YtjngnigelkgekaaGreat.Deed
def flushV (g : Nat) : OV := ⟨.func (.func 67) #[.pointer (some ⟨g, 0, none⟩)] #[], rfl⟩
def putV (gb gR gP q : Nat) : OV := ⟨.func (.func 97) #[] #[.pointer (some ⟨gb, 0, none⟩), .pointer (some ⟨gR, 0, none⟩), .pointer (some ⟨q, 0, none⟩), .pointer (some ⟨gP, 0, none⟩)], rfl⟩
def rootW (gb gN : Nat) : OV := ⟨.func (.func 98) #[] #[.pointer (some ⟨gb, 0, none⟩), .pointer (some ⟨gN, 0, none⟩)], rfl⟩
def deedV (g gb gR gP gN : Nat) (js : List Nat) : List OV := flushV g :: (js.map (putV gb gR gP) ++ [flushV g, rootW gb gN, flushV g])
section
variable {w0 W : World} {F : List HP} {g n : Nat} {las : List Int} {wt : Wt}
set_option maxHeartbeats 800000 in
theorem found_nil (W : World) : Calls Tryz.prog 62 #[.pointer none] W fun e w' => e = .returned (.tuple #[.agg #[.int .i64 0, .int .i64 0, .int .u32 0], .slice none 0 0, .slice none 0 0, .int .i64 1]) ∧ Below W.heap.size W w' := by
  have A1 := Aside0.mk ((Sep.start W).newBlk 80 #[.int .i64 0, .int .i64 0, .int .u32 0])
  have q0 := (A1.out.cell 0).trans rfl
  have q1 := (A1.out.cell 1).trans rfl
  have q2 := (A1.out.cell 2).trans rfl
  go_enter Tryz.func62, Tryz.ntmps62
  go_wp2_with fail
  go_retc4 (.tuple #[.agg #[.int .i64 0, .int .i64 0, .int .u32 0], .slice none 0 0, .slice none 0 0, .int .i64 1])
  exact ⟨rfl, below_alloc (Below.refl _ _) _⟩
theorem found_no {er : Int} (h : Sep w0 W (Dsk g las wt :: F)) (hd : Dk n las wt) (hn : n ≤ 160) (hno : NoOpen n las wt er) :
    Calls Tryz.prog 62 #[.pointer (some ⟨g, 0, none⟩)] W fun e w' => e = .returned (.tuple #[.agg #[.int .i64 0, .int .i64 0, .int .u32 0], .slice none 0 0, .slice none 0 0, .int .i64 er]) ∧ Sep w0 w' (Dsk g las wt :: F) := by
  rcases hno with ⟨rfl, h0⟩ | ⟨rfl, h0⟩
  · exact found_none h hd.len hn hd.wl hd.secB h0
  · exact found_full h hd.len hn hd.wl hd.secB h0
set_option maxHeartbeats 1600000 in
set_option maxRecDepth 100000 in
theorem deeds_none {er : Int} (h : Sep w0 W (Dsk g las wt :: F)) (hd : Dk n las wt) (hn : n ≤ 160) (hno : NoOpen n las wt er) :
    Calls Tryz.prog 61 #[.pointer (some ⟨g, 0, none⟩)] W fun e w' => e = .returned (.slice none 0 0) ∧ Sep w0 w' (Dsk g las wt :: F) := by
  have B0 := Aside0.mk (h.newBlk 29 #[.pointer (some ⟨g, 0, none⟩)])
  have HD := Aside0.mk (And.intro hd (And.intro hn hno))
  have hne := hno.ne
  have he1 : ¬ er = 0 := by omega
  clear h hd hn hno
  go_enter Tryz.func61, Tryz.ntmps61
  go_wp2_with fail
  refine (found_no B0.out.at2 HD.out.1 HD.out.2.1 HD.out.2.2).mono ?_
  rintro e w1 ⟨rfl, hS1⟩
  have B1 := Aside0.mk hS1
  clear hS1
  go_wp2_with fail
  go_ret
  exact ⟨by first | rfl | (simp; done), ((B1.out.newBlk 80 _).newBlk 49 _).tail.tail.drop2⟩
set_option maxHeartbeats 800000 in
theorem deeds_nil (W : World) : Calls Tryz.prog 61 #[.pointer none] W fun e w' => e = .returned (.slice none 0 0) ∧ Below W.heap.size W w' := by
  have B0 := Aside0.mk ((Sep.start W).newBlk 29 #[.pointer none])
  go_enter Tryz.func61, Tryz.ntmps61
  go_wp2_with fail
  refine (found_nil _).mono ?_
  rintro e w1 ⟨rfl, hb1⟩
  have B1 := Aside0.mk (B0.out.below hb1)
  clear hb1
  go_wp2_with fail
  go_ret
  exact ⟨by first | rfl | (simp; done), ((B1.out.newBlk 80 _).newBlk 49 _).toBelow⟩
end
def BX (js : List Nat) (ks : List Int) (W : World) : Prop := js.length = ks.length ∧ ∀ (j : Nat) q k, js[j]? = some q → ks[j]? = some k → W.cell? ⟨q, 0, none⟩ = some (.int .i64 k)
theorem BX.snoc {js : List Nat} {ks : List Int} {W : World} (h : BX js ks W) {q : Nat} {k : Int} (hq : W.cell? ⟨q, 0, none⟩ = some (.int .i64 k)) : BX (js ++ [q]) (ks ++ [k]) W := by
  refine ⟨by rw [List.length_append, List.length_append, h.1]; rfl, fun j q' k' h1 h2 => ?_⟩
  by_cases hj : j < js.length
  · rw [List.getElem?_append_left hj] at h1
    rw [List.getElem?_append_left (by rw [← h.1]; exact hj)] at h2
    exact h.2 j q' k' h1 h2
  · rw [List.getElem?_append_right (by omega)] at h1
    rw [List.getElem?_append_right (by rw [← h.1]; omega), ← h.1] at h2
    match hd : j - js.length with
    | 0 =>
      rw [hd] at h1 h2
      cases h1; cases h2; exact hq
    | m + 1 => rw [hd] at h1; cases h1
theorem infoFn : (Tryz.prog.info? 1).map (fun i => (i.zero, i.size, i.bytes)) = some (some .nilFunc, 1, 8) := by kernel_rfl
section
variable {w0 W : World} {F : List HP} {g n : Nat} {las : List Int} {wt : Wt}
set_option maxHeartbeats 3200000 in
set_option maxRecDepth 100000 in
theorem deeds_ok {a b : Nat} {E : Int} (h : Sep w0 W (Dsk g las wt :: F)) (ha : Any n las wt a b E) (he : E < 4294967295) :
    Calls Tryz.prog 61 #[.pointer (some ⟨g, 0, none⟩)] W fun e w' => ∃ v gb gR gP gN js Ap cp cs, e = .returned v ∧ js.length = (Store.sortK (Store.nmAll [] (rowsG n a b E las wt))).length ∧
      Sep w0 w' (Row KV 1 v (deedV g gb gR gP gN js) :: Dsk g las wt :: Fx (HF g gb gR gP gN js (Store.sortK (Store.nmAll [] (rowsG n a b E las wt))) a b E Ap cp (shownG n a b E las wt) cs) :: F) := by
  have B0 := Aside0.mk (h.newBlk 29 #[.pointer (some ⟨g, 0, none⟩)])
  obtain ⟨gb, hgb⟩ : ∃ x, W.heap.size = x := ⟨_, rfl⟩
  rw [hgb] at B0
  have hnu := ha.nums
  have hp := ha.pages
  have hr := ha.rows
  have HF0 := Aside0.mk (found_ok (w0 := w0) (F := Blk gb 29 #[.pointer (some ⟨g, 0, none⟩)] :: F) B0.out.at2 ha.dk.len ha.n160 ha.dk.wl ha.dk.secB (a : Int) (b : Int) E ha.best (by omega) he ha.logB (by rw [hp.1]; omega) (fun p hq => by have := (hp.2 p hq).1; omega) hr.1 (fun x hx => (hr.2 x hx).1))
  obtain ⟨ks, hks⟩ : ∃ p, Store.sortK (Store.nmAll [] (rowsG n a b E las wt)) = p := ⟨_, rfl⟩
  obtain ⟨ps, hps⟩ : ∃ p, shownG n a b E las wt = p := ⟨_, rfl⟩
  have hks2 : Store.sortK (Store.nmAll [] (Redo.recR n las wt (a : Int) (b : Int) E).1) = ks := hks
  have hps2 : Store.pgAll (Home.pagesF n las wt (a : Int) (b : Int) E) (Redo.recR n las wt (a : Int) (b : Int) E).1 = ps := hps
  rw [hks2, hps2] at HF0
  obtain ⟨nk, hnk⟩ : ∃ x, ks.length = x := ⟨_, rfl⟩
  have hnkb : nk ≤ 64000 := by
    have h1 := Store.nmAll_len 64 (rowsG n a b E las wt) [] (fun x hx => (hr.2 x hx).1)
    have h2 := (Store.sortK_perm (Store.nmAll [] (rowsG n a b E las wt))).length_eq
    rw [hks] at h2
    simp only [List.length_nil] at h1
    have := hr.1
    omega
  have HNK := Aside0.mk hnk
  have HKS := Aside0.mk hks
  have HPS := Aside0.mk hps
  have HE := Aside0.mk (And.intro (show 0 ≤ E by omega) he)
  have hu1 : IntKind.u32.wrap (E + 1) = E + 1 := by rw [IntKind.wrap_u32]; omega
  clear h ha he hnu hp hr hks hps hks2 hps2 hnk
  go_enter Tryz.func61, Tryz.ntmps61
  go_wp2_with fail
  refine HF0.out.mono ?_
  rintro e w1 ⟨v1, v2, rfl, hS1⟩
  obtain ⟨A2, c2, rfl⟩ := hS1.at2.rowN HNK.out
  obtain ⟨cs, hS2⟩ := hS1.rowV_open
  obtain ⟨PL, hPL⟩ : ∃ x, ps.length = x := ⟨_, rfl⟩
  obtain ⟨Ap, cp, rfl⟩ := hS2.rowN (n := PL) (by rw [← hPL]; exact hS2.at2.fx.1.symm)
  obtain ⟨gR, hgR⟩ : ∃ x, w1.heap.size = x := ⟨_, rfl⟩
  have B1 := hS2.newBlk 80 #[.int .i64 (a : Int), .int .i64 (b : Int), .int .u32 E]
  have B2 := B1.newBlk 49 #[.slice Ap PL cp]
  rw [show ∀ o : Obj, (w1.alloc o).heap.size = w1.heap.size + 1 from fun o => by simp, hgR] at B2
  have B2' := Aside0.mk B2
  have HPLL := Aside0.mk hPL
  clear hS1 hS2 B1 B2 hgb
  go_upto_region 4 with fail
  obtain ⟨w2, hw2⟩ : ∃ x, (w1.alloc (.cells #[.int .i64 (a : Int), .int .i64 (b : Int), .int .u32 E] 80)).alloc (.cells #[.slice Ap PL cp] 49) = x := ⟨_, rfl⟩
  rw [hw2] at B2' ⊢
  obtain ⟨gP, hgP⟩ : ∃ x, gR + 1 = x := ⟨_, rfl⟩
  rw [hgP] at B2' ⊢
  clear hw2 hgR hgP
  have B3 : Aside0 (Sep w0 w2 (Blk gb 29 #[.pointer (some ⟨g, 0, none⟩)] :: Fx (BX [] (ks.take 0)) :: Blk gP 49 #[.slice Ap PL cp] :: Blk gR 80 #[.int .i64 (a : Int), .int .i64 (b : Int), .int .u32 E] :: Row KV 24 (.slice Ap PL cp) cs :: Fx (EachV KP ps cs) :: Row I64 3 (.slice A2 nk c2) ks :: Dsk g las wt :: F)) := ⟨((Sep.pull [_, _, _, _, _, _] B2'.out).fxPure (fun W => (show BX [] (ks.take 0) W from ⟨rfl, fun j q k h => by cases h⟩))).at2⟩
  clear B2'
  have L3 := Aside0.mk (B3.out.litRow (enc := fun x : OV => x.1) (h1 := fun x => x.2) (e := 1) [flushV g] (by simp))
  have zb := (B3.out.cell 0).trans rfl
  have hmf : ∀ (fn : Fn) (first cap : Array Value) (w : World), (Instr.makeFunc fn first cap).run Tryz.prog w = .ok (.func fn first cap) w := fun _ _ _ _ => rfl
  go_wp2_with fail
  clear zb
  go_loopg [7, 25] nk (fun k_ v p wr => ∃ (j : Nat) (js : List Nat), p = .int .i64 (j : Int) ∧ j + k_ = nk ∧ js.length = j ∧ Sep w0 wr (Row KV 1 v (flushV g :: js.map (putV gb gR gP)) :: Blk gb 29 #[.pointer (some ⟨g, 0, none⟩)] :: Fx (BX js (ks.take j)) :: Blk gP 49 #[.slice Ap PL cp] :: Blk gR 80 #[.int .i64 (a : Int), .int .i64 (b : Int), .int .u32 E] :: Row KV 24 (.slice Ap PL cp) cs :: Fx (EachV KP ps cs) :: Row I64 3 (.slice A2 nk c2) ks :: Dsk g las wt :: F))
  case atStart => exact ⟨0, [], rfl, by omega, rfl, L3.out⟩
  case round =>
    obtain ⟨j, js, rfl, hjk, hjl0, hS⟩ := hrel
    obtain ⟨w4, rfl⟩ : ∃ x, x = wr := ⟨_, rfl⟩
    have AK := Aside0.mk hjk
    have HJL := Aside0.mk hjl0
    have AS := Aside0.mk hS
    obtain ⟨A4, c4, rfl⟩ := hS.rowN (n := j + 1) (by rw [List.length_cons, List.length_map, hjl0])
    clear hS hjl0 L3
    by_cases cj : j < nk
    case pos =>
      have hjl : (j : Int) < (nk : Int) := by omega
      have hjx : j < ks.length := by rw [HNK.out]; exact cj
      obtain ⟨ad, hA, hcc⟩ := Kd.at_int (Sep.pull [_, _, _, _, _, _, _] AS.out).rowC' (j : Int) (by omega) (by omega)
      rw [Int.toNat_natCast] at hcc
      have hgd : rd ks (j : Int) = ks[j] := by unfold rd; rw [Int.toNat_natCast, List.getD_eq_getElem?_getD, List.getElem?_eq_getElem hjx]; rfl
      obtain ⟨kk, hkk⟩ : ∃ k, ks[j] = k := ⟨_, rfl⟩
      rw [hgd, hkk] at hcc
      have HTK : Aside0 (ks.take (j + 1) = ks.take j ++ [kk]) := ⟨by rw [Store.take_one hjx, hkk]⟩
      subst hA
      obtain ⟨q, hq⟩ : ∃ x, w4.heap.size = x := ⟨_, rfl⟩
      have B4 := AS.out.newBlk 3 #[.int .i64 kk]
      rw [hq] at B4
      have B5 := (Sep.pull [_, _, _] B4.fxBlk).fxAnd.fxImp (ψ := BX (js ++ [q]) (ks.take (j + 1))) (fun W hW => by rw [HTK.out]; exact hW.1.snoc ((hW.2 0).trans rfl))
      have B6 := Sep.push [_, _] B5
      have L6' := B6.litRow (enc := fun x : OV => x.1) (h1 := fun x => x.2) (e := 1) [putV gb gR gP q] (by simp)
      rw [show ∀ o : Obj, (w4.alloc o).heap.size = w4.heap.size + 1 from fun o => by simp, hq] at L6'
      have L6 := Aside0.mk L6'.at2
      have HN64 : Aside0 (nk ≤ 64000) := ⟨hnkb⟩
      clear B4 B5 B6 L6' hjk cj hjx hgd hkk
      go_wp2_with (first | (refine gate_builtin (b := .append) (xs := #[.tmp 29, .tmp 31]) rfl ?_; go_loud (refine L6.out.appendRow rfl (.tmp 29) (.tmp 31) 102 .nilFunc 8 rfl Tryz.underlying102 infoFn rfl (by decide) (some ⟨q + 1, 0, none⟩) 1 1 rfl rfl L6.out.at2.rowC' (by have h1 := HJL.out; have h2 := AK.out; have h3 := HN64.out; simp only [List.length_cons, List.length_map, List.length_nil]; omega) ?_; intro v7 w7 hS7; have B7 := Aside0.mk hS7.drop2; clear hS7)))
      go_roundg (gk - 1)
      case measure => have := AK.out; omega
      case rel => exact ⟨j + 1, js ++ [q], by go_num, by have := AK.out; omega, by rw [List.length_append, HJL.out]; rfl, by rw [List.map_append]; exact B7.out⟩
    case neg =>
    obtain rfl : j = nk := by omega
    have hjl : ¬ (j : Int) < (j : Int) := by omega
    have HTK : Aside0 (ks.take j = ks) := ⟨List.take_of_length_le (by rw [HNK.out]; exact Nat.le_refl _)⟩
    have B8 := Aside0.mk (Sep.pull [_, _, _, _] AS.out)
    rw [HTK.out] at B8
    have z0 := (B8.out.cell 0).trans rfl
    have z1 := (B8.out.cell 1).trans rfl
    have z2 := (B8.out.cell 2).trans rfl
    clear hjk cj
    go_upto_region 12 with fail
    obtain ⟨gN, hgN⟩ : ∃ x, w4.heap.size = x := ⟨_, rfl⟩
    have B9 := B8.out.newBlk 80 #[.int .i64 (a : Int), .int .i64 (b : Int), .int .u32 (E + 1)]
    rw [hgN] at B9
    have B10 := Aside0.mk (Sep.pull [_, _] B9)
    obtain ⟨w5, hw5⟩ : ∃ x, w4.alloc (.cells #[.int .i64 (a : Int), .int .i64 (b : Int), .int .u32 (E + 1)] 80) = x := ⟨_, rfl⟩
    rw [hw5] at B10 ⊢
    first | rw [hgN] | skip
    have zb := ((Sep.pull [_, _, _] B10.out).cell 0).trans rfl
    have L10 := Aside0.mk (B10.out.litRow (enc := fun x : OV => x.1) (h1 := fun x => x.2) (e := 1) [flushV g, rootW gb gN, flushV g] (by simp)).at2
    have HN64 : Aside0 (j ≤ 64000) := ⟨hnkb⟩
    clear B9 hw5 z0 z1 z2 hgN
    go_wp2_with (first | (refine gate_builtin (b := .append) (xs := #[.tmp 39, .tmp 45]) rfl ?_; go_loud (refine L10.out.appendRow rfl (.tmp 39) (.tmp 45) 102 .nilFunc 8 rfl Tryz.underlying102 infoFn rfl (by decide) (some ⟨w5.heap.size, 0, none⟩) 3 3 rfl rfl L10.out.at2.rowC' (by have h1 := HJL.out; have h3 := HN64.out; simp only [List.length_cons, List.length_map, List.length_nil]; omega) ?_; intro v7 w7 hS7; have B7 := Aside0.mk hS7.drop2; clear hS7)))
    go_ret
    obtain rfl := HPLL.out
    have h1 := (Sep.pull [_] B7.out).fxBlk
    have h2 := (Sep.pull [_, _] h1).fxBlk.fxAnd
    have h3 := (Sep.pull [_, _] h2).fxBlk.fxAnd
    have h4 := (Sep.pull [_, _] h3).fxAnd
    have h5 := (Sep.pull [_, _] h4).fxBlk.fxAnd
    have h6 := (Sep.pull [_, _] h5).fxRow.fxAnd
    have h7 := (Sep.pull [_, _] h6).fxAnd
    have h8 := h7.fxImp (ψ := HF g gb gR gP gN js ks a b E Ap cp ps cs) (fun W hW => ⟨hW.2.2.2.2.1, hW.2.2.2.2.2.1, hW.2.2.1, hW.2.1, hW.1, hW.2.2.2.2.2.2, hW.2.2.2.1⟩)
    have h9 := (Sep.pull [_, _] h8).tail
    have h10 := (Sep.pull [_] h9).sw23
    have hjs : js.length = ks.length := by rw [HJL.out, HNK.out]
    rw [HKS.out, HPS.out]
    first
      | exact ⟨_, gb, gR, gP, gN, js, Ap, cp, cs, by first | rfl | (simp; done), hjs, h10⟩
      | exact ⟨_, by first | rfl | (simp; done), gb, gR, gP, gN, js, hjs, Ap, cp, cs, h10⟩
      | exact ⟨_, by first | rfl | (simp; done), gb, gR, gP, gN, js, Ap, cp, cs, hjs, h10⟩
end
end Go.Proofs.YtjngnigelkgekaaGreat.Heal
namespace Go.Proofs.YtjngnigelkgekaaGreat.Heal
open Go.RowKit Go.Proofs.YtjngnigelkgekaaGreat.Kit Go.Proofs.YtjngnigelkgekaaGreat.Plain Go.Proofs.YtjngnigelkgekaaGreat.Disk Go.Proofs.YtjngnigelkgekaaGreat.Root
open Go.Proofs.YtjngnigelkgekaaGreat.Delta (Chg)
open Go.Proofs.YtjngnigelkgekaaGreat.Store (insK insAll nmAll nmAll_mem sortK sortK_perm sortK_sorted insK_mem)
open Go.Proofs.YtjngnigelkgekaaGreat.Home (putP mayF atF pagesF)
open Go.Proofs.YtjngnigelkgekaaGreat.RStore
open Go.Proofs.YtjngnigelkgekaaGreat.Deed
theorem insK_nodup {ks : List Int} (h : ks.Nodup) (k : Int) : (insK ks k).Nodup := by
  unfold insK
  split
  · exact h
  · rename_i hk
    rw [List.nodup_append]
    refine ⟨h, by simp, fun x hx y hy => ?_⟩
    rw [List.mem_singleton.1 hy]
    rintro rfl
    exact hk hx
theorem insAll_nodup : ∀ (l : List Chg) {ks : List Int}, ks.Nodup → (insAll ks l).Nodup
  | [], _, h => h
  | c :: r, _, h => insAll_nodup r (insK_nodup h c.1)
theorem nmAll_nodup : ∀ (rows : List (List Chg)) {ks : List Int}, ks.Nodup → (nmAll ks rows).Nodup
  | [], _, h => h
  | l :: r, _, h => nmAll_nodup r (insAll_nodup l h)
theorem strict_ext : ∀ {xs ys : List Int}, xs.Pairwise (· < ·) → ys.Pairwise (· < ·) → (∀ x, x ∈ xs ↔ x ∈ ys) → xs = ys
  | [], [], _, _, _ => rfl
  | [], y :: t, _, _, h => absurd ((h y).2 (List.mem_cons_self ..)) (by simp)
  | x :: t, [], _, _, h => absurd ((h x).1 (List.mem_cons_self ..)) (by simp)
  | x :: s, y :: t, hx, hy, h => by
    rw [List.pairwise_cons] at hx hy
    have h1 : x = y := by
      rcases List.mem_cons.1 ((h x).1 (List.mem_cons_self ..)) with h1 | h1
      · exact h1
      · rcases List.mem_cons.1 ((h y).2 (List.mem_cons_self ..)) with h2 | h2
        · exact h2.symm
        · have := hx.1 y h2
          have := hy.1 x h1
          omega
    subst h1
    rw [strict_ext hx.2 hy.2 (fun z => ?_)]
    constructor
    · intro hz
      rcases List.mem_cons.1 ((h z).1 (List.mem_cons_of_mem _ hz)) with h1 | h1
      · have := hx.1 z hz; omega
      · exact h1
    · intro hz
      rcases List.mem_cons.1 ((h z).2 (List.mem_cons_of_mem _ hz)) with h1 | h1
      · have := hy.1 z hz; omega
      · exact h1
theorem nmL_strict (nm : List Bool) (b : Nat) : ((nmL nm b).map (fun k : Nat => (k : Int))).Pairwise (· < ·) := by
  rw [List.pairwise_map]
  unfold nmL
  exact (List.pairwise_lt_range.filter _).imp (fun h => by omega)
theorem sorted_strict {ks : List Int} (h : ks.Nodup) : (sortK ks).Pairwise (· < ·) := by
  have h1 : (sortK ks).Nodup := (sortK_perm ks).nodup_iff.1 h
  have h2 := sortK_sorted ks
  exact (List.Pairwise.and h1 h2).imp (fun h => by have := h.1; have := h.2; omega)
section
variable {n a b : Nat} {E : Int} {las : List Int} {wt : Wt}
abbrev keyL (n a b : Nat) (E : Int) (las : List Int) (wt : Wt) : List Nat := nmL (nmAllB (List.replicate b false) (rowsG n a b E las wt)) b
theorem ks_eq (h : Any n las wt a b E) : sortK (nmAll [] (rowsG n a b E las wt)) = (keyL n a b E las wt).map (fun k : Nat => (k : Int)) := by
  have hr := h.rows
  have hrng : ∀ k ∈ nmAll [] (rowsG n a b E las wt), 0 ≤ k ∧ k < (b : Int) := fun k hk =>
    nmAll_mem (P := fun k => 0 ≤ k ∧ k < (b : Int)) (fun k hk => by cases hk) (fun x hx c hc => by have := (hr.2 x hx).2 c hc; exact ⟨this.1, this.2.1⟩) k hk
  have hnb := nb_all (rowsG n a b E las wt) List.length_replicate (nb_none b) (fun l hl c hc => by have := (hr.2 l hl).2 c hc; exact ⟨this.1, this.2.1⟩)
  refine strict_ext (sorted_strict (nmAll_nodup _ (by simp))) (nmL_strict _ b) (fun x => ?_)
  rw [← (sortK_perm _).mem_iff]
  constructor
  · intro hx
    have h1 := hrng x hx
    obtain ⟨k, rfl⟩ := Int.eq_ofNat_of_zero_le h1.1
    refine List.mem_map.2 ⟨k, List.mem_filter.2 ⟨List.mem_range.2 (by omega), ?_⟩, rfl⟩
    exact (hnb k (by omega)).1 hx
  · intro hx
    obtain ⟨k, hk, rfl⟩ := List.mem_map.1 hx
    obtain ⟨h1, h2⟩ := List.mem_filter.1 hk
    exact (hnb k (List.mem_range.1 h1)).2 h2
end
def dsOf (n : Nat) (las : List Int) (wt : Wt) : List Dd :=
  if 0 < (bestTo (n : Int) (secF n las wt) 2).2.2 ∧ (bestTo (n : Int) (secF n las wt) 2).2.2 < 4294967295 then
    chkD (bestTo (n : Int) (secF n las wt) 2).1.toNat (bestTo (n : Int) (secF n las wt) 2).2.1.toNat (bestTo (n : Int) (secF n las wt) 2).2.2
      (shownG n (bestTo (n : Int) (secF n las wt) 2).1.toNat (bestTo (n : Int) (secF n las wt) 2).2.1.toNat (bestTo (n : Int) (secF n las wt) 2).2.2 las wt)
      (keyL n (bestTo (n : Int) (secF n las wt) 2).1.toNat (bestTo (n : Int) (secF n las wt) 2).2.1.toNat (bestTo (n : Int) (secF n las wt) 2).2.2 las wt)
  else []
section
variable {n a b : Nat} {E : Int} {las : List Int} {wt : Wt}
theorem ds_any (h : Any n las wt a b E) (he : E < 4294967295) : dsOf n las wt = chkD a b E (shownG n a b E las wt) (keyL n a b E las wt) := by
  have hn := h.nums
  unfold dsOf
  rw [h.best, if_pos ⟨by show 0 < E; omega, he⟩]
  simp only [Int.toNat_natCast]
theorem ds_no {er : Int} (h : NoOpen n las wt er) : dsOf n las wt = [] := by
  unfold dsOf
  rw [if_neg]
  rintro ⟨h1, h2⟩
  rcases h with ⟨_, h3⟩ | ⟨_, h3⟩
  · exact absurd h1 (of_decide_eq_false h3)
  · rw [h3] at h2; exact absurd h2 (by decide)
theorem ds_ok (hd : Dk n las wt) (hn : n ≤ 160) : OkD n (dsOf n las wt) ∧ (dsOf n las wt).length ≤ 68 := by
  rcases open_cases hd hn with ⟨er, hno⟩ | ⟨a, b, E, ha, he⟩
  · rw [ds_no hno]; exact ⟨OkD.nil, by decide⟩
  · rw [ds_any ha he]
    have hnu := ha.nums
    refine ⟨chkD_ok ha.rgt (ha.st).pg (fun k hk => nmL_lt hk), ?_⟩
    rw [chkD_len]
    have : (keyL n a b E las wt).length ≤ b := nmL_len _ b
    omega
theorem dk_do {S : DS} (h : Dk n S.1 S.2) {x : Dd} (hx : ∀ i c, x = some (i, c) → i < n ∧ c.length = 64 ∧ Bytes c) : Dk n (doD S x).1 (doD S x).2 := by
  match x with
  | none => exact h.flush
  | some (i, c) =>
    have h1 := hx i c rfl
    refine ⟨h.len, Ref.upd_len h.wl h1.2.1, h.byt, fun k y hy => ?_⟩
    by_cases hk : k = i
    · have hy : (if k = i then some c else S.2 k) = some y := hy
      rw [if_pos hk] at hy; cases hy; exact h1.2.2
    · have hy : (if k = i then some c else S.2 k) = some y := hy
      rw [if_neg hk] at hy; exact h.wb k y hy
theorem dk_run : ∀ {ds : List Dd} {S : DS}, Dk n S.1 S.2 → (∀ i c, some (i, c) ∈ ds → i < n ∧ c.length = 64 ∧ Bytes c) → Dk n (runD S ds).1 (runD S ds).2
  | [], _, h, _ => h
  | x :: t, _, h, hd => dk_run (ds := t) (dk_do h (fun i c e => hd i c (by rw [← e]; exact List.mem_cons_self ..))) (fun i c hm => hd i c (List.mem_cons_of_mem _ hm))
theorem ds_bytes (hd : Dk n las wt) (hn : n ≤ 160) : ∀ i c, some (i, c) ∈ dsOf n las wt → i < n ∧ c.length = 64 ∧ Bytes c := fun i c hm => by
  have h0 := (ds_ok hd hn).1 i c hm
  refine ⟨h0.1, h0.2, ?_⟩
  rcases open_cases hd hn with ⟨er, hno⟩ | ⟨a, b, E, ha, he⟩
  · rw [ds_no hno] at hm; cases hm
  · rw [ds_any ha he] at hm
    unfold chkD at hm
    rcases List.mem_cons.1 hm with hm | hm
    · cases hm
    rcases List.mem_append.1 hm with hm | hm
    · unfold homeD at hm
      obtain ⟨k, hk, he2⟩ := List.mem_map.1 hm
      injection he2 with he2
      injection he2 with h1 h2
      rw [← h2]
      exact (ha.st).pgB k
    · rcases List.mem_cons.1 hm with hm | hm
      · cases hm
      rcases List.mem_cons.1 hm with hm | hm
      · unfold rootD at hm
        injection hm with he2
        injection he2 with h1 h2
        rw [h2]
        exact rootF_bytes _ _ _
      · cases List.mem_singleton.1 hm
theorem dk_part (hd : Dk n las wt) (hn : n ≤ 160) (k : Nat) : Dk n (runD (las, wt) ((dsOf n las wt).take k)).1 (runD (las, wt) ((dsOf n las wt).take k)).2 :=
  dk_run (S := (las, wt)) hd (fun i c hm => ds_bytes hd hn i c (List.mem_of_mem_take hm))
end
def partK (m : Int) (L : Nat) : Nat := (max 0 (min m (L : Int))).toNat
theorem partK_le (m : Int) (L : Nat) : partK m L ≤ L := by unfold partK; omega
end Go.Proofs.YtjngnigelkgekaaGreat.Heal
namespace Go.Proofs.YtjngnigelkgekaaGreat.Heal
open Go.RowKit Go.Proofs.YtjngnigelkgekaaGreatW.PrintWords Go.Proofs.YtjngnigelkgekaaGreatW.PrintLast Go.Proofs.YtjngnigelkgekaaGreatW.PrintMore Go.Proofs.YtjngnigelkgekaaGreat.Kit Go.Proofs.YtjngnigelkgekaaGreat.Plain Go.Proofs.YtjngnigelkgekaaGreat.Disk Go.Proofs.YtjngnigelkgekaaGreat.Root
open Go.Proofs.YtjngnigelkgekaaGreat.RStore
open Go.Proofs.YtjngnigelkgekaaGreat.Deed
open Go.Proofs.YtjngnigelkgekaaGreat.Home (putP mayF atF)
theorem deedV_len (g gb gR gP gN : Nat) (js : List Nat) : (deedV g gb gR gP gN js).length = js.length + 4 := by
  unfold deedV; rw [List.length_cons, List.length_append, List.length_map]; rfl
theorem deed_at {g gb gR gP gN a b : Nat} {E : Int} {js : List Nat} {L : List Nat} {pages : List (List Int)} (hl : js.length = L.length) {j : Nat} (hj : j < js.length + 4) :
    ((deedV g gb gR gP gN js)[j]? = some (flushV g) ∧ (chkD a b E pages L)[j]? = some none) ∨
    (∃ (i q k : Nat), js[i]? = some q ∧ L[i]? = some k ∧ (deedV g gb gR gP gN js)[j]? = some (putV gb gR gP q) ∧ (chkD a b E pages L)[j]? = some (some (2 + a + k, pages.getD k []))) ∨
    ((deedV g gb gR gP gN js)[j]? = some (rootW gb gN) ∧ (chkD a b E pages L)[j]? = some (rootD a b E)) := by
  unfold deedV chkD
  match j, hj with
  | 0, _ => exact .inl ⟨rfl, rfl⟩
  | i + 1, hj =>
    rw [List.getElem?_cons_succ, List.getElem?_cons_succ]
    by_cases hi : i < js.length
    · refine .inr (.inl ⟨i, js[i], L[i]'(by omega), List.getElem?_eq_getElem hi, List.getElem?_eq_getElem (by omega), ?_, ?_⟩)
      · rw [List.getElem?_append_left (by rw [List.length_map]; exact hi), List.getElem?_map, List.getElem?_eq_getElem hi]; rfl
      · unfold homeD
        rw [List.getElem?_append_left (by rw [List.length_map]; omega), List.getElem?_map, List.getElem?_eq_getElem (by omega)]; rfl
    · rw [List.getElem?_append_right (by rw [List.length_map]; omega), List.length_map, List.getElem?_append_right (by rw [homeD_len]; omega), homeD_len, ← hl]
      match hd : i - js.length with
      | 0 => exact .inl ⟨rfl, rfl⟩
      | 1 => exact .inr (.inr ⟨rfl, rfl⟩)
      | 2 => exact .inl ⟨rfl, rfl⟩
      | m + 3 => omega
section
variable {w0 W : World} {F : List HP} {g n : Nat} {las : List Int} {wt : Wt}
set_option maxHeartbeats 800000 in
theorem hDeeds_ (h : Sep w0 W (Dsk g las wt :: F)) (hd : Dk n las wt) (hn : n ≤ 160) :
    Calls Tryz.prog 22 #[.pointer (some ⟨g, 0, none⟩)] W fun e w' => e = .returned (.int .i64 ((dsOf n las wt).length : Int)) ∧ Sep w0 w' (Dsk g las wt :: F) := by
  have H0 := Aside0.mk h
  rcases open_cases hd hn with ⟨er, hno⟩ | ⟨a, b, E, ha, he⟩
  · have HQ := Aside0.mk (And.intro hd (And.intro hn hno))
    rw [ds_no hno]
    clear h hd hn hno
    go_enter Tryz.func22, Tryz.ntmps22
    go_wp2_with fail
    refine (deeds_none H0.out HQ.out.1 HQ.out.2.1 HQ.out.2.2).mono ?_
    rintro e w1 ⟨rfl, hS1⟩
    have B1 := Aside0.mk hS1
    clear hS1
    go_wp2_with fail
    go_ret
    exact ⟨by first | rfl | (simp; done), B1.out⟩
  · have HQ := Aside0.mk (And.intro ha he)
    have hlen : (dsOf n las wt).length = (Store.sortK (Store.nmAll [] (rowsG n a b E las wt))).length + 4 := by
      rw [ds_any ha he, chkD_len, ks_eq ha, List.length_map]
    have HLN := Aside0.mk hlen
    obtain ⟨N, hN⟩ : ∃ x, (dsOf n las wt).length = x := ⟨_, rfl⟩
    rw [hN]
    have HN := Aside0.mk hN
    clear h hd hn ha he hlen hN
    go_enter Tryz.func22, Tryz.ntmps22
    go_wp2_with fail
    refine (deeds_ok H0.out HQ.out.1 HQ.out.2).mono ?_
    rintro e w1 ⟨v, gb, gR, gP, gN, js, Ap, cp, cs, rfl, hjs, hS1⟩
    obtain ⟨A1, c1, rfl⟩ := hS1.rowN (n := N) (by rw [deedV_len, hjs, ← HLN.out]; exact HN.out)
    have B1 := Aside0.mk hS1.tail.drop2
    clear hS1 hjs
    go_wp2_with fail
    go_ret
    exact ⟨by first | rfl | (simp; done), B1.out⟩
set_option maxHeartbeats 800000 in
theorem hDeeds_nil (W : World) : Calls Tryz.prog 22 #[.pointer none] W fun e w' => e = .returned (.int .i64 0) ∧ Below W.heap.size W w' := by
  go_enter Tryz.func22, Tryz.ntmps22
  go_wp2_with fail
  refine (deeds_nil _).mono ?_
  rintro e w1 ⟨rfl, hb⟩
  have HB := Aside0.mk hb
  clear hb
  go_wp2_with fail
  go_ret
  exact ⟨by first | rfl | (simp; done), HB.out⟩
theorem doD_put {a b : Nat} {E : Int} {pages : List (List Int)} (hr : rightR (a : Int) (b : Int) E n = true) {k : Nat} (hk : k < b) (hp : (pages.getD k []).length = 64) (S : DS) : (S.1, putP n S.2 (a : Int) (b : Int) E (k : Int) (pages.getD (k : Int).toNat [])) = doD S (some (2 + a + k, pages.getD k [])) := by
  have hm : mayF n (a : Int) (b : Int) E (k : Int) = true := by
    unfold mayF
    rw [hr, decide_eq_true (show (0 : Int) ≤ (k : Int) by omega), decide_eq_true (show (k : Int) < (b : Int) by omega)]; rfl
  have h4 := of_decide_eq_true hr
  have hat : atF (a : Int) (k : Int) = 2 + a + k := by unfold atF; omega
  unfold putP putW
  rw [if_pos hm, hat, Int.toNat_natCast, if_pos ⟨by omega, hp⟩]
  rfl
theorem doD_root {a b : Nat} {E : Int} (hr : rightR (a : Int) (b : Int) E n = true) (S : DS) : (S.1, putW n S.2 ((E + 1) % 2).toNat (rootF (m32 (a : Int)) (m32 (b : Int)) (E + 1))) = doD S (rootD a b E) := by
  have h4 := of_decide_eq_true hr
  unfold putW rootD
  rw [if_pos ⟨by omega, rootF_len _ _ _⟩]
  rfl
theorem run_take {S : DS} {ds : List Dd} {j : Nat} {x : Dd} (h : ds[j]? = some x) : runD S (ds.take (j + 1)) = doD (runD S (ds.take j)) x := by
  obtain ⟨hj, rfl⟩ := List.getElem?_eq_some_iff.1 h
  rw [Store.take_one hj, runD_snoc]
set_option maxHeartbeats 3200000 in
set_option maxRecDepth 100000 in
theorem hPart_ (h : Sep w0 W (Dsk g las wt :: F)) (hd : Dk n las wt) (hn : n ≤ 160) (m : Int) :
    Calls Tryz.prog 23 #[.pointer (some ⟨g, 0, none⟩), .int .i64 m] W fun e w' => e = .returned (.int .i64 (partK m (dsOf n las wt).length : Int)) ∧ Sep w0 w' (Dsk g (runD (las, wt) ((dsOf n las wt).take (partK m (dsOf n las wt).length))).1 (runD (las, wt) ((dsOf n las wt).take (partK m (dsOf n las wt).length))).2 :: F) := by
  have H0 := Aside0.mk h
  rcases open_cases hd hn with ⟨er, hno⟩ | ⟨a, b, E, ha, he⟩
  · have HQ := Aside0.mk (And.intro hd (And.intro hn hno))
    rw [ds_no hno]
    have hk0 : partK m ([] : List Dd).length = 0 := Nat.le_zero.1 (partK_le m 0)
    have hz : max 0 (min m 0) = 0 := by omega
    rw [hk0]
    clear h hd hn hno hk0
    go_enter Tryz.func23, Tryz.ntmps23
    go_wp2_with fail
    refine (deeds_none H0.out HQ.out.1 HQ.out.2.1 HQ.out.2.2).mono ?_
    rintro e w1 ⟨rfl, hS1⟩
    have B1 := Aside0.mk hS1
    clear hS1
    go_wp2_with fail
    go_loopg [19] 1 (fun _ p wr => p = .int .i64 0 ∧ w1 = wr)
    case atStart => exact ⟨rfl, rfl⟩
    case round =>
      obtain ⟨rfl, rfl⟩ := hrel
      go_wp2_with fail
      go_ret
      exact ⟨by first | rfl | (simp; done), B1.out⟩
  · have HQ := Aside0.mk (And.intro ha he)
    have HDK := Aside0.mk (And.intro hd hn)
    have hlen : (dsOf n las wt).length = (Store.sortK (Store.nmAll [] (rowsG n a b E las wt))).length + 4 := by
      rw [ds_any ha he, chkD_len, ks_eq ha, List.length_map]
    have HLN := Aside0.mk hlen
    have HDS := Aside0.mk (ds_any ha he)
    have HKS := Aside0.mk (ks_eq ha)
    have HPT : Aside0 (∀ k : Nat, Dk n (runD (las, wt) ((dsOf n las wt).take k)).1 (runD (las, wt) ((dsOf n las wt).take k)).2) := ⟨dk_part hd hn⟩
    have hnb := (ds_ok hd hn).2
    obtain ⟨D, hDe⟩ : ∃ x, dsOf n las wt = x := ⟨_, rfl⟩
    rw [hDe] at HLN HDS HPT hnb ⊢
    obtain ⟨N, hN⟩ : ∃ x, D.length = x := ⟨_, rfl⟩
    rw [hN] at HLN hnb ⊢
    have HN := Aside0.mk hN
    obtain ⟨kk, hkk⟩ : ∃ x, partK m N = x := ⟨_, rfl⟩
    have hz : max 0 (min m (N : Int)) = (kk : Int) := by rw [← hkk]; unfold partK; omega
    have hkN : kk ≤ N := by rw [← hkk]; exact partK_le m N
    rw [hkk]
    have hshl := ha.shown.1
    have hnu := ha.nums
    have HSH := Aside0.mk (And.intro hshl (And.intro hnu.2.2.1 hnu.2.2.2.1))
    have HPG := Aside0.mk (ha.st).pg
    clear h hd hn ha he hlen hN hDe hkk hshl hnu
    go_enter Tryz.func23, Tryz.ntmps23
    go_wp2_with fail
    refine (deeds_ok H0.out HQ.out.1 HQ.out.2).mono ?_
    rintro e w1 ⟨v, gb, gR, gP, gN, js, Ap, cp, cs, rfl, hjs, hS1⟩
    obtain ⟨ks, hks⟩ : ∃ x, Store.sortK (Store.nmAll [] (rowsG n a b E las wt)) = x := ⟨_, rfl⟩
    obtain ⟨ps, hps⟩ : ∃ x, shownG n a b E las wt = x := ⟨_, rfl⟩
    obtain ⟨L, hL⟩ : ∃ x, keyL n a b E las wt = x := ⟨_, rfl⟩
    have hLlt : ∀ k ∈ L, k < b := fun k hk => by rw [← hL] at hk; exact nmL_lt hk
    rw [hks, hps] at hS1
    rw [hks] at hjs HLN
    rw [hks, hL] at HKS
    rw [hps] at HSH HPG
    rw [hps, hL] at HDS
    obtain ⟨ga, ca, hv⟩ := hS1.rowFormN (n := N) (by rw [deedV_len, hjs]; exact HLN.out.symm) (by have := HLN.out; omega)
    subst hv
    have hcap := hS1.rowC.2.1
    have HJL : Aside0 (js.length = L.length ∧ js.length + 4 = N) := ⟨by rw [hjs]; exact ⟨by rw [HKS.out, List.length_map], HLN.out.symm⟩⟩
    have HLT := Aside0.mk hLlt
    have B1 := Aside0.mk (Sep.pull [_, _] (Sep.push [_, _] hS1)).at2
    have hq : ∀ W : World, (Instr.slice 102 (.slice (some ⟨ga, 0, none⟩) N ca) none (some (.int .i64 (kk : Int))) none).run Tryz.prog W = .ok (.slice (some ⟨ga, 0, none⟩) kk ca) W := fun W => cutHi Tryz.underlying102 infoFn (some ⟨ga, 0, none⟩) N ca kk rfl hkN hcap W
    clear hS1 hjs hks hps hL hLlt hcap
    have B2 : Aside0 (Sep w0 w1 (Dsk g (runD (las, wt) (D.take 0)).1 (runD (las, wt) (D.take 0)).2 :: Fx (HF g gb gR gP gN js ks a b E Ap cp ps cs) :: Row KV 1 (.slice (some ⟨ga, 0, none⟩) N ca) (deedV g gb gR gP gN js) :: F)) := ⟨by
      have h1 := B1.out
      rw [List.take_zero]
      first | exact h1 | exact h1.at2 | exact h1.at3 | exact h1.sw23 | exact h1.at2.sw23 | exact h1.at3.sw23⟩
    clear B1
    go_wp2_with fail
    go_loopg [19] kk (fun k_ p wr => ∃ (j : Nat), p = .int .i64 (j : Int) ∧ j + k_ = kk ∧ Sep w0 wr (Dsk g (runD (las, wt) (D.take j)).1 (runD (las, wt) (D.take j)).2 :: Fx (HF g gb gR gP gN js ks a b E Ap cp ps cs) :: Row KV 1 (.slice (some ⟨ga, 0, none⟩) N ca) (deedV g gb gR gP gN js) :: F))
    case atStart => exact ⟨0, rfl, by omega, B2.out⟩
    case round =>
      obtain ⟨j, rfl, hjk, hS⟩ := hrel
      obtain ⟨w5, rfl⟩ : ∃ x, x = wr := ⟨_, rfl⟩
      have AK := Aside0.mk hjk
      have AS := Aside0.mk hS
      clear hS B2 hq
      by_cases cj : j < kk
      case neg =>
        obtain rfl : j = kk := by omega
        have hjl : ¬ (j : Int) < (j : Int) := by omega
        clear hjk cj
        go_wp2_with fail
        go_ret
        exact ⟨by first | rfl | (simp; done), AS.out.drop2.drop2⟩
      case pos =>
      have hjl : (j : Int) < (kk : Int) := by omega
      have hjN : j < N := by omega
      have hk68 : kk ≤ 68 := by omega
      obtain ⟨T, hT⟩ : ∃ x, runD (las, wt) (D.take j) = x := ⟨_, rfl⟩
      have HTD := Aside0.mk (HPT.out j)
      rw [hT] at AS HTD
      have HTT := Aside0.mk hT
      have hrow := Sep.pull [_, _] AS.out
      rcases deed_at (g := g) (gb := gb) (gR := gR) (gP := gP) (gN := gN) (a := a) (b := b) (E := E) (pages := ps) HJL.out.1 (j := j) (by rw [HJL.out.2]; exact hjN) with ⟨h1, h2⟩ | ⟨i, q, k, hi, hk, h1, h2⟩ | ⟨h1, h2⟩
      · obtain ⟨hjd, hje⟩ := List.getElem?_eq_some_iff.1 h1
        have z : w5.cell? ⟨ga, j, none⟩ = some (.func (.func 67) #[.pointer (some ⟨g, 0, none⟩)] #[]) := kv_cell hrow hjN hjd (by rw [hje]; rfl)
        have HX : Aside0 (runD (las, wt) (D.take (j + 1)) = doD T none) := ⟨by rw [run_take (x := none) (by rw [HDS.out]; exact h2), HTT.out]⟩
        clear hjk cj hrow h1 h2 hjd hje hT hjN
        go_wp2_with fail
        refine (flush_ AS.out).mono ?_
        rintro e w6 ⟨rfl, hS6⟩
        have B6 := Aside0.mk hS6
        clear hS6 z
        go_wp2_with fail
        go_roundg (gk - 1)
        case measure => have := AK.out; omega
        case rel => exact ⟨j + 1, by go_num, by have := AK.out; omega, by rw [HX.out]; exact B6.out⟩
      · obtain ⟨hjd, hje⟩ := List.getElem?_eq_some_iff.1 h1
        have z : w5.cell? ⟨ga, j, none⟩ = some (.func (.func 97) #[] #[.pointer (some ⟨gb, 0, none⟩), .pointer (some ⟨gR, 0, none⟩), .pointer (some ⟨q, 0, none⟩), .pointer (some ⟨gP, 0, none⟩)]) := kv_cell hrow hjN hjd (by rw [hje]; rfl)
        have hkb : k < b := HLT.out k (List.mem_of_getElem? hk)
        have HX : Aside0 (runD (las, wt) (D.take (j + 1)) = (T.1, putP n T.2 (a : Int) (b : Int) E (k : Int) (ps.getD (k : Int).toNat []))) := ⟨by rw [run_take (x := some (2 + a + k, ps.getD k [])) (by rw [HDS.out]; exact h2), HTT.out, doD_put HQ.out.1.rgt hkb (HPG.out k hkb)]⟩
        have HI : Aside0 (js[i]? = some q ∧ ks[i]? = some (k : Int) ∧ (0 ≤ (k : Int) ∧ (k : Int) < (ps.length : Int))) := ⟨hi, by rw [HKS.out, List.getElem?_map, hk]; rfl, by omega, by rw [HSH.out.1]; omega⟩
        clear hjk cj hrow h1 h2 hjd hje hT hjN hi hk hkb
        go_wp2_with fail
        refine (put97_ AS.out HTD.out.len HDK.out.2 HI.out.1 HI.out.2.1 HI.out.2.2 (by rw [HSH.out.1]; exact HSH.out.2.2)).mono ?_
        rintro e w6 ⟨rfl, hS6⟩
        have B6 := Aside0.mk hS6
        clear hS6 z
        go_wp2_with fail
        go_roundg (gk - 1)
        case measure => have := AK.out; omega
        case rel => exact ⟨j + 1, by go_num, by have := AK.out; omega, by rw [HX.out]; exact B6.out⟩
      · obtain ⟨hjd, hje⟩ := List.getElem?_eq_some_iff.1 h1
        have z : w5.cell? ⟨ga, j, none⟩ = some (.func (.func 98) #[] #[.pointer (some ⟨gb, 0, none⟩), .pointer (some ⟨gN, 0, none⟩)]) := kv_cell hrow hjN hjd (by rw [hje]; rfl)
        have HX : Aside0 (runD (las, wt) (D.take (j + 1)) = (T.1, putW n T.2 ((E + 1) % 2).toNat (rootF (m32 (a : Int)) (m32 (b : Int)) (E + 1)))) := ⟨by rw [run_take (x := rootD a b E) (by rw [HDS.out]; exact h2), HTT.out, doD_root HQ.out.1.rgt]⟩
        clear hjk cj hrow h1 h2 hjd hje hT hjN
        go_wp2_with fail
        refine (root98_ AS.out HTD.out.len HDK.out.2 ⟨by have := HQ.out.1.nums; omega, HQ.out.2⟩).mono ?_
        rintro e w6 ⟨rfl, hS6⟩
        have B6 := Aside0.mk hS6
        clear hS6 z
        go_wp2_with fail
        go_roundg (gk - 1)
        case measure => have := AK.out; omega
        case rel => exact ⟨j + 1, by go_num, by have := AK.out; omega, by rw [HX.out]; exact B6.out⟩
end
end Go.Proofs.YtjngnigelkgekaaGreat.Heal
namespace Go.Proofs.YtjngnigelkgekaaGreat.Ref
open Go.RowKit Go.Proofs.YtjngnigelkgekaaGreatW.PrintWords Go.Proofs.YtjngnigelkgekaaGreatW.PrintLast Go.Proofs.YtjngnigelkgekaaGreatW.PrintMore Go.Proofs.YtjngnigelkgekaaGreat.Kit Go.Proofs.YtjngnigelkgekaaGreat.Disk
set_option maxHeartbeats 400000 in
set_option maxRecDepth 100000 in
theorem newok_ {n : Nat} {w : World} (h1 : 1 ≤ n) (h2 : n ≤ 160) :
    Calls Tryz.prog 52 #[.int .i64 (n : Int)] w fun e w' => ∃ g, e = .returned (.pointer (some ⟨g, 0, none⟩)) ∧ Sep w w' [RD g n (List.replicate (n * 64) 0) (List.replicate (n * 64) 0) (List.replicate n false) (-1) 0] := by
  have hmk : ∀ W : World, (Instr.makeSlice 24 (.int .i64 ((n : Int) * 64)) (.int .i64 ((n : Int) * 64))).run Tryz.prog W = .ok (.slice (some ⟨W.heap.size, 0, none⟩) (n * 64) (n * 64)) (W.alloc (.cells (madeCells #[.int .u8 0] (n * 64)) 5)) := by
    intro W
    have := make_ (m := n * 64) (by omega) W
    rwa [Int.natCast_mul] at this
  have HS := Aside0.mk (madeB (F := []) (n * 64) (Sep.start w) (by omega))
  have h1' : ¬ (n : Int) < 1 := by omega
  have h2' : ¬ 160 < (n : Int) := by omega
  go_enter Tryz.func52, Tryz.ntmps52
  go_wp2_with fail
  refine (of_ok (m := n) (l := List.replicate (n * 64) 0) HS.out.rowRd.rd (by omega) h1 h2).mono ?_
  rintro e w1 ⟨g, rfl, hS1⟩
  go_wp2
  go_ret
  exact ⟨g, by first | rfl | (simp; done), ((Sep.start w).alloc _).lift1 hS1⟩
end Go.Proofs.YtjngnigelkgekaaGreat.Ref
namespace Go.Proofs.YtjngnigelkgekaaGreat.Ref
end Go.Proofs.YtjngnigelkgekaaGreat.Ref
namespace Go.Proofs.YtjngnigelkgekaaGreat.Home
open Go.RowKit Go.Proofs.YtjngnigelkgekaaGreatW.PrintWords Go.Proofs.YtjngnigelkgekaaGreatW.PrintLast Go.Proofs.YtjngnigelkgekaaGreatW.PrintMore Go.Proofs.YtjngnigelkgekaaGreat.Kit Go.Proofs.YtjngnigelkgekaaGreat.Plain Go.Proofs.YtjngnigelkgekaaGreat.Disk Go.Proofs.YtjngnigelkgekaaGreat.Root
set_option maxHeartbeats 400000 in
theorem pair19_ {A : Option Addr} {m c n : Nat} {l : List Int} {w : World} (hr : U8.C w A m l) (hc : m ≤ c) (hm : m = 64 * n) (h1 : 1 ≤ n) (h2 : n ≤ 160) :
    Calls Tryz.prog 16 #[.slice A m c] w fun e w' => ∃ g gr, e = .returned (.tuple #[.pointer (some ⟨g, 0, none⟩), .pointer (some ⟨gr, 0, none⟩)]) ∧ Sep w w' [Dsk g l (fun _ => none), RT gr n l (fun _ => none) 0] := by
  have HR := Aside0.mk (And.intro hr (And.intro hc (And.intro hm (And.intro h1 h2))))
  clear hr hc hm h1 h2
  go_enter Tryz.func16, Tryz.ntmps16
  go_wp2_with fail
  refine (of_ok HR.out.1 HR.out.2.1 HR.out.2.2.1 HR.out.2.2.2.1 HR.out.2.2.2.2).mono ?_
  rintro e w1 ⟨g, rfl, hS1⟩
  have A1 := Aside0.mk hS1
  clear hS1
  go_wp2_with fail
  refine (Ref.of_ok (Kd.C_below HR.out.1 A1.out.toBelow) HR.out.2.2.1 HR.out.2.2.2.1 HR.out.2.2.2.2).mono ?_
  rintro e w2 ⟨gr, rfl, hS2⟩
  have A2 : Aside0 (Sep w w2 [Dsk g l (fun _ => none), RT gr n l (fun _ => none) 0]) := ⟨by
    show Sep w w2 [_, Ref.RD gr n l (flushed l (fun _ => none)) (Ref.waitL n (fun _ => none)) (-1) ((0 : Nat) : Int)]
    rw [flushed_none (n := n) (HR.out.1.1.trans HR.out.2.2.1), Ref.waitL_none]
    exact (A1.out.lift1 hS2).at2⟩
  clear hS2
  go_wp2_with fail
  go_ret2
  exact ⟨_, _, by first | rfl | (simp; done), A2.out⟩
end Go.Proofs.YtjngnigelkgekaaGreat.Home
namespace Go.Proofs.YtjngnigelkgekaaGreat.Heal
open Go.RowKit Go.Proofs.YtjngnigelkgekaaGreatW.PrintWords Go.Proofs.YtjngnigelkgekaaGreatW.PrintLast Go.Proofs.YtjngnigelkgekaaGreatW.PrintMore Go.Proofs.YtjngnigelkgekaaGreat.Kit Go.Proofs.YtjngnigelkgekaaGreat.Plain Go.Proofs.YtjngnigelkgekaaGreat.Disk Go.Proofs.YtjngnigelkgekaaGreat.Root
open Go.Proofs.YtjngnigelkgekaaGreat.RStore
open Go.Proofs.YtjngnigelkgekaaGreat.Deed
open Go.Proofs.YtjngnigelkgekaaGreat.Home (RT RTL)
section
variable {w0 W : World} {F : List HP} {gr g n : Nat} {las now : List Int} {wait : List Bool} {left done : Int} {wt : Wt}
theorem rd_lasts (h : Sep w0 W (Ref.RD gr n las now wait left done :: F)) : ∃ A c, W.cell? ⟨gr, 0, none⟩ = some (.slice A (64 * n) c) ∧ U8.C W A (64 * n) las ∧ 64 * n ≤ c ∧ 1 ≤ n ∧ n ≤ 160 := by
  obtain ⟨gl, cl, gn, cn, gw, cw, hn, hs⟩ := Ref.open_ h
  exact ⟨_, _, (hs.cell 0).trans rfl, hs.at2.rowC', hs.at2.rowC.2.1, hn.1, hn.2.1⟩
end
end Go.Proofs.YtjngnigelkgekaaGreat.Heal
namespace Go.Proofs.YtjngnigelkgekaaGreat.Deed
open Go.RowKit Go.Proofs.YtjngnigelkgekaaGreat.Kit Go.Proofs.YtjngnigelkgekaaGreat.Disk Go.Proofs.YtjngnigelkgekaaGreat.Plain Go.Proofs.YtjngnigelkgekaaGreat.Root
open Go.Proofs.YtjngnigelkgekaaGreat.Store (putsW zz64 fmtL)
def putsD (s k : Nat) : List Dd := (List.range k).map (fun i => some (s + i, zz64))
theorem putsD_snoc (s k : Nat) : putsD s (k + 1) = putsD s k ++ [some (s + k, zz64)] := by unfold putsD; rw [List.range_succ, List.map_append]; rfl
theorem putsD_len (s k : Nat) : (putsD s k).length = k := by unfold putsD; rw [List.length_map, List.length_range]
theorem putsD_ok {n s : Nat} : ∀ k, s + k ≤ n → OkD n (putsD s k)
  | 0, _ => OkD.nil
  | k + 1, h => by rw [putsD_snoc]; exact (putsD_ok k (by omega)).write (by omega) rfl
theorem putsD_run {n s : Nat} (L : List Int) (w : Wt) : ∀ k, s + k ≤ n → runD (L, w) (putsD s k) = (L, putsW n s zz64 k w)
  | 0, _ => rfl
  | k + 1, h => by
    rw [putsD_snoc, runD_snoc, putsD_run (n := n) L w k (by omega)]
    show (L, _) = (L, putW n (putsW n s zz64 k w) (s + k) zz64)
    unfold putW
    rw [if_pos ⟨by omega, rfl⟩]
def fmtD (a b : Nat) : List Dd := (putsD 0 2 ++ [none]) ++ ((putsD 2 (a + b) ++ [none]) ++ [some (1, rootF (m32 (a : Int)) (m32 (b : Int)) 1), none])
theorem fmtD_len (a b : Nat) : (fmtD a b).length = a + b + 6 := by
  unfold fmtD
  rw [List.length_append, List.length_append, List.length_append, List.length_append, putsD_len, putsD_len]
  simp; omega
theorem fmtD_run {n a b : Nat} (hr : rightR (a : Int) (b : Int) 1 n = true) (las : List Int) (wt : Wt) : runD (las, wt) (fmtD a b) = (fmtL n las wt a b, fun _ => none) := by
  have h4 := of_decide_eq_true hr
  unfold fmtD
  rw [runD_append, runD_append, runD_append, runD_append, putsD_run (n := n) las wt 2 (by omega)]
  show runD (runD (runD (flushed las (putsW n 0 zz64 2 wt), fun _ => none) (putsD 2 (a + b))) [none]) _ = _
  rw [putsD_run (n := n) _ _ (a + b) (by omega)]
  have hput : putW n (fun _ => none) 1 (rootF (m32 (a : Int)) (m32 (b : Int)) 1) = fun j => if j = 1 then some (rootF (m32 (a : Int)) (m32 (b : Int)) 1) else none := by
    unfold putW; rw [if_pos ⟨by omega, rootF_len _ _ _⟩]
  unfold fmtL
  rw [hput]
  rfl
end Go.Proofs.YtjngnigelkgekaaGreat.Deed
namespace Go.Proofs.YtjngnigelkgekaaGreat.RStore
open Go.RowKit Go.Proofs.YtjngnigelkgekaaGreatW.PrintWords Go.Proofs.YtjngnigelkgekaaGreatW.PrintLast Go.Proofs.YtjngnigelkgekaaGreatW.PrintMore Go.Proofs.YtjngnigelkgekaaGreat.Kit Go.Proofs.YtjngnigelkgekaaGreat.Plain Go.Proofs.YtjngnigelkgekaaGreat.Disk Go.Proofs.YtjngnigelkgekaaGreat.Root
open Go.Proofs.YtjngnigelkgekaaGreat.Deed
open Go.Proofs.YtjngnigelkgekaaGreat.Home (RT RTL)
open Go.Proofs.YtjngnigelkgekaaGreat.Store (zz64 fmtL)
section
variable {w0 W : World} {F : List HP} {gr n d : Nat} {las : List Int} {wt : Wt}
set_option maxHeartbeats 1600000 in
set_option maxRecDepth 100000 in
theorem rformat_bad (h : Sep w0 W (RT gr n las wt d :: F)) (a b : Int) (hr : rightR a b 1 n = false) : Calls Tryz.prog 39 #[.pointer (some ⟨gr, 0, none⟩), .int .i64 a, .int .i64 b] W fun e w' => e = .returned (.int .i64 25) ∧ Sep w0 w' (RT gr n las wt d :: F) := by
  have A0 := Aside0.mk (h.newBlk 80 #[.int .i64 a, .int .i64 b, .int .u32 1]).drew
  have HR := Aside0.mk hr
  clear h hr
  go_enter Tryz.func39, Tryz.ntmps39
  go_wp2_with fail
  refine start_ (n := 5) (S := fun w' => w'.cell? ⟨W.heap.size, 0, none⟩ = some (.int .i64 a) ∧ w'.cell? ⟨W.heap.size, 1, none⟩ = some (.int .i64 b) ∧ w'.cell? ⟨W.heap.size, 2, none⟩ = some (.int .u32 1)) (ds := [3]) #[false, false, false, false, false] (by kernel_rfl) rfl rfl ⟨(A0.out.cell 0).trans rfl, (A0.out.cell 1).trans rfl, (A0.out.cell 2).trans rfl⟩ (fun hHeld => ?_)
  refine pure_ (i := 1) (N := some 13) (v := ?_) (a' := ?_) #[false, true, false, false, false] rfl rfl (by kernel_rfl) (fun _ _ _ h => h) (Or.inl ⟨by rfl, ?_⟩) ?_ ?_
  rotate_left
  · intro w'
    go_simp
    with_reducible rfl
  rotate_left
  · simp only [Act.put, sIB, sCz, sCs, i64_w, i32_w]
    rfl
  refine take_ (i := 0) (N := some 12) (v := ?_) (a' := ?_) #[true, true, false, false, false] rfl rfl (by kernel_rfl) (fun _ _ _ h => h) (Or.inl ⟨by rfl, ?_⟩) hHeld ?_ ?_
  rotate_left
  · rintro w' ⟨s0, s1, s2⟩
    go_simp
    with_reducible rfl
  rotate_left
  · simp only [Act.put, sIB, sCz, sCs, i64_w, i32_w]
    rfl
  refine one_ (i := 2) (N := some 14) #[true, true, true, false, false] rfl rfl (by kernel_rfl) (by decide) (fun K hK => ?_)
  refine goes_ Tryz.func78 (by kernel_rfl) rfl #[.pointer (some ⟨gr, 0, none⟩)] (by rfl) rfl rfl (by simp only [List.map_toArray, List.map_cons, List.map_nil]; rfl) ?_
  with_reducible refine (Ref.len_ A0.out.at2).mono ?_
  rintro e w4 ⟨rfl, rfl⟩
  refine ⟨_, rfl, ?_⟩
  refine hK.out _ _ ⟨(A0.out.cell 0).trans rfl, (A0.out.cell 1).trans rfl, (A0.out.cell 2).trans rfl⟩ (fun hHeld => ?_)
  clear hK K
  refine norm_ (a' := ?_) ?_ ?_
  rotate_left
  · show Act.put _ (some 14) _ = _
    simp only [Act.put, sIB, sCz, sCs, i64_w, i32_w]
    rfl
  refine last_ (i := 3) (N := some 15) #[true, true, true, true, false] rfl rfl (by kernel_rfl) (by decide) (fun K hK => ?_)
  refine goes_ Tryz.func77 (by kernel_rfl) rfl #[.agg #[.int .i64 a, .int .i64 b, .int .u32 1], .int .i64 (n : Int)] (by rfl) rfl rfl (by simp only [List.map_toArray, List.map_cons, List.map_nil]; rfl) ?_
  with_reducible refine (rright_ a b 1 (n : Int) _).mono ?_
  rintro e w5 ⟨rfl, hb5⟩
  refine ⟨_, rfl, ?_⟩
  rw [HR.out]
  have A5 := Aside0.mk (A0.out.below hb5)
  clear hb5
  refine hK.out _ _ ?_
  clear hK K
  refine norm_ (a' := ?_) ?_ ?_
  rotate_left
  · show Act.put _ (some 15) _ = _
    simp only [Act.put, sIB, sCz, sCs, i64_w, i32_w]
    rfl
  refine pure_ (i := 4) (N := some 16) (v := ?_) (a' := ?_) #[true, true, true, true, true] rfl rfl (by kernel_rfl) (fun _ _ _ h => h) (Or.inl ⟨by rfl, ?_⟩) ?_ ?_
  rotate_left
  · intro w'
    go_simp
    with_reducible rfl
  rotate_left
  · simp only [Act.put, sIB, sCz, sCs, i64_w, i32_w]
    rfl
  refine done_ (by kernel_rfl) ?_
  go_wp2_with fail
  go_ret
  exact ⟨by first | rfl | (simp; done), A5.out.tail⟩
set_option maxHeartbeats 3200000 in
set_option maxRecDepth 100000 in
theorem rformat_ok (h : Sep w0 W (RT gr n las wt d :: F)) (hl : las.length = 64 * n) (hn : n ≤ 160) (hw : ∀ i b, wt i = some b → b.length = 64) (hd : d ≤ 1000000) (a b : Nat) (hr : rightR (a : Int) (b : Int) 1 n = true) : Calls Tryz.prog 39 #[.pointer (some ⟨gr, 0, none⟩), .int .i64 (a : Int), .int .i64 (b : Int)] W fun e w' => e = .returned (.int .i64 0) ∧ Sep w0 w' (RT gr n (fmtL n las wt a b) (fun _ => none) (d + (a + b + 6)) :: F) := by
  have A0 := Aside0.mk (h.newBlk 80 #[.int .i64 (a : Int), .int .i64 (b : Int), .int .u32 1]).drew
  have HR := Aside0.mk hr
  have HS : Aside0 (OkS n (las, wt)) := ⟨hl, hw⟩
  have h1 := of_decide_eq_true hr
  have HAB : Aside0 (a + b + 2 ≤ n ∧ n ≤ 160) := ⟨by omega⟩
  have HD := Aside0.mk hd
  have hws : wrap64 (2 + (a : Int)) = 2 + (a : Int) := IntWalk.wrap64_in _ (by omega)
  obtain ⟨M, hM⟩ : ∃ M, a + b = M := ⟨_, rfl⟩
  obtain ⟨T, hT⟩ : ∃ T, 2 + M = T := ⟨_, rfl⟩
  have hws2 : wrap64 (2 + (a : Int) + (b : Int)) = (T : Int) := by rw [IntWalk.wrap64_in _ (by omega)]; omega
  have HM := Aside0.mk hM
  have HT := Aside0.mk hT
  have hmk : ∀ W : World, (Instr.makeSlice 24 (.int .i64 64) (.int .i64 64)).run Tryz.prog W = .ok (.slice (some ⟨W.heap.size, 0, none⟩) 64 64) (W.alloc (.cells (madeCells #[.int .u8 0] 64) 5)) := make_ (m := 64) (by omega)
  obtain ⟨G0, hG0⟩ : ∃ G, W.heap.size = G := ⟨_, rfl⟩
  rw [hG0] at A0
  clear h hl hr hn hw h1 hM hT hd
  go_enter Tryz.func39, Tryz.ntmps39
  go_wp2_with fail
  obtain ⟨w1, hw1⟩ : ∃ x, W.alloc (.cells #[.int .i64 (a : Int), .int .i64 (b : Int), .int .u32 1] 80) = x := ⟨_, rfl⟩
  rw [hw1] at A0 ⊢
  clear hw1 hG0
  refine start_ (n := 5) (S := fun w' => w'.cell? ⟨G0, 0, none⟩ = some (.int .i64 (a : Int)) ∧ w'.cell? ⟨G0, 1, none⟩ = some (.int .i64 (b : Int)) ∧ w'.cell? ⟨G0, 2, none⟩ = some (.int .u32 1)) (ds := [3]) #[false, false, false, false, false] (by kernel_rfl) rfl rfl ⟨(A0.out.cell 0).trans rfl, (A0.out.cell 1).trans rfl, (A0.out.cell 2).trans rfl⟩ (fun hHeld => ?_)
  refine pure_ (i := 1) (N := some 13) (v := ?_) (a' := ?_) #[false, true, false, false, false] rfl rfl (by kernel_rfl) (fun _ _ _ h => h) (Or.inl ⟨by rfl, ?_⟩) ?_ ?_
  rotate_left
  · intro w'
    go_simp
    with_reducible rfl
  rotate_left
  · simp only [Act.put, sIB, sCz, sCs, i64_w, i32_w]
    rfl
  refine take_ (i := 0) (N := some 12) (v := ?_) (a' := ?_) #[true, true, false, false, false] rfl rfl (by kernel_rfl) (fun _ _ _ h => h) (Or.inl ⟨by rfl, ?_⟩) hHeld ?_ ?_
  rotate_left
  · rintro w' ⟨s0, s1, s2⟩
    go_simp
    with_reducible rfl
  rotate_left
  · simp only [Act.put, sIB, sCz, sCs, i64_w, i32_w]
    rfl
  refine one_ (i := 2) (N := some 14) #[true, true, true, false, false] rfl rfl (by kernel_rfl) (by decide) (fun K hK => ?_)
  refine goes_ Tryz.func78 (by kernel_rfl) rfl #[.pointer (some ⟨gr, 0, none⟩)] (by rfl) rfl rfl (by simp only [List.map_toArray, List.map_cons, List.map_nil]; rfl) ?_
  with_reducible refine (Ref.len_ A0.out.at2).mono ?_
  rintro e w4 ⟨rfl, rfl⟩
  refine ⟨_, rfl, ?_⟩
  refine hK.out _ _ ⟨(A0.out.cell 0).trans rfl, (A0.out.cell 1).trans rfl, (A0.out.cell 2).trans rfl⟩ (fun hHeld => ?_)
  clear hK K
  refine norm_ (a' := ?_) ?_ ?_
  rotate_left
  · show Act.put _ (some 14) _ = _
    simp only [Act.put, sIB, sCz, sCs, i64_w, i32_w]
    rfl
  refine last_ (i := 3) (N := some 15) #[true, true, true, true, false] rfl rfl (by kernel_rfl) (by decide) (fun K hK => ?_)
  refine goes_ Tryz.func77 (by kernel_rfl) rfl #[.agg #[.int .i64 (a : Int), .int .i64 (b : Int), .int .u32 1], .int .i64 (n : Int)] (by rfl) rfl rfl (by simp only [List.map_toArray, List.map_cons, List.map_nil]; rfl) ?_
  with_reducible refine (rright_ (a : Int) (b : Int) 1 (n : Int) _).mono ?_
  rintro e w5 ⟨rfl, hb5⟩
  refine ⟨_, rfl, ?_⟩
  rw [HR.out]
  have A5 := Aside0.mk (A0.out.below hb5)
  clear hb5
  refine hK.out _ _ ?_
  clear hK K
  refine norm_ (a' := ?_) ?_ ?_
  rotate_left
  · show Act.put _ (some 15) _ = _
    simp only [Act.put, sIB, sCz, sCs, i64_w, i32_w]
    rfl
  refine pure_ (i := 4) (N := some 16) (v := ?_) (a' := ?_) #[true, true, true, true, true] rfl rfl (by kernel_rfl) (fun _ _ _ h => h) (Or.inl ⟨by rfl, ?_⟩) ?_ ?_
  rotate_left
  · intro w'
    go_simp
    with_reducible rfl
  rotate_left
  · simp only [Act.put, sIB, sCz, sCs, i64_w, i32_w]
    rfl
  refine done_ (by kernel_rfl) ?_
  have B5 : Aside0 (Sep w0 w5 (RQ gr n (las, wt) (-1) d [] :: Blk G0 80 #[.int .i64 (a : Int), .int .i64 (b : Int), .int .u32 1] :: F)) := ⟨rq_start A5.out.at2 (by decide)⟩
  have B6 := Aside0.mk (madeB 64 B5.out (by omega)).at2
  have h0n : 0 < n := by have := HAB.out; omega
  have H0N := Aside0.mk h0n
  have H1N : Aside0 (1 < n) := ⟨by have := HAB.out; omega⟩
  clear h0n
  go_wp2_with fail
  refine (qwrite_ (b := zz64) B6.out HS.out OkD.nil (by decide) (by have := HD.out; simp only [List.length_nil]; omega) 0 H0N.out (fun W' hW => by have h2 := hW.rowC.2.2; rw [List.length_replicate] at h2; exact h2)).mono ?_
  rintro e w6 ⟨rfl, hS6⟩
  have B7 := Aside0.mk (madeB 64 hS6.drop2 (by omega)).at2
  clear hS6
  go_wp2_with fail
  refine (qwrite_ (b := zz64) B7.out HS.out (OkD.nil.write H0N.out rfl) (by decide) (by have := HD.out; simp only [List.length_append, List.length_nil, List.length_singleton]; omega) 1 H1N.out (fun W' hW => by have h2 := hW.rowC.2.2; rw [List.length_replicate] at h2; exact h2)).mono ?_
  rintro e w7 ⟨rfl, hS7⟩
  have B8 : Aside0 (Sep w0 w7 (RQ gr n (las, wt) (-1) d (putsD 0 2) :: _)) := ⟨hS7.drop2⟩
  clear hS7
  go_wp2_with fail
  refine (qflush_ B8.out HS.out (putsD_ok 2 (by have := HAB.out; omega)) (by decide) (by have := HD.out; rw [putsD_len]; omega)).mono ?_
  rintro e w8 ⟨rfl, hS8⟩
  have B9 := Aside0.mk hS8
  clear hS8
  have HO9 : Aside0 (OkD n (putsD 0 2 ++ [none])) := ⟨(putsD_ok 2 (by have := HAB.out; omega)).flush⟩
  obtain ⟨D9, hD9⟩ : ∃ D, putsD 0 2 ++ [none] = D := ⟨_, rfl⟩
  have HL9 : Aside0 (D9.length = 3) := ⟨by rw [← hD9]; rfl⟩
  rw [hD9] at B9 HO9
  have HD9 := Aside0.mk hD9
  clear hD9
  have HOK : Aside0 (∀ j, j ≤ M → OkD n (D9 ++ putsD 2 j)) := ⟨fun j hj i x hm => by
    rcases List.mem_append.1 hm with hm | hm
    · exact HO9.out i x hm
    · exact putsD_ok j (by have := HAB.out; have := HM.out; omega) i x hm⟩
  go_wp2_with fail
  go_loopg [8] M (fun k_ p wr => ∃ j i : Nat, p = .int .i64 (i : Int) ∧ i = 2 + j ∧ j + k_ = M ∧ Sep w0 wr (RQ gr n (las, wt) (-1) d (D9 ++ putsD 2 j) :: Blk G0 80 #[.int .i64 (a : Int), .int .i64 (b : Int), .int .u32 1] :: F))
  case atStart => exact ⟨0, 2, rfl, rfl, by omega, by show Sep w0 _ (RQ gr n (las, wt) (-1) d (D9 ++ []) :: _); rw [List.append_nil]; exact B9.out⟩
  case round =>
    obtain ⟨j, i, rfl, hij, hjk, hS⟩ := hrel
    obtain ⟨w10, rfl⟩ : ∃ x, x = wr := ⟨_, rfl⟩
    have AK := Aside0.mk (And.intro hij hjk)
    have AS := Aside0.mk hS
    clear hS
    by_cases cj : j < M
    case pos =>
      have hil : (i : Int) < (T : Int) := by have := HT.out; omega
      have HIN : Aside0 (i < n) := ⟨by have := HAB.out; have := HM.out; omega⟩
      have hw1j : wrap64 ((i : Int) + 1) = (i : Int) + 1 := by have := HAB.out; have := HIN.out; exact IntWalk.wrap64_in _ (by omega)
      have B10 := Aside0.mk (madeB 64 AS.out (by omega)).at2
      have HLE : Aside0 (d + (D9 ++ putsD 2 j).length ≤ 2000000) := ⟨by rw [List.length_append, putsD_len, HL9.out]; have := HD.out; have := HAB.out; have := HM.out; omega⟩
      have HPS : Aside0 (D9 ++ putsD 2 (j + 1) = (D9 ++ putsD 2 j) ++ [some (i, zz64)]) := ⟨by rw [putsD_snoc, hij, List.append_assoc]⟩
      have HJM : Aside0 (j ≤ M) := ⟨by omega⟩
      clear hjk cj hij
      go_wp2_with fail
      refine (qwrite_ (b := zz64) B10.out HS.out (HOK.out j HJM.out) (by decide) HLE.out i HIN.out (fun W' hW => by have h2 := hW.rowC.2.2; rw [List.length_replicate] at h2; exact h2)).mono ?_
      rintro e w11 ⟨rfl, hS11⟩
      have B11 := Aside0.mk hS11.drop2
      clear hS11
      go_wp2_with fail
      go_roundg (gk - 1)
      case measure => have := AK.out; have := HT.out; omega
      case rel => exact ⟨j + 1, i + 1, by go_num, by have := AK.out; omega, by have := AK.out; have := HT.out; omega, by rw [HPS.out]; exact B11.out⟩
    case neg =>
    have hil : ¬ (i : Int) < (T : Int) := by have := HT.out; omega
    obtain rfl : j = M := by omega
    have HO10 : Aside0 (OkD n (D9 ++ putsD 2 j)) := ⟨HOK.out j (Nat.le_refl _)⟩
    have HL10 : Aside0 ((D9 ++ putsD 2 j).length ≤ 163) := ⟨by rw [List.length_append, putsD_len, HL9.out]; have := HAB.out; have := HM.out; omega⟩
    obtain ⟨D10, hD10⟩ : ∃ D, D9 ++ putsD 2 j = D := ⟨_, rfl⟩
    rw [hD10] at AS HO10 HL10
    have HD10 := Aside0.mk hD10
    clear hjk cj hij hD10 HOK
    go_wp2_with fail
    refine (qflush_ AS.out HS.out HO10.out (by decide) (by have := HD.out; have := HL10.out; omega)).mono ?_
    rintro e w12 ⟨rfl, hS12⟩
    have B12 := Aside0.mk hS12
    clear hS12
    have z0 := (B12.out.at2.cell 0).trans rfl
    have z1 := (B12.out.at2.cell 1).trans rfl
    have z2 := (B12.out.at2.cell 2).trans rfl
    go_wp2_with fail
    refine (rroot_ (a : Int) (b : Int) 1 (by decide) _).mono ?_
    rintro e w13 ⟨v13, rfl, hS13⟩
    obtain ⟨R, hR⟩ : ∃ R, rootF (m32 (a : Int)) (m32 (b : Int)) 1 = R := ⟨_, rfl⟩
    have HRL : Aside0 (R.length = 64) := ⟨by rw [← hR]; exact rootF_len _ _ _⟩
    rw [hR] at hS13
    have HRR := Aside0.mk hR
    obtain ⟨A13, c13, rfl⟩ := hS13.rowN HRL.out
    have B13 := Aside0.mk (B12.out.lift1 hS13).at2
    clear hS13 hR z0 z1 z2
    go_wp2_with fail
    refine (qwrite_ (b := R) B13.out HS.out HO10.out.flush (by decide) (by have := HD.out; have := HL10.out; rw [List.length_append, List.length_singleton]; omega) 1 H1N.out (fun W' hW => hW.rowC')).mono ?_
    rintro e w14 ⟨rfl, hS14⟩
    have B14 := Aside0.mk hS14.drop2
    clear hS14
    go_wp2_with fail
    refine (qflush_ B14.out HS.out (HO10.out.flush.write H1N.out HRL.out) (by decide) (by have := HD.out; have := HL10.out; rw [List.length_append, List.length_append, List.length_singleton, List.length_singleton]; omega)).mono ?_
    rintro e w15 ⟨rfl, hS15⟩
    have HFD : Aside0 (((D10 ++ [none]) ++ [some (1, R)]) ++ [none] = fmtD a b) := ⟨by
      unfold fmtD
      rw [← HD10.out, ← HD9.out, ← HRR.out, HM.out]
      simp⟩
    rw [HFD.out] at hS15
    have hfin := rq_all hS15.drop2
    rw [fmtD_run HR.out, fmtD_len] at hfin
    have B15 := Aside0.mk hfin
    clear hS15 hfin
    go_wp2_with fail
    go_ret
    exact ⟨by first | rfl | (simp; done), B15.out⟩
end
end Go.Proofs.YtjngnigelkgekaaGreat.RStore
