/- Keep7, Keep8: what NestTells needs. -/
import Derived.Test.YtkkgfpdjlohojaaTnestTells8
set_option linter.unusedVariables false
set_option linter.unusedSimpArgs false
namespace Go.Proofs.Ytkkgfpdjlohojaa.Keep
open Go.RowKit Go.Proofs.YtkkgfpdjlohojaaW.PrintWords Go.Proofs.YtkkgfpdjlohojaaW.PrintLast Go.Proofs.YtkkgfpdjlohojaaW.PrintMore Go.Proofs.Ytkkgfpdjlohojaa.Kit
open Go.Proofs.Ytkkgfpdjlohojaa.Fn (RetB FC Fnc cellF uV uB)
open Go.Proofs.Ytkkgfpdjlohojaa.Tape Go.Proofs.Ytkkgfpdjlohojaa.Tok Go.Proofs.Ytkkgfpdjlohojaa.NestP Go.Proofs.Ytkkgfpdjlohojaa.TokP
section
variable {w0 W : World} {F : List HP} {g : Nat} {A : Option Addr} {n c : Nat} {fs : List Fnc}
theorem fnAt {ga N cc i : Nat} {f : Fnc} (h : Sep w0 W (RowU (.slice (some ⟨ga, 0, none⟩) N cc) fs :: F)) (hf : fs[i]? = some f) :
    W.cell? ⟨ga, i * 3, none⟩ = some (.int .i32 f.name) ∧ W.cell? ⟨ga, i * 3 + 1, none⟩ = some (.int .i64 f.args) ∧ W.cell? ⟨ga, i * 3 + 2, none⟩ = some (.string f.code) ∧ ∀ q, W.frozen? ⟨ga, q, none⟩ = false := by
  obtain ⟨h3, h4⟩ := Nest.rawAt (k := i) (cl := cellF f) h (by rw [List.getElem?_map, hf]; rfl)
  exact ⟨h3 0 _ rfl, h3 1 _ rfl, h3 2 _ rfl, h4⟩
theorem fnPut {ga N cc i q : Nat} {f f2 : Fnc} {u : Value} (h : Sep w0 W (RowU (.slice (some ⟨ga, 0, none⟩) N cc) fs :: F)) (hf : fs[i]? = some f) (hq : q < 3) (hu : u.oneCell' = true) (hc : (cellF f).set q u = cellF f2) :
    Sep w0 (W.setCell ⟨ga, i * 3 + q, none⟩ u) (RowU (.slice (some ⟨ga, 0, none⟩) N cc) (fs.set i f2) :: F) := by
  have hk : i < fs.length := (List.getElem?_eq_some_iff.1 hf).1
  have h3 := h.putRaw (j := i) (q := q) (u := u) (by rw [List.length_map]; exact hk) hq hu
  have e2 : (fs.map cellF).set i (((fs.map cellF).getD i []).set q u) = (fs.set i f2).map cellF := by
    rw [List.getD_eq_getElem?_getD, List.getElem?_map, hf]
    show (fs.map cellF).set i ((cellF f).set q u) = _
    rw [hc, List.map_set]
  rw [e2] at h3
  exact h3
theorem fnStore {ga N cc i : Nat} {f f2 : Fnc} (h : Sep w0 W (RowU (.slice (some ⟨ga, 0, none⟩) N cc) fs :: F)) (hf : fs[i]? = some f) :
    W.cell? ⟨ga, i * 3, none⟩ = some (.int .i32 f.name) ∧ W.frozen? ⟨ga, i * 3, none⟩ = false ∧
    (W.setCell ⟨ga, i * 3, none⟩ (.int .i32 f2.name)).cell? ⟨ga, i * 3 + 1, none⟩ = some (.int .i64 f.args) ∧ (W.setCell ⟨ga, i * 3, none⟩ (.int .i32 f2.name)).frozen? ⟨ga, i * 3 + 1, none⟩ = false ∧
    ((W.setCell ⟨ga, i * 3, none⟩ (.int .i32 f2.name)).setCell ⟨ga, i * 3 + 1, none⟩ (.int .i64 f2.args)).cell? ⟨ga, i * 3 + 2, none⟩ = some (.string f.code) ∧ ((W.setCell ⟨ga, i * 3, none⟩ (.int .i32 f2.name)).setCell ⟨ga, i * 3 + 1, none⟩ (.int .i64 f2.args)).frozen? ⟨ga, i * 3 + 2, none⟩ = false ∧
    Sep w0 (((W.setCell ⟨ga, i * 3, none⟩ (.int .i32 f2.name)).setCell ⟨ga, i * 3 + 1, none⟩ (.int .i64 f2.args)).setCell ⟨ga, i * 3 + 2, none⟩ (.string f2.code)) (RowU (.slice (some ⟨ga, 0, none⟩) N cc) (fs.set i f2) :: F) := by
  have hk : i < fs.length := (List.getElem?_eq_some_iff.1 hf).1
  have s1 : Sep w0 (W.setCell ⟨ga, i * 3, none⟩ (.int .i32 f2.name)) (RowU (.slice (some ⟨ga, 0, none⟩) N cc) (fs.set i ⟨f2.name, f.args, f.code⟩) :: F) := fnPut (q := 0) (u := .int .i32 f2.name) h hf (by decide) rfl rfl
  have g1 : (fs.set i (⟨f2.name, f.args, f.code⟩ : Fnc))[i]? = some ⟨f2.name, f.args, f.code⟩ := List.getElem?_set_self hk
  have s2 := fnPut (q := 1) (u := .int .i64 f2.args) (f2 := ⟨f2.name, f2.args, f.code⟩) s1 g1 (by decide) rfl rfl
  rw [List.set_set] at s2
  have g2 : (fs.set i (⟨f2.name, f2.args, f.code⟩ : Fnc))[i]? = some ⟨f2.name, f2.args, f.code⟩ := List.getElem?_set_self hk
  have s3 := fnPut (q := 2) (u := .string f2.code) (f2 := f2) s2 g2 (by decide) rfl rfl
  rw [List.set_set] at s3
  obtain ⟨a0, a1, a2, a3⟩ := fnAt h hf
  obtain ⟨b0, b1, b2, b3⟩ := fnAt s1 g1
  obtain ⟨c0, c1, c2, c3⟩ := fnAt s2 g2
  exact ⟨a0, a3 _, b1, b3 _, c2, c3 _, s3⟩
def OddP (w0 w' : World) (F : List HP) (v : Value) (N m : Nat) : Prop := ∃ (pg mo : Int) (A : Option Addr) (n c : Nat) (fs : List Fnc), v = uV pg mo A n c ∧ fs.length = n ∧ n ≤ N ∧ (∀ f ∈ fs, f.code.size ≤ m) ∧ Sep w0 w' (RowU (.slice A n c) fs :: F)
end
end Go.Proofs.Ytkkgfpdjlohojaa.Keep
namespace Go.Proofs.Ytkkgfpdjlohojaa.Keep
open Go.RowKit Go.Proofs.YtkkgfpdjlohojaaW.PrintWords Go.Proofs.YtkkgfpdjlohojaaW.PrintLast Go.Proofs.YtkkgfpdjlohojaaW.PrintMore Go.Proofs.Ytkkgfpdjlohojaa.Kit
open Go.Proofs.Ytkkgfpdjlohojaa.Fn (RetB FC Fnc cellF uV uB)
open Go.Proofs.Ytkkgfpdjlohojaa.Tape Go.Proofs.Ytkkgfpdjlohojaa.Tok Go.Proofs.Ytkkgfpdjlohojaa.NestP Go.Proofs.Ytkkgfpdjlohojaa.TokP
section
variable {w0 W : World} {F : List HP} {g : Nat} {A : Option Addr} {n c m : Nat} {fs : List Fnc} {pg mo : Int}
theorem _root_.Go.Proofs.Ytkkgfpdjlohojaa.Kit.Sep.tail2 {w0 W : World} {F : List HP} {p q r : HP} (h : Sep w0 W (p :: q :: r :: F)) : Sep w0 W (p :: F) := h.drop2.drop2
abbrev uZ (gr : Nat) : HP := Blk gr 30 #[.int .i64 0, .int .i64 0, .slice none 0 0]
abbrev tuB (gt : Nat) (wh fn at_ N : Int) (tx : ByteArray) : HP := Blk gt 52 #[.int .i64 wh, .int .i64 fn, .int .i64 at_, .int .i64 N, .string tx]
set_option maxHeartbeats 12800000 in
set_option maxRecDepth 100000 in
theorem odd_ (hC : ∀ W', Sep w0 W' F → FC W' A n fs) (h : Sep w0 W F) (hn : n ≤ 1000) (hm : ∀ f ∈ fs, f.code.size ≤ m) (hm1 : 12 ≤ m) (hm2 : m ≤ 100000) (wh fn at_ N : Int) (tx : ByteArray) :
    Calls Try.prog 18 #[uV pg mo A n c, .agg #[.int .i64 wh, .int .i64 fn, .int .i64 at_, .int .i64 N, .string tx]] W fun e w' => ∃ v, e = .returned v ∧ OddP w0 w' F v (n + 1) (m + 12) := by
  have h1 := ((h.newBlk 30 #[.int .i64 pg, .int .i64 mo, .slice A n c]).newBlk 52 #[.int .i64 wh, .int .i64 fn, .int .i64 at_, .int .i64 N, .string tx]).newBlk 30 #[.int .i64 0, .int .i64 0, .slice none 0 0]
  rw [NestR.alloc_size, NestR.alloc_size] at h1
  have H1 := Aside0.mk h1
  have HC := Aside0.mk hC
  have hfl : fs.length = n := (hC W h).len
  have HM := Aside0.mk (And.intro hm (And.intro hm1 (And.intro hm2 hfl)))
  have hnm : n ≤ 9223372036854775807 := by omega
  clear h1 h hC hm hfl
  go_enter Try.func18, Try.ntmps18
  go_upto_region 1 with fail
  obtain ⟨w1, hw1⟩ : ∃ x, ((W.alloc (.cells #[.int .i64 pg, .int .i64 mo, .slice A n c] 30)).alloc (.cells #[.int .i64 wh, .int .i64 fn, .int .i64 at_, .int .i64 N, .string tx] 52)).alloc (.cells #[.int .i64 0, .int .i64 0, .slice none 0 0] 30) = x := ⟨_, rfl⟩
  obtain ⟨gu, hgu⟩ : ∃ x, W.heap.size = x := ⟨_, rfl⟩
  obtain ⟨gt, hgt⟩ : ∃ x, gu + 1 = x := ⟨_, rfl⟩
  rw [hw1, hgu] at H1
  rw [hw1, hgu]
  rw [hgt] at H1
  rw [hgt]
  obtain ⟨gr, hgr⟩ : ∃ x, gt + 1 = x := ⟨_, rfl⟩
  rw [hgr] at H1
  try rw [hgr]
  try rw [show gu + 2 = gr by omega]
  clear hw1 hgu hgt hgr
  have u2 : w1.cell? ⟨gu, 2, none⟩ = some (.slice A n c) := (H1.out.at3.cell 2).trans rfl
  have L := Aside0.mk (Sep.rawLit0 H1.out 3 34)
  have u2L : (w1.alloc (.cells #[] 34)).cell? ⟨gu, 2, none⟩ = some (.slice A n c) := (L.out.at4.cell 2).trans rfl
  go_upto_region 2 with (first | (refine gate_builtin (b := .append) (xs := #[.tmp 9, .tmp 11]) rfl ?_; go_loud (refine L.out.appendRaw rfl (.tmp 9) (.tmp 11) 28 (.agg #[.int .i32 0, .int .i64 0, .string ⟨#[]⟩]) 32 rfl Try.underlying28 infoFnc rfl (by decide) (by decide) A n c rfl rfl (HC.out _ L.out.tail.tail.tail.tail) (by rw [List.length_map, HM.out.2.2.2]; simp; omega) ?_; intro v2 w2 hS2; rw [List.nil_append] at hS2; obtain ⟨A2, c2, rfl⟩ := hS2.rowN (n := n) (by rw [List.length_map]; exact HM.out.2.2.2); have y4c : w2.cell? ⟨gu, 2, none⟩ = some (.slice A n c) := (hS2.at4.cell 2).trans rfl; have y4f : w2.frozen? ⟨gu, 2, none⟩ = false := hS2.at4.frozen 2; have B2 := Aside0.mk ((hS2.at4).setBlk 2 (.slice A2 n c2)); clear hS2)))
  obtain ⟨w3, hw3⟩ : ∃ x, w2.setCell ⟨gu, 2, none⟩ (.slice A2 n c2) = x := ⟨_, rfl⟩
  rw [hw3] at B2
  rw [hw3]
  have B3 : Aside0 (Sep w0 w3 (uB gu pg mo A2 n c2 :: RowU (.slice A2 n c2) fs :: uZ gr :: tuB gt wh fn at_ N tx :: F)) := ⟨B2.out⟩
  clear hw3 y4c y4f u2 u2L B2 L
  have t0 : w3.cell? ⟨gt, 0, none⟩ = some (.int .i64 wh) := (B3.out.at4.cell 0).trans rfl
  have t1 : w3.cell? ⟨gt, 1, none⟩ = some (.int .i64 fn) := (B3.out.at4.cell 1).trans rfl
  have t2 : w3.cell? ⟨gt, 2, none⟩ = some (.int .i64 at_) := (B3.out.at4.cell 2).trans rfl
  have t3 : w3.cell? ⟨gt, 3, none⟩ = some (.int .i64 N) := (B3.out.at4.cell 3).trans rfl
  have t4 : w3.cell? ⟨gt, 4, none⟩ = some (.string tx) := (B3.out.at4.cell 4).trans rfl
  have u2 : w3.cell? ⟨gu, 2, none⟩ = some (.slice A2 n c2) := (B3.out.cell 2).trans rfl
  go_upto_if 18 with fail
  go_cut [5] from 19 to 20 (fun v wx => ∃ X : ByteArray, v = .string X ∧ X.size ≤ 12 ∧ wx = w3)
  case first =>
    by_cases h12 : 12 < tx.size
    · have hd : decide (12 < (tx.size : Int)) = true := decide_eq_true (by omega)
      have hd2 : decide (12 < tx.size) = true := decide_eq_true h12
      have h12i : (12 : Int) ≤ (tx.size : Int) := by omega
      go_wp2_with fail
      go_meet
      case rel => exact ⟨_, rfl, by simp; omega, rfl⟩
    · have hd : decide (12 < (tx.size : Int)) = false := decide_eq_false (by omega)
      have hd2 : decide (12 < tx.size) = false := decide_eq_false h12
      go_wp2_with fail
      go_meet
      case rel => exact ⟨_, rfl, by omega, rfl⟩
  case rest =>
    obtain ⟨X, rfl, hX, rfl⟩ := hcut
    obtain ⟨m5, hm5⟩ : ∃ x, wh.tmod 5 = x := ⟨_, rfl⟩
    by_cases hn0 : n = 0
    · have hz : ((n : Int) == 0) = true := by simp [hn0]
      clear hn0
      go_wp2_with fail
      refine (Keep.at_ _ 3 (by decide)).mono ?_
      rintro e w5 ⟨r, rfl, ⟨r0, r1, r2⟩, rfl⟩
      by_cases h0 : r = 0
      · subst h0
        have u0 := (B3.out.cell 0).trans rfl
        have uf := B3.out.frozen 0
        have B6 := Aside0.mk (B3.out.setBlk 0 (.int .i64 N))
        clear r0 r1 r2
        go_upto_region 12 with fail
        obtain ⟨w6, hw6⟩ : ∃ x, wc.setCell ⟨gu, 0, none⟩ (.int .i64 N) = x := ⟨_, rfl⟩
        rw [hw6] at B6 ⊢
        replace B6 : Aside0 (Sep w0 w6 (uB gu N mo A2 n c2 :: RowU (.slice A2 n c2) fs :: uZ gr :: tuB gt wh fn at_ N tx :: F)) := B6
        clear hw6 u0 uf t0 t1 t2 t3 t4 u2
        have q0 := (B6.out.cell 0).trans rfl
        have q1 := (B6.out.cell 1).trans rfl
        have q2 := (B6.out.cell 2).trans rfl
        obtain ⟨d0, f0, d1, f1, d2, f2, hS10⟩ := store3 (.int .i64 (N)) (.int .i64 (mo)) (.slice A2 (n) c2) B6.out.at3
        have q3 := (hS10.cell 0).trans rfl
        have q4 := (hS10.cell 1).trans rfl
        have q5 := (hS10.cell 2).trans rfl
        have BZ := Aside0.mk (hS10.at3.drop2.tail2)
        clear hS10
        go_wp2_with fail
        refine bodyPost_ret (v := uV (N) (mo) A2 (n) c2) (by rw [results_cell1 rfl]; go_simp) rfl ?_
        exact ⟨_, rfl, N, mo, A2, n, c2, fs, rfl, HM.out.2.2.2, by omega, fun f hf => Nat.le_trans (HM.out.1 f hf) (by omega), BZ.out⟩
      have b0 : (r == 0) = false := by simp [h0]
      by_cases h1 : r = 1
      · subst h1
        have u0 := (B3.out.cell 1).trans rfl
        have uf := B3.out.frozen 1
        have B6 := Aside0.mk (B3.out.setBlk 1 (.int .i64 N))
        clear r0 r1 r2
        go_upto_region 12 with fail
        obtain ⟨w6, hw6⟩ : ∃ x, wc.setCell ⟨gu, 1, none⟩ (.int .i64 N) = x := ⟨_, rfl⟩
        rw [hw6] at B6 ⊢
        replace B6 : Aside0 (Sep w0 w6 (uB gu pg N A2 n c2 :: RowU (.slice A2 n c2) fs :: uZ gr :: tuB gt wh fn at_ N tx :: F)) := B6
        clear hw6 u0 uf t0 t1 t2 t3 t4 u2
        have q0 := (B6.out.cell 0).trans rfl
        have q1 := (B6.out.cell 1).trans rfl
        have q2 := (B6.out.cell 2).trans rfl
        obtain ⟨d0, f0, d1, f1, d2, f2, hS10⟩ := store3 (.int .i64 (pg)) (.int .i64 (N)) (.slice A2 (n) c2) B6.out.at3
        have q3 := (hS10.cell 0).trans rfl
        have q4 := (hS10.cell 1).trans rfl
        have q5 := (hS10.cell 2).trans rfl
        have BZ := Aside0.mk (hS10.at3.drop2.tail2)
        clear hS10
        go_wp2_with fail
        refine bodyPost_ret (v := uV (pg) (N) A2 (n) c2) (by rw [results_cell1 rfl]; go_simp) rfl ?_
        exact ⟨_, rfl, pg, N, A2, n, c2, fs, rfl, HM.out.2.2.2, by omega, fun f hf => Nat.le_trans (HM.out.1 f hf) (by omega), BZ.out⟩
      have b1 : (r == 1) = false := by simp [h1]
      have L2 := Aside0.mk ((oneFn B3.out ⟨107, 0, X⟩).at3)
      have HX := Aside0.mk hX
      clear r0 r1 r2 hX t0 t1 t2 t3 t4
      go_upto_region 12 with (first | (refine gate_builtin (b := .append) (xs := #[.tmp 36, .tmp 39]) rfl ?_; go_loud (refine L2.out.appendRaw rfl (.tmp 36) (.tmp 39) 28 (.agg #[.int .i32 0, .int .i64 0, .string ⟨#[]⟩]) 32 rfl Try.underlying28 infoFnc rfl (by decide) (by decide) (some ⟨wc.heap.size, 0, none⟩) 1 1 rfl rfl L2.out.at2.rowC' (by rw [List.length_map, HM.out.2.2.2]; simp; omega) ?_; intro v8 w8 hS8; obtain ⟨A8, c8, rfl⟩ := hS8.rowN (n := n + 1) (by simp; exact HM.out.2.2.2); have y4c : w8.cell? ⟨gu, 2, none⟩ = some (.slice A2 n c2) := (hS8.at3.cell 2).trans rfl; have y4f : w8.frozen? ⟨gu, 2, none⟩ = false := hS8.at3.frozen 2; have B8 := Aside0.mk ((hS8.at3).setBlk 2 (.slice A8 (n + 1) c8)); clear hS8)))
      obtain ⟨w6, hw6⟩ : ∃ x, w8.setCell ⟨gu, 2, none⟩ (.slice A8 (n + 1) c8) = x := ⟨_, rfl⟩
      rw [hw6] at B8 ⊢
      have B6 : Aside0 (Sep w0 w6 (uB gu pg mo A8 (n + 1) c8 :: RowU (.slice A8 (n + 1) c8) (fs ++ [(⟨107, 0, X⟩ : Fnc)]) :: uZ gr :: tuB gt wh fn at_ N tx :: F)) := ⟨by
        show Sep w0 w6 (_ :: Row (Kd.raw 3) 34 _ ((fs ++ [(⟨107, 0, X⟩ : Fnc)]).map cellF) :: _)
        rw [List.map_append]
        exact B8.out.at3.tail⟩
      clear hw6 y4c y4f B8 L2 u2
      have q0 := (B6.out.cell 0).trans rfl
      have q1 := (B6.out.cell 1).trans rfl
      have q2 := (B6.out.cell 2).trans rfl
      obtain ⟨d0, f0, d1, f1, d2, f2, hS10⟩ := store3 (.int .i64 (pg)) (.int .i64 (mo)) (.slice A8 (n + 1) c8) B6.out.at3
      have q3 := (hS10.cell 0).trans rfl
      have q4 := (hS10.cell 1).trans rfl
      have q5 := (hS10.cell 2).trans rfl
      have BZ := Aside0.mk (hS10.at3.drop2.tail2)
      clear hS10
      go_wp2_with fail
      refine bodyPost_ret (v := uV (pg) (mo) A8 (n + 1) c8) (by rw [results_cell1 rfl]; go_simp) rfl ?_
      exact ⟨_, rfl, pg, mo, A8, n + 1, c8, fs ++ [(⟨107, 0, X⟩ : Fnc)], rfl, by rw [List.length_append, HM.out.2.2.2]; rfl, Nat.le_refl _, fun f hf => by
          rcases List.mem_append.1 hf with hf | hf
          · exact Nat.le_trans (HM.out.1 f hf) (by omega)
          · rw [List.mem_singleton.1 hf]
            exact Nat.le_trans HX.out (by omega), BZ.out⟩
    · have hz : ((n : Int) == 0) = false := by simp [hn0]
      by_cases h54 : m5 = 4
      · have hb4 : (m5 == 4) = true := by simp [h54]
        clear h54
        go_wp2_with fail
        refine (Keep.at_ _ 3 (by decide)).mono ?_
        rintro e w5 ⟨r, rfl, ⟨r0, r1, r2⟩, rfl⟩
        by_cases h0 : r = 0
        · subst h0
          have u0 := (B3.out.cell 0).trans rfl
          have uf := B3.out.frozen 0
          have B6 := Aside0.mk (B3.out.setBlk 0 (.int .i64 N))
          clear r0 r1 r2
          go_upto_region 12 with fail
          obtain ⟨w6, hw6⟩ : ∃ x, wc.setCell ⟨gu, 0, none⟩ (.int .i64 N) = x := ⟨_, rfl⟩
          rw [hw6] at B6 ⊢
          replace B6 : Aside0 (Sep w0 w6 (uB gu N mo A2 n c2 :: RowU (.slice A2 n c2) fs :: uZ gr :: tuB gt wh fn at_ N tx :: F)) := B6
          clear hw6 u0 uf t0 t1 t2 t3 t4 u2
          have q0 := (B6.out.cell 0).trans rfl
          have q1 := (B6.out.cell 1).trans rfl
          have q2 := (B6.out.cell 2).trans rfl
          obtain ⟨d0, f0, d1, f1, d2, f2, hS10⟩ := store3 (.int .i64 (N)) (.int .i64 (mo)) (.slice A2 (n) c2) B6.out.at3
          have q3 := (hS10.cell 0).trans rfl
          have q4 := (hS10.cell 1).trans rfl
          have q5 := (hS10.cell 2).trans rfl
          have BZ := Aside0.mk (hS10.at3.drop2.tail2)
          clear hS10
          go_wp2_with fail
          refine bodyPost_ret (v := uV (N) (mo) A2 (n) c2) (by rw [results_cell1 rfl]; go_simp) rfl ?_
          exact ⟨_, rfl, N, mo, A2, n, c2, fs, rfl, HM.out.2.2.2, by omega, fun f hf => Nat.le_trans (HM.out.1 f hf) (by omega), BZ.out⟩
        have b0 : (r == 0) = false := by simp [h0]
        by_cases h1 : r = 1
        · subst h1
          have u0 := (B3.out.cell 1).trans rfl
          have uf := B3.out.frozen 1
          have B6 := Aside0.mk (B3.out.setBlk 1 (.int .i64 N))
          clear r0 r1 r2
          go_upto_region 12 with fail
          obtain ⟨w6, hw6⟩ : ∃ x, wc.setCell ⟨gu, 1, none⟩ (.int .i64 N) = x := ⟨_, rfl⟩
          rw [hw6] at B6 ⊢
          replace B6 : Aside0 (Sep w0 w6 (uB gu pg N A2 n c2 :: RowU (.slice A2 n c2) fs :: uZ gr :: tuB gt wh fn at_ N tx :: F)) := B6
          clear hw6 u0 uf t0 t1 t2 t3 t4 u2
          have q0 := (B6.out.cell 0).trans rfl
          have q1 := (B6.out.cell 1).trans rfl
          have q2 := (B6.out.cell 2).trans rfl
          obtain ⟨d0, f0, d1, f1, d2, f2, hS10⟩ := store3 (.int .i64 (pg)) (.int .i64 (N)) (.slice A2 (n) c2) B6.out.at3
          have q3 := (hS10.cell 0).trans rfl
          have q4 := (hS10.cell 1).trans rfl
          have q5 := (hS10.cell 2).trans rfl
          have BZ := Aside0.mk (hS10.at3.drop2.tail2)
          clear hS10
          go_wp2_with fail
          refine bodyPost_ret (v := uV (pg) (N) A2 (n) c2) (by rw [results_cell1 rfl]; go_simp) rfl ?_
          exact ⟨_, rfl, pg, N, A2, n, c2, fs, rfl, HM.out.2.2.2, by omega, fun f hf => Nat.le_trans (HM.out.1 f hf) (by omega), BZ.out⟩
        have b1 : (r == 1) = false := by simp [h1]
        have L2 := Aside0.mk ((oneFn B3.out ⟨107, 0, X⟩).at3)
        have HX := Aside0.mk hX
        clear r0 r1 r2 hX t0 t1 t2 t3 t4
        go_upto_region 12 with (first | (refine gate_builtin (b := .append) (xs := #[.tmp 36, .tmp 39]) rfl ?_; go_loud (refine L2.out.appendRaw rfl (.tmp 36) (.tmp 39) 28 (.agg #[.int .i32 0, .int .i64 0, .string ⟨#[]⟩]) 32 rfl Try.underlying28 infoFnc rfl (by decide) (by decide) (some ⟨wc.heap.size, 0, none⟩) 1 1 rfl rfl L2.out.at2.rowC' (by rw [List.length_map, HM.out.2.2.2]; simp; omega) ?_; intro v8 w8 hS8; obtain ⟨A8, c8, rfl⟩ := hS8.rowN (n := n + 1) (by simp; exact HM.out.2.2.2); have y4c : w8.cell? ⟨gu, 2, none⟩ = some (.slice A2 n c2) := (hS8.at3.cell 2).trans rfl; have y4f : w8.frozen? ⟨gu, 2, none⟩ = false := hS8.at3.frozen 2; have B8 := Aside0.mk ((hS8.at3).setBlk 2 (.slice A8 (n + 1) c8)); clear hS8)))
        obtain ⟨w6, hw6⟩ : ∃ x, w8.setCell ⟨gu, 2, none⟩ (.slice A8 (n + 1) c8) = x := ⟨_, rfl⟩
        rw [hw6] at B8 ⊢
        have B6 : Aside0 (Sep w0 w6 (uB gu pg mo A8 (n + 1) c8 :: RowU (.slice A8 (n + 1) c8) (fs ++ [(⟨107, 0, X⟩ : Fnc)]) :: uZ gr :: tuB gt wh fn at_ N tx :: F)) := ⟨by
          show Sep w0 w6 (_ :: Row (Kd.raw 3) 34 _ ((fs ++ [(⟨107, 0, X⟩ : Fnc)]).map cellF) :: _)
          rw [List.map_append]
          exact B8.out.at3.tail⟩
        clear hw6 y4c y4f B8 L2 u2
        have q0 := (B6.out.cell 0).trans rfl
        have q1 := (B6.out.cell 1).trans rfl
        have q2 := (B6.out.cell 2).trans rfl
        obtain ⟨d0, f0, d1, f1, d2, f2, hS10⟩ := store3 (.int .i64 (pg)) (.int .i64 (mo)) (.slice A8 (n + 1) c8) B6.out.at3
        have q3 := (hS10.cell 0).trans rfl
        have q4 := (hS10.cell 1).trans rfl
        have q5 := (hS10.cell 2).trans rfl
        have BZ := Aside0.mk (hS10.at3.drop2.tail2)
        clear hS10
        go_wp2_with fail
        refine bodyPost_ret (v := uV (pg) (mo) A8 (n + 1) c8) (by rw [results_cell1 rfl]; go_simp) rfl ?_
        exact ⟨_, rfl, pg, mo, A8, n + 1, c8, fs ++ [(⟨107, 0, X⟩ : Fnc)], rfl, by rw [List.length_append, HM.out.2.2.2]; rfl, Nat.le_refl _, fun f hf => by
            rcases List.mem_append.1 hf with hf | hf
            · exact Nat.le_trans (HM.out.1 f hf) (by omega)
            · rw [List.mem_singleton.1 hf]
              exact Nat.le_trans HX.out (by omega), BZ.out⟩
      · have hb4 : (m5 == 4) = false := by simp [h54]
        go_wp2_with fail
        refine (Keep.at_ fn n (by omega)).mono ?_
        rintro e w5 ⟨kk, rfl, ⟨k0, k1, k2⟩, rfl⟩
        obtain ⟨k, rfl⟩ := Int.eq_ofNat_of_zero_le k0
        have hkn : k < n := by have := k1 (by omega); omega
        obtain ⟨ga, c9, e9⟩ := B3.out.tail.rowFormN (n := n) (by rw [List.length_map]; exact HM.out.2.2.2) (by omega)
        injection e9 with e9 _ e99
        subst e9 e99
        have hfl : k < fs.length := by rw [HM.out.2.2.2]; exact hkn
        obtain ⟨f, hfk⟩ : ∃ f, fs[k]? = some f := ⟨_, List.getElem?_eq_getElem hfl⟩
        obtain ⟨z0, z1, z2, zf⟩ := fnAt B3.out.tail hfk
        have HFK := Aside0.mk hfk
        have hcds := HM.out.1 f (List.mem_of_getElem? hfk)
        obtain ⟨nm, hnm_⟩ : ∃ x, f.name = x := ⟨_, rfl⟩
        obtain ⟨ar, har_⟩ : ∃ x, f.args = x := ⟨_, rfl⟩
        obtain ⟨cd, hcd_⟩ : ∃ x, f.code = x := ⟨_, rfl⟩
        rw [hnm_] at z0
        rw [har_] at z1
        rw [hcd_] at z2 hcds
        have hkl : (k : Int) < (n : Int) := by omega
        have B7 := Aside0.mk (B3.out.newBlk 34 #[.int .i32 nm, .int .i64 ar, .string cd])
        have HX := Aside0.mk (And.intro hX hcds)
        clear k0 k1 k2 hfk zf hfl hnm_ har_ hcd_ hX
        go_upto_region 15 with fail
        obtain ⟨w6, hw6⟩ : ∃ x, wc.alloc (.cells #[.int .i32 nm, .int .i64 ar, .string cd] 34) = x := ⟨_, rfl⟩
        obtain ⟨g7, hg7⟩ : ∃ x, wc.heap.size = x := ⟨_, rfl⟩
        rw [hw6, hg7] at B7
        rw [hw6, hg7]
        clear hw6 hg7 z0 z1 z2 t0 t1 t2 t3 t4 u2
        have x2 : w6.cell? ⟨g7, 2, none⟩ = some (.string cd) := (B7.out.cell 2).trans rfl
        have t0 : w6.cell? ⟨gt, 0, none⟩ = some (.int .i64 wh) := (B7.out.at5.cell 0).trans rfl
        have t2 : w6.cell? ⟨gt, 2, none⟩ = some (.int .i64 at_) := (B7.out.at5.cell 2).trans rfl
        have t3 : w6.cell? ⟨gt, 3, none⟩ = some (.int .i64 N) := (B7.out.at5.cell 3).trans rfl
        have hm9 : m ≤ 100000 := HM.out.2.2.1
        have hcw : wrap64 ((cd.size : Int) + 1) = (cd.size : Int) + 1 := IntWalk.wrap64_in _ (by omega)
        go_wp2_with fail
        refine (Keep.at_ at_ ((cd.size : Int) + 1) (by omega)).mono ?_
        rintro e w7 ⟨pp, rfl, ⟨p0, p1, p2⟩, rfl⟩
        obtain ⟨p, rfl⟩ := Int.eq_ofNat_of_zero_le p0
        have hpc : p ≤ cd.size := by have := p1 (by omega); omega
        clear p0 p1 p2
        go_wp2_with fail
        refine (Keep.at_ _ 5 (by decide)).mono ?_
        rintro e w8 ⟨r, rfl, ⟨r0, r1, r2⟩, rfl⟩
        obtain ⟨s1, hs1⟩ : ∃ s, cd.extract 0 p = s := ⟨_, rfl⟩
        have hz1 : s1.size ≤ cd.size := by rw [← hs1]; simp; omega
        obtain ⟨mn, hmn⟩ : ∃ mn, (if p + 1 < cd.size then p + 1 else cd.size) = mn := ⟨_, rfl⟩
        have hmn2 : mn ≤ cd.size := by rw [← hmn]; split <;> omega
        have hma : min ((p : Int) + 1) (cd.size : Int) = (mn : Int) := by rw [← hmn]; split <;> omega
        have hmb : (if (p : Int) + 1 < (cd.size : Int) then (p : Int) + 1 else (cd.size : Int)) = (mn : Int) := by rw [← hmn]; split <;> split <;> omega
        have hmc : (if (cd.size : Int) < (p : Int) + 1 then (cd.size : Int) else (p : Int) + 1) = (mn : Int) := by rw [← hmn]; split <;> split <;> omega
        have sl1 : ∀ W : World, (Instr.slice 9 (.string cd) none (some (.int .i64 (p : Int))) none).run Try.prog W = .ok (.string s1) W := fun W => by rw [← hs1]; exact run_slice_string_h W _ cd Try.underlying9 .i64 (p : Int) (by omega) (by omega)
        obtain ⟨s2, hs2⟩ : ∃ s, cd.extract p cd.size = s := ⟨_, rfl⟩
        have hz2 : s2.size ≤ cd.size := by rw [← hs2]; simp
        have sl2 : ∀ W : World, (Instr.slice 9 (.string cd) (some (.int .i64 (p : Int))) none none).run Try.prog W = .ok (.string s2) W := fun W => by rw [← hs2]; exact run_slice_string_l W _ cd Try.underlying9 .i64 (p : Int) (by omega) (by omega)
        obtain ⟨s3, hs3⟩ : ∃ s, cd.extract mn cd.size = s := ⟨_, rfl⟩
        have hz3 : s3.size ≤ cd.size - mn := by rw [← hs3]; simp
        have hz13 : s1.size + s3.size ≤ cd.size := by
          have h1_ : s1.size ≤ p := by rw [← hs1]; simp; omega
          have h2_ : p ≤ mn := by rw [← hmn]; split <;> omega
          omega
        have hz12 : s1.size + s2.size ≤ cd.size := by
          have h1_ : s1.size ≤ p := by rw [← hs1]; simp; omega
          have h2_ : s2.size ≤ cd.size - p := by rw [← hs2]; simp
          omega
        have sl3 : ∀ W : World, (Instr.slice 9 (.string cd) (some (.int .i64 (mn : Int))) none none).run Try.prog W = .ok (.string s3) W := fun W => by rw [← hs3]; exact run_slice_string_l W _ cd Try.underlying9 .i64 (mn : Int) (by omega) (by omega)
        have hX12 := HX.out.1
        have ad1 : ∀ W : World, (Op.stringOp .add s1 X).run Try.prog W = .ok (.string (s1 ++ X)) W := fun W => run_string_add_sum W s1 X (by omega)
        have ad2 : ∀ W : World, (Op.stringOp .add (s1 ++ X) s2).run Try.prog W = .ok (.string (s1 ++ X ++ s2)) W := fun W => run_string_add_sum W (s1 ++ X) s2 (by simp; omega)
        have ad3 : ∀ W : World, (Op.stringOp .add s1 s3).run Try.prog W = .ok (.string (s1 ++ s3)) W := fun W => run_string_add_sum W s1 s3 (by omega)
        have ad4 : ∀ W : World, (Op.stringOp .add (s1 ++ X) s3).run Try.prog W = .ok (.string (s1 ++ X ++ s3)) W := fun W => run_string_add_sum W (s1 ++ X) s3 (by simp; omega)
        have hpw : wrap64 ((p : Int) + 1) = (p : Int) + 1 := IntWalk.wrap64_in _ (by omega)
        have HZ := Aside0.mk (And.intro hz12 (And.intro hz13 (And.intro hX12 hcds)))
        have xd : w6.drew.cell? ⟨g7, 2, none⟩ = some (.string cd) := x2
        have xf : w6.drew.frozen? ⟨g7, 2, none⟩ = false := B7.out.drew.frozen 2
        clear hs1 hs2 hs3 hmn hz1 hz2 hz3 hz12 hz13 hX12 hcds
        by_cases hr0 : r = 0
        · subst hr0
          clear r0 r1 r2
          go_upto_region 19 with fail
          refine start_ (n := 13) (S := fun w' => w'.cell? ⟨g7, 2, none⟩ = some (.string cd)) (ds := [12]) #[Z,Z,Z,Z,Z,Z,Z,Z,Z,Z,Z,Z,Z] (by kernel_rfl) rfl rfl (xd) (fun hHeld => ?_)
          refine pu_ 0 81 ?_ #[J,Z,Z,Z,Z,Z,Z,Z,Z,Z,Z,Z,Z] rfl rfl ?_ ?_ ?_ ?_
          rotate_left
          · intro w'
            go_simp
            with_reducible rfl
          rotate_left
          · simp only [aP]
            rfl
          refine pu_ 2 83 ?_ #[J,Z,J,Z,Z,Z,Z,Z,Z,Z,Z,Z,Z] rfl rfl ?_ ?_ ?_ ?_
          rotate_left
          · intro w'
            go_simp
            with_reducible rfl
          rotate_left
          · simp only [aP]
            rfl
          refine pu_ 4 85 ?_ #[J,Z,J,Z,J,Z,Z,Z,Z,Z,Z,Z,Z] rfl rfl ?_ ?_ ?_ ?_
          rotate_left
          · intro w'
            go_simp
            with_reducible rfl
          rotate_left
          · simp only [aP]
            rfl
          refine pu_ 6 87 ?_ #[J,Z,J,Z,J,Z,J,Z,Z,Z,Z,Z,Z] rfl rfl ?_ ?_ ?_ ?_
          rotate_left
          · intro w'
            go_simp
            with_reducible rfl
          rotate_left
          · simp only [aP]
            rfl
          refine pu_ 8 89 ?_ #[J,Z,J,Z,J,Z,J,Z,J,Z,Z,Z,Z] rfl rfl ?_ ?_ ?_ ?_
          rotate_left
          · intro w'
            go_simp
            with_reducible rfl
          rotate_left
          · simp only [aP]
            rfl
          refine ta_ 1 82 ?_ #[J,J,J,Z,J,Z,J,Z,J,Z,Z,Z,Z] rfl rfl ?_ hHeld ?_ ?_ ?_
          rotate_left
          · intro w' s0
            go_simp
            with_reducible rfl
          rotate_left
          · simp only [aP]
            rfl
          refine pu_ 3 84 ?_ #[J,J,J,J,J,Z,J,Z,J,Z,Z,Z,Z] rfl rfl ?_ ?_ ?_ ?_
          rotate_left
          · intro w'
            go_simp
            with_reducible rfl
          rotate_left
          · simp only [aP]
            rfl
          refine pu_ 5 86 ?_ #[J,J,J,J,J,J,J,Z,J,Z,Z,Z,Z] rfl rfl ?_ ?_ ?_ ?_
          rotate_left
          · intro w'
            go_simp
            with_reducible rfl
          rotate_left
          · simp only [aP]
            rfl
          refine ta_ 7 88 ?_ #[J,J,J,J,J,J,J,J,J,Z,Z,Z,Z] rfl rfl ?_ hHeld ?_ ?_ ?_
          rotate_left
          · intro w' s0
            go_simp
            with_reducible rfl
          rotate_left
          · simp only [aP]
            rfl
          refine pu_ 9 90 ?_ #[J,J,J,J,J,J,J,J,J,J,Z,Z,Z] rfl rfl ?_ ?_ ?_ ?_
          rotate_left
          · intro w'
            go_simp
            with_reducible rfl
          rotate_left
          · simp only [aP]
            rfl
          refine pu_ 10 91 ?_ #[J,J,J,J,J,J,J,J,J,J,J,Z,Z] rfl rfl ?_ ?_ ?_ ?_
          rotate_left
          · intro w'
            go_simp
            with_reducible rfl
          rotate_left
          · simp only [aP]
            rfl
          refine pu_ 11 92 ?_ #[J,J,J,J,J,J,J,J,J,J,J,J,Z] rfl rfl ?_ ?_ ?_ ?_
          rotate_left
          · intro w'
            go_simp
            with_reducible rfl
          rotate_left
          · simp only [aP]
            rfl
          refine last_ (i := 12) (N := none) #[J,J,J,J,J,J,J,J,J,J,J,J,J] rfl rfl (by kernel_rfl) (by decide) (fun K hK => ?_)
          refine skip_ (w1 := ?_) (by rfl) rfl ?_ ?_
          rotate_left
          · go_simp
            rfl
          refine hK.out _ _ ?_
          clear hK K
          refine done_ (by kernel_rfl) ?_
          have B9 := Aside0.mk ((B7.out.setBlk 2 (.string (s1 ++ X ++ s2))).drew)
          obtain ⟨w9, hw9⟩ : ∃ x, (w6.setCell ⟨g7, 2, none⟩ (.string (s1 ++ X ++ s2))).drew = x := ⟨_, rfl⟩
          rw [hw9] at B9 ⊢
          replace B9 : Aside0 (Sep w0 w9 (Blk g7 34 #[.int .i32 nm, .int .i64 ar, .string (s1 ++ X ++ s2)] :: uB gu pg mo (some ⟨ga, 0, none⟩) n c2 :: RowU (.slice (some ⟨ga, 0, none⟩) n c2) fs :: uZ gr :: tuB gt wh fn at_ N tx :: F)) := B9
          clear hw9 x2 xd xf t0 t2 t3 sl1 sl2 sl3 ad1 ad2 ad3 ad4 hma hmb hmc
          have x0 := (B9.out.cell 0).trans rfl
          have x1 := (B9.out.cell 1).trans rfl
          have x2 := (B9.out.cell 2).trans rfl
          have v2 := (B9.out.at2.cell 2).trans rfl
          obtain ⟨d0, f0, d1, f1, d2, f2, hS11⟩ := fnStore (f2 := ⟨nm, ar, s1 ++ X ++ s2⟩) B9.out.at3 HFK.out
          have B10 := Aside0.mk hS11.at2.tail.at2
          clear hS11
          go_upto_region 27 with fail
          obtain ⟨w10, hw10⟩ : ∃ x, ((w9.setCell ⟨ga, k * 3, none⟩ (.int .i32 (nm))).setCell ⟨ga, k * 3 + 1, none⟩ (.int .i64 (ar))).setCell ⟨ga, k * 3 + 2, none⟩ (.string (s1 ++ X ++ s2)) = x := ⟨_, rfl⟩
          have B11 : Aside0 (Sep w0 w10 (uB gu pg mo (some ⟨ga, 0, none⟩) n c2 :: RowU (.slice (some ⟨ga, 0, none⟩) n c2) (fs.set k ⟨nm, ar, s1 ++ X ++ s2⟩) :: uZ gr :: tuB gt wh fn at_ N tx :: F)) := ⟨by rw [← hw10]; exact B10.out⟩
          rw [hw10]
          clear hw10 x0 x1 x2 v2 d0 f0 d1 f1 d2 f2 B10
          have q0 := (B11.out.cell 0).trans rfl
          have q1 := (B11.out.cell 1).trans rfl
          have q2 := (B11.out.cell 2).trans rfl
          obtain ⟨d0, f0, d1, f1, d2, f2, hS10⟩ := store3 (.int .i64 (pg)) (.int .i64 (mo)) (.slice (some ⟨ga, 0, none⟩) (n) c2) B11.out.at3
          have q3 := (hS10.cell 0).trans rfl
          have q4 := (hS10.cell 1).trans rfl
          have q5 := (hS10.cell 2).trans rfl
          have BZ := Aside0.mk (hS10.at3.drop2.tail2)
          clear hS10
          go_wp2_with fail
          refine bodyPost_ret (v := uV (pg) (mo) (some ⟨ga, 0, none⟩) (n) c2) (by rw [results_cell1 rfl]; go_simp) rfl ?_
          exact ⟨_, rfl, pg, mo, (some ⟨ga, 0, none⟩), n, c2, fs.set k ⟨nm, ar, s1 ++ X ++ s2⟩, rfl, by rw [List.length_set]; exact HM.out.2.2.2, by omega, fun f hf => by
              rcases List.mem_or_eq_of_mem_set hf with hf | rfl
              · exact Nat.le_trans (HM.out.1 f hf) (by omega)
              · show (s1 ++ X ++ s2).size ≤ m + 12
                have := HZ.out; simp; omega, BZ.out⟩
        have hb0 : (r == 0) = false := by simp [hr0]
        by_cases hr1 : r = 1
        · subst hr1
          clear r0 r1 r2
          go_upto_region 21 with fail
          refine start_ (n := 16) (S := fun w' => w'.cell? ⟨g7, 2, none⟩ = some (.string cd)) (ds := [15]) #[Z,Z,Z,Z,Z,Z,Z,Z,Z,Z,Z,Z,Z,Z,Z,Z] (by kernel_rfl) rfl rfl (xd) (fun hHeld => ?_)
          refine pu_ 0 95 ?_ #[J,Z,Z,Z,Z,Z,Z,Z,Z,Z,Z,Z,Z,Z,Z,Z] rfl rfl ?_ ?_ ?_ ?_
          rotate_left
          · intro w'
            go_simp
            with_reducible rfl
          rotate_left
          · simp only [aP]
            rfl
          refine pu_ 2 97 ?_ #[J,Z,J,Z,Z,Z,Z,Z,Z,Z,Z,Z,Z,Z,Z,Z] rfl rfl ?_ ?_ ?_ ?_
          rotate_left
          · intro w'
            go_simp
            with_reducible rfl
          rotate_left
          · simp only [aP]
            rfl
          refine pu_ 4 99 ?_ #[J,Z,J,Z,J,Z,Z,Z,Z,Z,Z,Z,Z,Z,Z,Z] rfl rfl ?_ ?_ ?_ ?_
          rotate_left
          · intro w'
            go_simp
            with_reducible rfl
          rotate_left
          · simp only [aP]
            rfl
          refine pu_ 6 101 ?_ #[J,Z,J,Z,J,Z,J,Z,Z,Z,Z,Z,Z,Z,Z,Z] rfl rfl ?_ ?_ ?_ ?_
          rotate_left
          · intro w'
            go_simp
            with_reducible rfl
          rotate_left
          · simp only [aP]
            rfl
          refine pu_ 7 102 ?_ #[J,Z,J,Z,J,Z,J,J,Z,Z,Z,Z,Z,Z,Z,Z] rfl rfl ?_ ?_ ?_ ?_
          rotate_left
          · intro w'
            go_simp
            with_reducible rfl
          rotate_left
          · simp only [aP]
            rfl
          refine pu_ 8 103 ?_ #[J,Z,J,Z,J,Z,J,J,J,Z,Z,Z,Z,Z,Z,Z] rfl rfl ?_ ?_ ?_ ?_
          rotate_left
          · intro w'
            go_simp
            with_reducible rfl
          rotate_left
          · simp only [aP]
            rfl
          refine ta_ 1 96 ?_ #[J,J,J,Z,J,Z,J,J,J,Z,Z,Z,Z,Z,Z,Z] rfl rfl ?_ hHeld ?_ ?_ ?_
          rotate_left
          · intro w' s0
            go_simp
            with_reducible rfl
          rotate_left
          · simp only [aP]
            rfl
          refine pu_ 3 98 ?_ #[J,J,J,J,J,Z,J,J,J,Z,Z,Z,Z,Z,Z,Z] rfl rfl ?_ ?_ ?_ ?_
          rotate_left
          · intro w'
            go_simp
            with_reducible rfl
          rotate_left
          · simp only [aP]
            rfl
          refine ta_ 5 100 ?_ #[J,J,J,J,J,J,J,J,J,Z,Z,Z,Z,Z,Z,Z] rfl rfl ?_ hHeld ?_ ?_ ?_
          rotate_left
          · intro w' s0
            go_simp
            with_reducible rfl
          rotate_left
          · simp only [aP]
            rfl
          refine ta_ 9 104 ?_ #[J,J,J,J,J,J,J,J,J,J,Z,Z,Z,Z,Z,Z] rfl rfl ?_ hHeld ?_ ?_ ?_
          rotate_left
          · intro w' s0
            go_simp
            with_reducible rfl
          rotate_left
          · simp only [aP]
            rfl
          refine pu_ 10 105 ?_ #[J,J,J,J,J,J,J,J,J,J,J,Z,Z,Z,Z,Z] rfl rfl ?_ ?_ ?_ ?_
          rotate_left
          · intro w'
            go_simp
            with_reducible rfl
          rotate_left
          · simp only [aP]
            rfl
          refine pu_ 11 106 ?_ #[J,J,J,J,J,J,J,J,J,J,J,J,Z,Z,Z,Z] rfl rfl ?_ ?_ ?_ ?_
          rotate_left
          · intro w'
            go_simp
            with_reducible rfl
          rotate_left
          · simp only [aP]
            rfl
          refine pu_ 12 107 ?_ #[J,J,J,J,J,J,J,J,J,J,J,J,J,Z,Z,Z] rfl rfl ?_ ?_ ?_ ?_
          rotate_left
          · intro w'
            go_simp
            with_reducible rfl
          rotate_left
          · simp only [aP]
            rfl
          refine pu_ 13 108 ?_ #[J,J,J,J,J,J,J,J,J,J,J,J,J,J,Z,Z] rfl rfl ?_ ?_ ?_ ?_
          rotate_left
          · intro w'
            go_simp
            with_reducible rfl
          rotate_left
          · simp only [aP]
            rfl
          refine pu_ 14 109 ?_ #[J,J,J,J,J,J,J,J,J,J,J,J,J,J,J,Z] rfl rfl ?_ ?_ ?_ ?_
          rotate_left
          · intro w'
            go_simp
            with_reducible rfl
          rotate_left
          · simp only [aP]
            rfl
          refine last_ (i := 15) (N := none) #[J,J,J,J,J,J,J,J,J,J,J,J,J,J,J,J] rfl rfl (by kernel_rfl) (by decide) (fun K hK => ?_)
          refine skip_ (w1 := ?_) (by rfl) rfl ?_ ?_
          rotate_left
          · go_simp
            rfl
          refine hK.out _ _ ?_
          clear hK K
          refine done_ (by kernel_rfl) ?_
          have B9 := Aside0.mk ((B7.out.setBlk 2 (.string (s1 ++ s3))).drew)
          obtain ⟨w9, hw9⟩ : ∃ x, (w6.setCell ⟨g7, 2, none⟩ (.string (s1 ++ s3))).drew = x := ⟨_, rfl⟩
          rw [hw9] at B9 ⊢
          replace B9 : Aside0 (Sep w0 w9 (Blk g7 34 #[.int .i32 nm, .int .i64 ar, .string (s1 ++ s3)] :: uB gu pg mo (some ⟨ga, 0, none⟩) n c2 :: RowU (.slice (some ⟨ga, 0, none⟩) n c2) fs :: uZ gr :: tuB gt wh fn at_ N tx :: F)) := B9
          clear hw9 x2 xd xf t0 t2 t3 sl1 sl2 sl3 ad1 ad2 ad3 ad4 hma hmb hmc
          have x0 := (B9.out.cell 0).trans rfl
          have x1 := (B9.out.cell 1).trans rfl
          have x2 := (B9.out.cell 2).trans rfl
          have v2 := (B9.out.at2.cell 2).trans rfl
          obtain ⟨d0, f0, d1, f1, d2, f2, hS11⟩ := fnStore (f2 := ⟨nm, ar, s1 ++ s3⟩) B9.out.at3 HFK.out
          have B10 := Aside0.mk hS11.at2.tail.at2
          clear hS11
          go_upto_region 27 with fail
          obtain ⟨w10, hw10⟩ : ∃ x, ((w9.setCell ⟨ga, k * 3, none⟩ (.int .i32 (nm))).setCell ⟨ga, k * 3 + 1, none⟩ (.int .i64 (ar))).setCell ⟨ga, k * 3 + 2, none⟩ (.string (s1 ++ s3)) = x := ⟨_, rfl⟩
          have B11 : Aside0 (Sep w0 w10 (uB gu pg mo (some ⟨ga, 0, none⟩) n c2 :: RowU (.slice (some ⟨ga, 0, none⟩) n c2) (fs.set k ⟨nm, ar, s1 ++ s3⟩) :: uZ gr :: tuB gt wh fn at_ N tx :: F)) := ⟨by rw [← hw10]; exact B10.out⟩
          rw [hw10]
          clear hw10 x0 x1 x2 v2 d0 f0 d1 f1 d2 f2 B10
          have q0 := (B11.out.cell 0).trans rfl
          have q1 := (B11.out.cell 1).trans rfl
          have q2 := (B11.out.cell 2).trans rfl
          obtain ⟨d0, f0, d1, f1, d2, f2, hS10⟩ := store3 (.int .i64 (pg)) (.int .i64 (mo)) (.slice (some ⟨ga, 0, none⟩) (n) c2) B11.out.at3
          have q3 := (hS10.cell 0).trans rfl
          have q4 := (hS10.cell 1).trans rfl
          have q5 := (hS10.cell 2).trans rfl
          have BZ := Aside0.mk (hS10.at3.drop2.tail2)
          clear hS10
          go_wp2_with fail
          refine bodyPost_ret (v := uV (pg) (mo) (some ⟨ga, 0, none⟩) (n) c2) (by rw [results_cell1 rfl]; go_simp) rfl ?_
          exact ⟨_, rfl, pg, mo, (some ⟨ga, 0, none⟩), n, c2, fs.set k ⟨nm, ar, s1 ++ s3⟩, rfl, by rw [List.length_set]; exact HM.out.2.2.2, by omega, fun f hf => by
              rcases List.mem_or_eq_of_mem_set hf with hf | rfl
              · exact Nat.le_trans (HM.out.1 f hf) (by omega)
              · show (s1 ++ s3).size ≤ m + 12
                have := HZ.out; simp; omega, BZ.out⟩
        have hb1 : (r == 1) = false := by simp [hr1]
        by_cases hr2 : r = 2
        · subst hr2
          clear r0 r1 r2
          go_upto_region 23 with fail
          refine start_ (n := 18) (S := fun w' => w'.cell? ⟨g7, 2, none⟩ = some (.string cd)) (ds := [17]) #[Z,Z,Z,Z,Z,Z,Z,Z,Z,Z,Z,Z,Z,Z,Z,Z,Z,Z] (by kernel_rfl) rfl rfl (xd) (fun hHeld => ?_)
          refine pu_ 0 112 ?_ #[J,Z,Z,Z,Z,Z,Z,Z,Z,Z,Z,Z,Z,Z,Z,Z,Z,Z] rfl rfl ?_ ?_ ?_ ?_
          rotate_left
          · intro w'
            go_simp
            with_reducible rfl
          rotate_left
          · simp only [aP]
            rfl
          refine pu_ 2 114 ?_ #[J,Z,J,Z,Z,Z,Z,Z,Z,Z,Z,Z,Z,Z,Z,Z,Z,Z] rfl rfl ?_ ?_ ?_ ?_
          rotate_left
          · intro w'
            go_simp
            with_reducible rfl
          rotate_left
          · simp only [aP]
            rfl
          refine pu_ 4 116 ?_ #[J,Z,J,Z,J,Z,Z,Z,Z,Z,Z,Z,Z,Z,Z,Z,Z,Z] rfl rfl ?_ ?_ ?_ ?_
          rotate_left
          · intro w'
            go_simp
            with_reducible rfl
          rotate_left
          · simp only [aP]
            rfl
          refine pu_ 6 118 ?_ #[J,Z,J,Z,J,Z,J,Z,Z,Z,Z,Z,Z,Z,Z,Z,Z,Z] rfl rfl ?_ ?_ ?_ ?_
          rotate_left
          · intro w'
            go_simp
            with_reducible rfl
          rotate_left
          · simp only [aP]
            rfl
          refine pu_ 8 120 ?_ #[J,Z,J,Z,J,Z,J,Z,J,Z,Z,Z,Z,Z,Z,Z,Z,Z] rfl rfl ?_ ?_ ?_ ?_
          rotate_left
          · intro w'
            go_simp
            with_reducible rfl
          rotate_left
          · simp only [aP]
            rfl
          refine pu_ 9 121 ?_ #[J,Z,J,Z,J,Z,J,Z,J,J,Z,Z,Z,Z,Z,Z,Z,Z] rfl rfl ?_ ?_ ?_ ?_
          rotate_left
          · intro w'
            go_simp
            with_reducible rfl
          rotate_left
          · simp only [aP]
            rfl
          refine pu_ 10 122 ?_ #[J,Z,J,Z,J,Z,J,Z,J,J,J,Z,Z,Z,Z,Z,Z,Z] rfl rfl ?_ ?_ ?_ ?_
          rotate_left
          · intro w'
            go_simp
            with_reducible rfl
          rotate_left
          · simp only [aP]
            rfl
          refine ta_ 1 113 ?_ #[J,J,J,Z,J,Z,J,Z,J,J,J,Z,Z,Z,Z,Z,Z,Z] rfl rfl ?_ hHeld ?_ ?_ ?_
          rotate_left
          · intro w' s0
            go_simp
            with_reducible rfl
          rotate_left
          · simp only [aP]
            rfl
          refine pu_ 3 115 ?_ #[J,J,J,J,J,Z,J,Z,J,J,J,Z,Z,Z,Z,Z,Z,Z] rfl rfl ?_ ?_ ?_ ?_
          rotate_left
          · intro w'
            go_simp
            with_reducible rfl
          rotate_left
          · simp only [aP]
            rfl
          refine pu_ 5 117 ?_ #[J,J,J,J,J,J,J,Z,J,J,J,Z,Z,Z,Z,Z,Z,Z] rfl rfl ?_ ?_ ?_ ?_
          rotate_left
          · intro w'
            go_simp
            with_reducible rfl
          rotate_left
          · simp only [aP]
            rfl
          refine ta_ 7 119 ?_ #[J,J,J,J,J,J,J,J,J,J,J,Z,Z,Z,Z,Z,Z,Z] rfl rfl ?_ hHeld ?_ ?_ ?_
          rotate_left
          · intro w' s0
            go_simp
            with_reducible rfl
          rotate_left
          · simp only [aP]
            rfl
          refine ta_ 11 123 ?_ #[J,J,J,J,J,J,J,J,J,J,J,J,Z,Z,Z,Z,Z,Z] rfl rfl ?_ hHeld ?_ ?_ ?_
          rotate_left
          · intro w' s0
            go_simp
            with_reducible rfl
          rotate_left
          · simp only [aP]
            rfl
          refine pu_ 12 124 ?_ #[J,J,J,J,J,J,J,J,J,J,J,J,J,Z,Z,Z,Z,Z] rfl rfl ?_ ?_ ?_ ?_
          rotate_left
          · intro w'
            go_simp
            with_reducible rfl
          rotate_left
          · simp only [aP]
            rfl
          refine pu_ 13 125 ?_ #[J,J,J,J,J,J,J,J,J,J,J,J,J,J,Z,Z,Z,Z] rfl rfl ?_ ?_ ?_ ?_
          rotate_left
          · intro w'
            go_simp
            with_reducible rfl
          rotate_left
          · simp only [aP]
            rfl
          refine pu_ 14 126 ?_ #[J,J,J,J,J,J,J,J,J,J,J,J,J,J,J,Z,Z,Z] rfl rfl ?_ ?_ ?_ ?_
          rotate_left
          · intro w'
            go_simp
            with_reducible rfl
          rotate_left
          · simp only [aP]
            rfl
          refine pu_ 15 127 ?_ #[J,J,J,J,J,J,J,J,J,J,J,J,J,J,J,J,Z,Z] rfl rfl ?_ ?_ ?_ ?_
          rotate_left
          · intro w'
            go_simp
            with_reducible rfl
          rotate_left
          · simp only [aP]
            rfl
          refine pu_ 16 128 ?_ #[J,J,J,J,J,J,J,J,J,J,J,J,J,J,J,J,J,Z] rfl rfl ?_ ?_ ?_ ?_
          rotate_left
          · intro w'
            go_simp
            with_reducible rfl
          rotate_left
          · simp only [aP]
            rfl
          refine last_ (i := 17) (N := none) #[J,J,J,J,J,J,J,J,J,J,J,J,J,J,J,J,J,J] rfl rfl (by kernel_rfl) (by decide) (fun K hK => ?_)
          refine skip_ (w1 := ?_) (by rfl) rfl ?_ ?_
          rotate_left
          · go_simp
            rfl
          refine hK.out _ _ ?_
          clear hK K
          refine done_ (by kernel_rfl) ?_
          have B9 := Aside0.mk ((B7.out.setBlk 2 (.string (s1 ++ X ++ s3))).drew)
          obtain ⟨w9, hw9⟩ : ∃ x, (w6.setCell ⟨g7, 2, none⟩ (.string (s1 ++ X ++ s3))).drew = x := ⟨_, rfl⟩
          rw [hw9] at B9 ⊢
          replace B9 : Aside0 (Sep w0 w9 (Blk g7 34 #[.int .i32 nm, .int .i64 ar, .string (s1 ++ X ++ s3)] :: uB gu pg mo (some ⟨ga, 0, none⟩) n c2 :: RowU (.slice (some ⟨ga, 0, none⟩) n c2) fs :: uZ gr :: tuB gt wh fn at_ N tx :: F)) := B9
          clear hw9 x2 xd xf t0 t2 t3 sl1 sl2 sl3 ad1 ad2 ad3 ad4 hma hmb hmc
          have x0 := (B9.out.cell 0).trans rfl
          have x1 := (B9.out.cell 1).trans rfl
          have x2 := (B9.out.cell 2).trans rfl
          have v2 := (B9.out.at2.cell 2).trans rfl
          obtain ⟨d0, f0, d1, f1, d2, f2, hS11⟩ := fnStore (f2 := ⟨nm, ar, s1 ++ X ++ s3⟩) B9.out.at3 HFK.out
          have B10 := Aside0.mk hS11.at2.tail.at2
          clear hS11
          go_upto_region 27 with fail
          obtain ⟨w10, hw10⟩ : ∃ x, ((w9.setCell ⟨ga, k * 3, none⟩ (.int .i32 (nm))).setCell ⟨ga, k * 3 + 1, none⟩ (.int .i64 (ar))).setCell ⟨ga, k * 3 + 2, none⟩ (.string (s1 ++ X ++ s3)) = x := ⟨_, rfl⟩
          have B11 : Aside0 (Sep w0 w10 (uB gu pg mo (some ⟨ga, 0, none⟩) n c2 :: RowU (.slice (some ⟨ga, 0, none⟩) n c2) (fs.set k ⟨nm, ar, s1 ++ X ++ s3⟩) :: uZ gr :: tuB gt wh fn at_ N tx :: F)) := ⟨by rw [← hw10]; exact B10.out⟩
          rw [hw10]
          clear hw10 x0 x1 x2 v2 d0 f0 d1 f1 d2 f2 B10
          have q0 := (B11.out.cell 0).trans rfl
          have q1 := (B11.out.cell 1).trans rfl
          have q2 := (B11.out.cell 2).trans rfl
          obtain ⟨d0, f0, d1, f1, d2, f2, hS10⟩ := store3 (.int .i64 (pg)) (.int .i64 (mo)) (.slice (some ⟨ga, 0, none⟩) (n) c2) B11.out.at3
          have q3 := (hS10.cell 0).trans rfl
          have q4 := (hS10.cell 1).trans rfl
          have q5 := (hS10.cell 2).trans rfl
          have BZ := Aside0.mk (hS10.at3.drop2.tail2)
          clear hS10
          go_wp2_with fail
          refine bodyPost_ret (v := uV (pg) (mo) (some ⟨ga, 0, none⟩) (n) c2) (by rw [results_cell1 rfl]; go_simp) rfl ?_
          exact ⟨_, rfl, pg, mo, (some ⟨ga, 0, none⟩), n, c2, fs.set k ⟨nm, ar, s1 ++ X ++ s3⟩, rfl, by rw [List.length_set]; exact HM.out.2.2.2, by omega, fun f hf => by
              rcases List.mem_or_eq_of_mem_set hf with hf | rfl
              · exact Nat.le_trans (HM.out.1 f hf) (by omega)
              · show (s1 ++ X ++ s3).size ≤ m + 12
                have := HZ.out; simp; omega, BZ.out⟩
        have hb2 : (r == 2) = false := by simp [hr2]
        by_cases hr3 : r = 3
        · subst hr3
          clear r0 r1 r2
          have x1c : w6.cell? ⟨g7, 1, none⟩ = some (.int .i64 ar) := (B7.out.cell 1).trans rfl
          have x1f : w6.frozen? ⟨g7, 1, none⟩ = false := B7.out.frozen 1
          have B9 := Aside0.mk (B7.out.setBlk 1 (.int .i64 N))
          go_upto_region 26 with fail
          obtain ⟨w9, hw9⟩ : ∃ x, w6.setCell ⟨g7, 1, none⟩ (.int .i64 N) = x := ⟨_, rfl⟩
          rw [hw9] at B9 ⊢
          replace B9 : Aside0 (Sep w0 w9 (Blk g7 34 #[.int .i32 nm, .int .i64 N, .string cd] :: uB gu pg mo (some ⟨ga, 0, none⟩) n c2 :: RowU (.slice (some ⟨ga, 0, none⟩) n c2) fs :: uZ gr :: tuB gt wh fn at_ N tx :: F)) := B9
          clear hw9 x1c x1f x2 xd xf t0 t2 t3 sl1 sl2 sl3 ad1 ad2 ad3 ad4 hma hmb hmc
          have x0 := (B9.out.cell 0).trans rfl
          have x1 := (B9.out.cell 1).trans rfl
          have x2 := (B9.out.cell 2).trans rfl
          have v2 := (B9.out.at2.cell 2).trans rfl
          obtain ⟨d0, f0, d1, f1, d2, f2, hS11⟩ := fnStore (f2 := ⟨nm, N, cd⟩) B9.out.at3 HFK.out
          have B10 := Aside0.mk hS11.at2.tail.at2
          clear hS11
          go_upto_region 27 with fail
          obtain ⟨w10, hw10⟩ : ∃ x, ((w9.setCell ⟨ga, k * 3, none⟩ (.int .i32 (nm))).setCell ⟨ga, k * 3 + 1, none⟩ (.int .i64 (N))).setCell ⟨ga, k * 3 + 2, none⟩ (.string (cd)) = x := ⟨_, rfl⟩
          have B11 : Aside0 (Sep w0 w10 (uB gu pg mo (some ⟨ga, 0, none⟩) n c2 :: RowU (.slice (some ⟨ga, 0, none⟩) n c2) (fs.set k ⟨nm, N, cd⟩) :: uZ gr :: tuB gt wh fn at_ N tx :: F)) := ⟨by rw [← hw10]; exact B10.out⟩
          rw [hw10]
          clear hw10 x0 x1 x2 v2 d0 f0 d1 f1 d2 f2 B10
          have q0 := (B11.out.cell 0).trans rfl
          have q1 := (B11.out.cell 1).trans rfl
          have q2 := (B11.out.cell 2).trans rfl
          obtain ⟨d0, f0, d1, f1, d2, f2, hS10⟩ := store3 (.int .i64 (pg)) (.int .i64 (mo)) (.slice (some ⟨ga, 0, none⟩) (n) c2) B11.out.at3
          have q3 := (hS10.cell 0).trans rfl
          have q4 := (hS10.cell 1).trans rfl
          have q5 := (hS10.cell 2).trans rfl
          have BZ := Aside0.mk (hS10.at3.drop2.tail2)
          clear hS10
          go_wp2_with fail
          refine bodyPost_ret (v := uV (pg) (mo) (some ⟨ga, 0, none⟩) (n) c2) (by rw [results_cell1 rfl]; go_simp) rfl ?_
          exact ⟨_, rfl, pg, mo, (some ⟨ga, 0, none⟩), n, c2, fs.set k ⟨nm, N, cd⟩, rfl, by rw [List.length_set]; exact HM.out.2.2.2, by omega, fun f hf => by
              rcases List.mem_or_eq_of_mem_set hf with hf | rfl
              · exact Nat.le_trans (HM.out.1 f hf) (by omega)
              · show cd.size ≤ m + 12
                have := HZ.out; omega, BZ.out⟩
        have hb3 : (r == 3) = false := by simp [hr3]
        obtain ⟨N2, hN2⟩ : ∃ x, IntKind.i32.wrap N = x := ⟨_, rfl⟩
        have hN3 : wrap32 N = N2 := by rw [← hN2]; exact (i32_w N).symm
        have x1c : w6.cell? ⟨g7, 0, none⟩ = some (.int .i32 nm) := (B7.out.cell 0).trans rfl
        have x1f : w6.frozen? ⟨g7, 0, none⟩ = false := B7.out.frozen 0
        have B9 := Aside0.mk (B7.out.setBlk 0 (.int .i32 N2))
        go_upto_region 26 with fail
        obtain ⟨w9, hw9⟩ : ∃ x, w6.setCell ⟨g7, 0, none⟩ (.int .i32 N2) = x := ⟨_, rfl⟩
        rw [hw9] at B9 ⊢
        replace B9 : Aside0 (Sep w0 w9 (Blk g7 34 #[.int .i32 N2, .int .i64 ar, .string cd] :: uB gu pg mo (some ⟨ga, 0, none⟩) n c2 :: RowU (.slice (some ⟨ga, 0, none⟩) n c2) fs :: uZ gr :: tuB gt wh fn at_ N tx :: F)) := B9
        clear hw9 x1c x1f x2 xd xf t0 t2 t3 sl1 sl2 sl3 ad1 ad2 ad3 ad4 hma hmb hmc hN2 hN3
        have x0 := (B9.out.cell 0).trans rfl
        have x1 := (B9.out.cell 1).trans rfl
        have x2 := (B9.out.cell 2).trans rfl
        have v2 := (B9.out.at2.cell 2).trans rfl
        obtain ⟨d0, f0, d1, f1, d2, f2, hS11⟩ := fnStore (f2 := ⟨N2, ar, cd⟩) B9.out.at3 HFK.out
        have B10 := Aside0.mk hS11.at2.tail.at2
        clear hS11
        go_upto_region 27 with fail
        obtain ⟨w10, hw10⟩ : ∃ x, ((w9.setCell ⟨ga, k * 3, none⟩ (.int .i32 (N2))).setCell ⟨ga, k * 3 + 1, none⟩ (.int .i64 (ar))).setCell ⟨ga, k * 3 + 2, none⟩ (.string (cd)) = x := ⟨_, rfl⟩
        have B11 : Aside0 (Sep w0 w10 (uB gu pg mo (some ⟨ga, 0, none⟩) n c2 :: RowU (.slice (some ⟨ga, 0, none⟩) n c2) (fs.set k ⟨N2, ar, cd⟩) :: uZ gr :: tuB gt wh fn at_ N tx :: F)) := ⟨by rw [← hw10]; exact B10.out⟩
        rw [hw10]
        clear hw10 x0 x1 x2 v2 d0 f0 d1 f1 d2 f2 B10
        have q0 := (B11.out.cell 0).trans rfl
        have q1 := (B11.out.cell 1).trans rfl
        have q2 := (B11.out.cell 2).trans rfl
        obtain ⟨d0, f0, d1, f1, d2, f2, hS10⟩ := store3 (.int .i64 (pg)) (.int .i64 (mo)) (.slice (some ⟨ga, 0, none⟩) (n) c2) B11.out.at3
        have q3 := (hS10.cell 0).trans rfl
        have q4 := (hS10.cell 1).trans rfl
        have q5 := (hS10.cell 2).trans rfl
        have BZ := Aside0.mk (hS10.at3.drop2.tail2)
        clear hS10
        go_wp2_with fail
        refine bodyPost_ret (v := uV (pg) (mo) (some ⟨ga, 0, none⟩) (n) c2) (by rw [results_cell1 rfl]; go_simp) rfl ?_
        exact ⟨_, rfl, pg, mo, (some ⟨ga, 0, none⟩), n, c2, fs.set k ⟨N2, ar, cd⟩, rfl, by rw [List.length_set]; exact HM.out.2.2.2, by omega, fun f hf => by
            rcases List.mem_or_eq_of_mem_set hf with hf | rfl
            · exact Nat.le_trans (HM.out.1 f hf) (by omega)
            · show cd.size ≤ m + 12
              have := HZ.out; omega, BZ.out⟩
end
end Go.Proofs.Ytkkgfpdjlohojaa.Keep
