/- Keep9, Open, OpenRow, OpenTurns, Nest4, Nest5: what NestTells needs. -/
import Derived.Test.YtkkgfpdjlohojaaTnestTells9
import Derived.Test.YtkkgfpdjlohojaaProg
import Derived.WalkKit
import Derived.ProofKit
import Derived.OpenShut
import Derived.ShutString
import Derived.ChangeOld
import Derived.Below
import Derived.SizedLaws
import Derived.Deep.Slices
import Derived.ChangeSame
import Derived.ChangeArms
import Derived.Deep.LoopGhost
set_option linter.unusedVariables false
set_option linter.unusedSimpArgs false
namespace Go.Proofs.Ytkkgfpdjlohojaa.Keep
open Go.RowKit Go.Proofs.YtkkgfpdjlohojaaW.PrintWords Go.Proofs.YtkkgfpdjlohojaaW.PrintLast Go.Proofs.YtkkgfpdjlohojaaW.PrintMore Go.Proofs.Ytkkgfpdjlohojaa.Kit
open Go.Proofs.Ytkkgfpdjlohojaa.Fn (RetB FC Fnc cellF uV uB)
open Go.Proofs.Ytkkgfpdjlohojaa.Tape Go.Proofs.Ytkkgfpdjlohojaa.Tok Go.Proofs.Ytkkgfpdjlohojaa.NestP Go.Proofs.Ytkkgfpdjlohojaa.TokP
structure Tu where
  wh : Int
  fn : Int
  pl : Int
  num : Int
  txt : ByteArray
def cellTu (t : Tu) : List Value := [.int .i64 t.wh, .int .i64 t.fn, .int .i64 t.pl, .int .i64 t.num, .string t.txt]
def TuC (W : World) (A : Option Addr) (n : Nat) (l : List Tu) : Prop := (Kd.raw 5).C W A n (l.map cellTu)
theorem TuC.len {W : World} {A : Option Addr} {n : Nat} {l : List Tu} (h : TuC W A n l) : l.length = n := by
  have := h.1
  rwa [List.length_map] at this
theorem TuC.lt {W : World} {A : Option Addr} {n : Nat} {l : List Tu} (h : TuC W A n l) : n ≤ 9223372036854775807 := h.2.1
theorem TuC.at_ {W : World} {A : Option Addr} {n : Nat} {l : List Tu} (h : TuC W A n l) {i : Nat} (hi : i < n) :
    ∃ (a : Addr) (t : Tu), A = some a ∧ W.cell? (a.add (i * 5)) = some (.int .i64 t.wh) ∧ W.cell? ⟨(a.add (i * 5)).block, (a.add (i * 5)).off + 1, none⟩ = some (.int .i64 t.fn) ∧ W.cell? ⟨(a.add (i * 5)).block, (a.add (i * 5)).off + 2, none⟩ = some (.int .i64 t.pl) ∧
      W.cell? ⟨(a.add (i * 5)).block, (a.add (i * 5)).off + 3, none⟩ = some (.int .i64 t.num) ∧ W.cell? ⟨(a.add (i * 5)).block, (a.add (i * 5)).off + 4, none⟩ = some (.string t.txt) := by
  obtain ⟨hx, a, cs, ha, hK, h0, hj⟩ := elem_ h hi
  have hl : i < l.length := by rw [h.len]; exact hi
  have hK1 : cs = (l.map cellTu)[i] := hK.1
  rw [List.getElem_map] at hK1
  subst hK1
  exact ⟨a, l[i], ha, h0 _ rfl, hj 1 _ (by decide) rfl, hj 2 _ (by decide) rfl, hj 3 _ (by decide) rfl, hj 4 _ (by decide) rfl⟩
section
variable {w0 W : World} {F : List HP} {A Tt : Option Addr} {n c tn tc : Nat} {fs : List Fnc} {ts : List Tu} {pg mo : Int}
theorem oddQ_ {gu gr m : Nat} (h : Sep w0 W (uB gu pg mo A n c :: RowU (.slice A n c) fs :: uZ gr :: F)) (hn : n ≤ 1000) (hm : ∀ f ∈ fs, f.code.size ≤ m) (hm1 : 12 ≤ m) (hm2 : m ≤ 100000) (wh fn at_ N : Int) (tx : ByteArray) :
    Calls Try.prog 18 #[uV pg mo A n c, .agg #[.int .i64 wh, .int .i64 fn, .int .i64 at_, .int .i64 N, .string tx]] W fun e w' => ∃ v, e = .returned v ∧ OddP w0 w' (uB gu pg mo A n c :: RowU (.slice A n c) fs :: uZ gr :: F) v (n + 1) (m + 12) :=
  odd_ (fun W' h' => h'.at2.rowC') h hn hm hm1 hm2 wh fn at_ N tx
set_option maxHeartbeats 6400000 in
set_option maxRecDepth 100000 in
theorem oddAll_ (hT : ∀ W', Sep w0 W' F → TuC W' Tt tn ts) (h : Sep w0 W (RowU (.slice A n c) fs :: F)) (hn : n ≤ 100) (hm : ∀ f ∈ fs, f.code.size ≤ 600) :
    Calls Try.prog 10 #[uV pg mo A n c, .slice Tt tn tc] W fun e w' => ∃ v, e = .returned v ∧ OddP w0 w' F v 1000 1000 := by
  have hfl : fs.length = n := by have := h.rowC.1; rw [List.length_map] at this; exact this.symm
  have hnm : tn ≤ 9223372036854775807 := (hT W h.tail).lt
  have h1 := (h.newBlk 30 #[.int .i64 pg, .int .i64 mo, .slice A n c]).newBlk 30 #[.int .i64 0, .int .i64 0, .slice none 0 0]
  rw [NestR.alloc_size] at h1
  have H1 := Aside0.mk h1.to3
  have HT := Aside0.mk hT
  have HF0 := Aside0.mk (And.intro hfl (And.intro hn hm))
  clear h h1 hT hfl hn hm
  go_enter Try.func10, Try.ntmps10
  go_wp2_with fail
  obtain ⟨w1, hw1⟩ : ∃ x, (W.alloc (.cells #[.int .i64 pg, .int .i64 mo, .slice A n c] 30)).alloc (.cells #[.int .i64 0, .int .i64 0, .slice none 0 0] 30) = x := ⟨_, rfl⟩
  obtain ⟨gu, hgu⟩ : ∃ x, W.heap.size = x := ⟨_, rfl⟩
  rw [hw1, hgu] at H1
  rw [hw1, hgu]
  obtain ⟨gr, hgr⟩ : ∃ x, gu + 1 = x := ⟨_, rfl⟩
  rw [hgr] at H1
  rw [hgr]
  clear hw1 hgu hgr
  have H2 : Aside0 (Sep w0 w1 (uB gu pg mo A n c :: RowU (.slice A n c) fs :: uZ gr :: F)) := ⟨H1.out⟩
  clear H1
  go_loopg [5] 4 (fun m q wr => ∃ (i : Nat) (pg mo : Int) (A : Option Addr) (n c : Nat) (fs : List Fnc), i + m = 4 ∧ q = .int .i64 (i : Int) ∧ fs.length = n ∧ n ≤ 100 + i ∧ (∀ f ∈ fs, f.code.size ≤ 600 + 12 * i) ∧ Sep w0 wr (uB gu pg mo A n c :: RowU (.slice A n c) fs :: uZ gr :: F))
  case atStart => exact ⟨0, pg, mo, A, n, c, fs, rfl, rfl, HF0.out.1, HF0.out.2.1, HF0.out.2.2, H2.out⟩
  case round =>
    obtain ⟨i, pg, mo, A, n, c, fs, him, rfl, hfl, hnn, hsz, hS⟩ := hrel
    have AI := Aside0.mk him
    have HF := Aside0.mk (And.intro hfl (And.intro hnn hsz))
    have B1 := Aside0.mk hS
    have fin : (u : Unit) → True := fun _ => trivial
    clear hfl hsz
    by_cases hgo : i < tn ∧ i < 4
    · obtain ⟨hi, h4⟩ := hgo
      have hij : (i : Int) < (tn : Int) := by omega
      have h4i : (i : Int) < 4 := by omega
      obtain ⟨ad, t, rfl, z0, z1, z2, z3, z4⟩ := (HT.out _ hS.tail.tail.tail).at_ hi
      obtain ⟨wh, h_⟩ : ∃ x, t.wh = x := ⟨_, rfl⟩
      rw [h_] at z0; clear h_
      obtain ⟨fn, h_⟩ : ∃ x, t.fn = x := ⟨_, rfl⟩
      rw [h_] at z1; clear h_
      obtain ⟨pl, h_⟩ : ∃ x, t.pl = x := ⟨_, rfl⟩
      rw [h_] at z2; clear h_
      obtain ⟨num, h_⟩ : ∃ x, t.num = x := ⟨_, rfl⟩
      rw [h_] at z3; clear h_
      obtain ⟨tx, h_⟩ : ∃ x, t.txt = x := ⟨_, rfl⟩
      rw [h_] at z4; clear h_
      have BD := Aside0.mk hS.drew
      have u0 : wr.drew.cell? ⟨gu, 0, none⟩ = some (.int .i64 pg) := (BD.out.cell 0).trans rfl
      have u1 : wr.drew.cell? ⟨gu, 1, none⟩ = some (.int .i64 mo) := (BD.out.cell 1).trans rfl
      have u2 : wr.drew.cell? ⟨gu, 2, none⟩ = some (.slice A n c) := (BD.out.cell 2).trans rfl
      have z0d : wr.drew.cell? (ad.add (i * 5)) = _ := z0
      have z1d : wr.drew.cell? ⟨(ad.add (i * 5)).block, (ad.add (i * 5)).off + 1, none⟩ = _ := z1
      have z2d : wr.drew.cell? ⟨(ad.add (i * 5)).block, (ad.add (i * 5)).off + 2, none⟩ = _ := z2
      have z3d : wr.drew.cell? ⟨(ad.add (i * 5)).block, (ad.add (i * 5)).off + 3, none⟩ = _ := z3
      have z4d : wr.drew.cell? ⟨(ad.add (i * 5)).block, (ad.add (i * 5)).off + 4, none⟩ = _ := z4
      have hn1 : n ≤ 1000 := by omega
      have hm1 : 600 + 12 * i ≤ 100000 := by omega
      have HI := Aside0.mk (And.intro hi h4)
      clear hS z0 z1 z2 z3 z4 him hnn
      go_wp2_with fail
      refine start_ (n := 7) (S := fun w' => w'.cell? ⟨gu, 0, none⟩ = some (.int .i64 pg) ∧ w'.cell? ⟨gu, 1, none⟩ = some (.int .i64 mo) ∧ w'.cell? ⟨gu, 2, none⟩ = some (.slice A n c) ∧ w'.cell? (ad.add (i * 5)) = some (.int .i64 wh) ∧ w'.cell? ⟨(ad.add (i * 5)).block, (ad.add (i * 5)).off + 1, none⟩ = some (.int .i64 fn) ∧ w'.cell? ⟨(ad.add (i * 5)).block, (ad.add (i * 5)).off + 2, none⟩ = some (.int .i64 pl) ∧ w'.cell? ⟨(ad.add (i * 5)).block, (ad.add (i * 5)).off + 3, none⟩ = some (.int .i64 num) ∧ w'.cell? ⟨(ad.add (i * 5)).block, (ad.add (i * 5)).off + 4, none⟩ = some (.string tx)) (ds := [5, 6]) #[Z,Z,Z,Z,Z,Z,Z] (by kernel_rfl) rfl rfl ⟨u0, u1, u2, z0d, z1d, z2d, z3d, z4d⟩ (fun hHeld => ?_)
      refine pu_ 1 17 ?_ #[Z,J,Z,Z,Z,Z,Z] rfl rfl ?_ ?_ ?_ ?_
      rotate_left
      · intro w'
        go_simp
        with_reducible rfl
      rotate_left
      · simp only [aP]
        rfl
      refine pu_ 2 18 ?_ #[Z,J,J,Z,Z,Z,Z] rfl rfl ?_ ?_ ?_ ?_
      rotate_left
      · intro w'
        go_simp
        with_reducible rfl
      rotate_left
      · simp only [aP]
        rfl
      refine pu_ 3 19 ?_ #[Z,J,J,J,Z,Z,Z] rfl rfl ?_ ?_ ?_ ?_
      rotate_left
      · intro w'
        go_simp
        with_reducible rfl
      rotate_left
      · simp only [aP]
        rfl
      refine ta_ 0 16 ?_ #[J,J,J,J,Z,Z,Z] rfl rfl ?_ hHeld ?_ ?_ ?_
      rotate_left
      · rintro w' ⟨s0, s1, s2, s3, s4, s5, s6, s7⟩
        go_simp
        with_reducible rfl
      rotate_left
      · simp only [aP]
        rfl
      refine ta_ 4 20 ?_ #[J,J,J,J,J,Z,Z] rfl rfl ?_ hHeld ?_ ?_ ?_
      rotate_left
      · rintro w' ⟨s0, s1, s2, s3, s4, s5, s6, s7⟩
        go_simp
        with_reducible rfl
      rotate_left
      · simp only [aP]
        rfl
      refine last_ (i := 5) (N := some 21) #[J,J,J,J,J,J,Z] rfl rfl (by kernel_rfl) (by decide) (fun K hK => ?_)
      refine goes_ Try.func18 (by kernel_rfl) rfl #[.agg #[.int .i64 pg, .int .i64 mo, .slice A n c], .agg #[.int .i64 wh, .int .i64 fn, .int .i64 pl, .int .i64 num, .string tx]] (by rfl) rfl rfl (by simp only [List.map_toArray, List.map_cons, List.map_nil]; rfl) ?_
      with_reducible refine (oddQ_ (m := 600 + 12 * i) BD.out hn1 HF.out.2.2 (by omega) hm1 wh fn pl num tx).mono ?_
      rintro e w5 ⟨v5, rfl, pg2, mo2, A5, n5, c5, fs5, rfl, hl5, hn5, hs5, hS5⟩
      refine ⟨_, rfl, ?_⟩
      obtain ⟨d0, f0, d1, f1, d2, f2, hS6⟩ := store3 (.int .i64 pg2) (.int .i64 mo2) (.slice A5 n5 c5) hS5.at2
      have B6 := Aside0.mk (hS6.at3.tail)
      have H5 := Aside0.mk (And.intro hl5 (And.intro hn5 hs5))
      clear hS5 hS6 hl5 hn5 hs5
      refine hK.out _ _ ?_
      clear hK K
      refine norm_ (a' := ?_) ?_ ?_
      rotate_left
      · show Act.put _ (some 21) _ = _
        simp only [aP]
        rfl
      refine last_ (i := 6) (N := none) #[J,J,J,J,J,J,J] rfl rfl (by kernel_rfl) (by decide) (fun K hK => ?_)
      refine skip_ (w1 := ?_) (by rfl) rfl ?_ ?_
      rotate_left
      · go_simp
        rfl
      refine hK.out _ _ ?_
      clear hK K
      refine done_ (by kernel_rfl) ?_
      have B7 : Aside0 (Sep w0 (((w5.setCell ⟨gu, 0, none⟩ (.int .i64 pg2)).setCell ⟨gu, 1, none⟩ (.int .i64 mo2)).setCell ⟨gu, 2, none⟩ (.slice A5 n5 c5)) (uB gu pg2 mo2 A5 n5 c5 :: RowU (.slice A5 n5 c5) fs5 :: uZ gr :: F)) := ⟨B6.out⟩
      clear B6 d0 f0 d1 f1 d2 f2
      go_wp2_with fail
      go_roundg (gk - 1)
      case measure => have := AI.out; have := HI.out; omega
      case rel => exact ⟨i + 1, pg2, mo2, A5, n5, c5, fs5, by have := AI.out; have := HI.out; omega, by go_num, H5.out.1, by have := H5.out.2.1; have := HF.out.2.1; omega, fun f hf => by have := H5.out.2.2 f hf; omega, B7.out⟩
    · have q0 := (B1.out.cell 0).trans rfl
      have q1 := (B1.out.cell 1).trans rfl
      have q2 := (B1.out.cell 2).trans rfl
      obtain ⟨d0, f0, d1, f1, d2, f2, hS10⟩ := store3 (.int .i64 pg) (.int .i64 mo) (.slice A n c) B1.out.at3
      have q3 := (hS10.cell 0).trans rfl
      have q4 := (hS10.cell 1).trans rfl
      have q5 := (hS10.cell 2).trans rfl
      have BZ := Aside0.mk (hS10.at3.drop2.drop2)
      have hi4 : i ≤ 4 := by omega
      have HB := Aside0.mk (And.intro hnn hi4)
      by_cases hi : i < tn
      · have hij : (i : Int) < (tn : Int) := by omega
        have h4i : ¬ (i : Int) < 4 := by omega
        clear hS hS10 him hgo
        go_wp2_with fail
        refine bodyPost_ret (v := uV pg mo A n c) (by rw [results_cell1 rfl]; go_simp) rfl ?_
        exact ⟨_, rfl, pg, mo, A, n, c, fs, rfl, HF.out.1, by have := HB.out; omega, fun f hf => by have := HF.out.2.2 f hf; have := HB.out; omega, BZ.out⟩
      · have hij : ¬ (i : Int) < (tn : Int) := by omega
        clear hS hS10 him hgo
        go_wp2_with fail
        refine bodyPost_ret (v := uV pg mo A n c) (by rw [results_cell1 rfl]; go_simp) rfl ?_
        exact ⟨_, rfl, pg, mo, A, n, c, fs, rfl, HF.out.1, by have := HB.out; omega, fun f hf => by have := HF.out.2.2 f hf; have := HB.out; omega, BZ.out⟩
end
end Go.Proofs.Ytkkgfpdjlohojaa.Keep
namespace Go.Proofs.Ytkkgfpdjlohojaa.Kit
open Go.ChangeShapes Go.WideShapes Go.ChangeAt Go.RowKit Go.Proofs.YtkkgfpdjlohojaaW.PrintWords
section
variable {H : Type} {enc : TypeId × Value → H} {P : Program} {W : World} {base : Nat} {sp : Nat → Bool} {held : Bool}
theorem ints_C {T E : TypeId} {k : IntKind} {a : Option Addr} {len cap : Nat} {d : DataW H} {p : List MemPlace} (hT : P.underlying T = some (.slice E)) (hE : P.underlying E = some (.int k)) (hc : P.cellsOf E = 1)
    (h : DataW.Trod enc P W base (fun _ => true) held T (.slice a len cap) d p) : ∃ xs : List Int, len ≤ cap ∧ (Kd.int k).C W a len xs ∧ ∀ n ∈ xs, (Lit.int k n).wf = true := by
  obtain ⟨fuel, hf⟩ := h
  rcases open_ints hT hE hc hf with ⟨hcs, _⟩ | ⟨x, l, c, zs, hcs, _, hl, hm, hz, _, hcell, hwz⟩
  · simp [Value.cells] at hcs
    obtain ⟨rfl, rfl, rfl⟩ := hcs
    exact ⟨[], Nat.le_refl _, Kd.C_nil _ _, by simp⟩
  · simp [Value.cells] at hcs
    obtain ⟨rfl, rfl, rfl⟩ := hcs
    simp at hz
    simp only [maxLen] at hm
    refine ⟨zs.take len, hl, Kd.C_of_reads (d := (0 : Int)) (h1 := fun _ => rfl) ⟨by rw [List.length_take]; omega, by omega, fun h0 => ⟨x, rfl, fun j hj => ?_⟩⟩, fun n hn => hwz n (List.mem_of_mem_take hn)⟩
    rw [hcell j (by omega), List.getD_eq_getElem?_getD, List.getD_eq_getElem?_getD, List.getElem?_take, if_pos hj]
end
end Go.Proofs.Ytkkgfpdjlohojaa.Kit
namespace Go.Proofs.Ytkkgfpdjlohojaa.Kit
open Go.ChangeShapes Go.WideShapes Go.ChangeAt Go.RowKit Go.Proofs.YtkkgfpdjlohojaaW.PrintWords
theorem add_twice (a : Addr) (m j : Nat) : (a.add m).add j = a.add (m + j) := by
  unfold Addr.add
  by_cases h1 : m = 0
  · subst h1; simp
  · by_cases h2 : j = 0
    · subst h2; simp
    · simp [h1, h2]; omega
theorem C_each {α : Type} {d : Kd α} {W : World} {A : Option Addr} {n : Nat} (hn : n ≤ 9223372036854775807) {Q : α → Prop}
    (h : ∀ i, i < n → ∃ (ad : Addr) (x : α) (cs : List Value), A = some ad ∧ cs.length = d.sz ∧ d.K W x cs ∧ Q x ∧ ∀ (j : Nat) u, cs[j]? = some u → W.cell? (ad.add (i * d.sz + j)) = some u) : ∃ xs : List α, d.C W A n xs ∧ ∀ x ∈ xs, Q x := by
  have hm : ∀ m, m ≤ n → ∃ xs : List α, xs.length = m ∧ ∀ (i : Nat) x, xs[i]? = some x → Q x ∧ ∃ (ad : Addr) (cs : List Value), A = some ad ∧ cs.length = d.sz ∧ d.K W x cs ∧ ∀ (j : Nat) u, cs[j]? = some u → W.cell? (ad.add (i * d.sz + j)) = some u := by
    intro m
    induction m with
    | zero => exact fun _ => ⟨[], rfl, fun i x hx => by simp at hx⟩
    | succ m ih =>
      intro hle
      obtain ⟨xs, hl, hx⟩ := ih (by omega)
      obtain ⟨ad, x, cs, h1, h2, h3, h4, h5⟩ := h m (by omega)
      refine ⟨xs ++ [x], by simp [hl], fun i y hy => ?_⟩
      by_cases hi : i < m
      · rw [List.getElem?_append_left (by omega)] at hy
        exact hx i y hy
      · have : i = m := by
          have := (List.getElem?_eq_some_iff.1 hy).1
          simp [hl] at this; omega
        subst this
        rw [List.getElem?_append_right (by omega), hl, Nat.sub_self] at hy
        simp at hy
        subst hy
        exact ⟨h4, ad, cs, h1, h2, h3, h5⟩
  obtain ⟨xs, hl, hx⟩ := hm n (Nat.le_refl _)
  refine ⟨xs, ⟨hl, hn, fun hp => ?_⟩, fun x hm => ?_⟩
  · obtain ⟨ad, _, _, e, _⟩ := h 0 hp
    refine ⟨ad, e, fun j x hj => ?_⟩
    obtain ⟨_, ad2, cs, e2, h2, h3, h5⟩ := hx j x hj
    rw [e] at e2
    cases e2
    exact ⟨cs, h2, h3, h5⟩
  · obtain ⟨i, hi⟩ := List.getElem?_of_mem hm
    exact (hx i x hi).1
section
variable {H : Type} {enc : TypeId × Value → H} {P : Program} {W : World} {base : Nat} {held : Bool}
theorem slice_cell {α : Type} {T E : TypeId} {d : Kd α} {Q : α → Prop} {fuel : Nat} {v : Value} {y : DataW H × List MemPlace} (hT : P.underlying T = some (.slice E)) (hc : P.cellsOf E = d.sz)
    (hK : ∀ (cs : List Value) (fuel : Nat) (y : DataW H × List MemPlace), cs.length = d.sz → DataW.trod enc P W base (fun _ => true) held fuel E cs = some y → ∃ x, d.K W x cs ∧ Q x)
    (h : DataW.trod enc P W base (fun _ => true) held fuel T [v] = some y) : ∃ A m c xs, v = .slice A m c ∧ m ≤ c ∧ d.C W A m xs ∧ ∀ x ∈ xs, Q x := by
  rcases Go.Deep.open_slice hT h with ⟨hcs, _⟩ | ⟨x, l, c, m, n, D, Pl, hcs, hb, hl, hm, hmm, hx, hi⟩
  · exact ⟨none, 0, 0, [], (List.cons.inj hcs).1, Nat.le_refl _, Kd.C_nil _ _, by simp⟩
  · simp at hmm
    simp only [maxLen] at hm
    obtain ⟨xs, h1, h2⟩ := C_each (d := d) (W := W) (A := some x) (n := l) (Q := Q) (by omega) (fun i hlt => by
      obtain ⟨cs', hc', ht'⟩ := hi i (by omega)
      obtain ⟨_, hcl, hat⟩ := World.cells?_some hc'
      rw [hc] at hcl hat
      obtain ⟨z, hz, hQ⟩ := hK cs' _ _ hcl ht'
      refine ⟨x, z, cs', rfl, hcl, hz, hQ, fun j u hj => ?_⟩
      have hjl := (List.getElem?_eq_some_iff.1 hj).1
      have := hat j (by omega)
      rw [add_twice, hj] at this
      exact this)
    exact ⟨some x, l, c, xs, (List.cons.inj hcs).1, hl, h1, h2⟩
theorem slice_open {α : Type} {T E : TypeId} {d : Kd α} {Q : α → Prop} {a : Option Addr} {len cap : Nat} {dd : DataW H} {p : List MemPlace} (hT : P.underlying T = some (.slice E)) (hc : P.cellsOf E = d.sz)
    (hK : ∀ (cs : List Value) (fuel : Nat) (y : DataW H × List MemPlace), cs.length = d.sz → DataW.trod enc P W base (fun _ => true) held fuel E cs = some y → ∃ x, d.K W x cs ∧ Q x)
    (h : DataW.Trod enc P W base (fun _ => true) held T (.slice a len cap) dd p) : ∃ xs : List α, len ≤ cap ∧ d.C W a len xs ∧ ∀ x ∈ xs, Q x := by
  obtain ⟨fuel, hf⟩ := h
  obtain ⟨A, m, c, xs, e, h1, h2, h3⟩ := slice_cell hT hc hK (v := .slice a len cap) hf
  cases e
  exact ⟨xs, h1, h2, h3⟩
end
end Go.Proofs.Ytkkgfpdjlohojaa.Kit
namespace Go.Proofs.Ytkkgfpdjlohojaa.Keep
open Go.ChangeShapes Go.WideShapes Go.ChangeAt Go.RowKit Go.Proofs.YtkkgfpdjlohojaaW.PrintWords Go.Proofs.Ytkkgfpdjlohojaa.Kit
theorem TuC_of {W : World} {A : Option Addr} {n : Nat} : ∀ {cs : List (List Value)}, (∀ c ∈ cs, ∃ t : Tu, c = cellTu t) → (Kd.raw 5).C W A n cs → ∃ l : List Tu, TuC W A n l := by
  intro cs hq hC
  have : ∃ l : List Tu, cs = l.map cellTu := by
    clear hC
    induction cs with
    | nil => exact ⟨[], rfl⟩
    | cons c cs ih =>
      obtain ⟨l, hl⟩ := ih fun c hc => hq c (List.mem_cons_of_mem _ hc)
      obtain ⟨t, ht⟩ := hq c (List.mem_cons_self ..)
      exact ⟨t :: l, by rw [hl, ht]; rfl⟩
  obtain ⟨l, rfl⟩ := this
  exact ⟨l, hC⟩
section
variable {H : Type} {enc : TypeId × Value → H} {W : World} {base : Nat} {held : Bool}
set_option maxRecDepth 100000 in
theorem turns_open {a : Option Addr} {len cap : Nat} {d : DataW H} {p : List MemPlace} (h : DataW.Trod enc Try.prog W base (fun _ => true) held 27 (.slice a len cap) d p) : ∃ l : List Tu, len ≤ cap ∧ TuC W a len l ∧ True := by
  have hh : ∃ xs : List (List Value), len ≤ cap ∧ (Kd.raw 5).C W a len xs ∧ ∀ x ∈ xs, ∃ t : Tu, x = cellTu t := by
    refine slice_open (d := Kd.raw 5) Try.underlying27 (by kernel_rfl) (fun cs fuel y hl ht => ?_) h
    obtain ⟨ys, n', _, _, hlen, hyl, hg⟩ := DataW.trod_struct Try.underlying52 ht
    match cs, hl with
    | [u0, u1, u2, u3, u4], _ =>
      match ys, hyl with
      | [y0, y1, y2, y3, y4], _ =>
        have g0 := hg 0 _ rfl
        have g1 := hg 1 _ rfl
        have g2 := hg 2 _ rfl
        have g3 := hg 3 _ rfl
        have g4 := hg 4 _ rfl
        have e1 : Try.prog.cellsOf 3 = 1 := by kernel_rfl
        have e2 : Try.prog.cellsOf 9 = 1 := by kernel_rfl
        simp [e1, e2] at g0 g1 g2 g3 g4
        obtain ⟨x0, q0, _, _⟩ := DataW.trod_int Try.underlying3 g0
        obtain ⟨x1, q1, _, _⟩ := DataW.trod_int Try.underlying3 g1
        obtain ⟨x2, q2, _, _⟩ := DataW.trod_int Try.underlying3 g2
        obtain ⟨x3, q3, _, _⟩ := DataW.trod_int Try.underlying3 g3
        obtain ⟨x4, q4, _, _⟩ := DataW.trod_string Try.underlying9 g4
        simp at q0 q1 q2 q3 q4
        subst q0 q1 q2 q3 q4
        exact ⟨[_, _, _, _, _], ⟨rfl, rfl, by simp [Value.oneCell']⟩, ⟨x0, x1, x2, x3, x4⟩, rfl⟩
  obtain ⟨xs, h1, h2, h3⟩ := hh
  obtain ⟨l, hl⟩ := TuC_of h3 h2
  exact ⟨l, h1, hl, trivial⟩
end
end Go.Proofs.Ytkkgfpdjlohojaa.Keep
namespace Go.Proofs.Ytkkgfpdjlohojaa.Nest
open Go.RowKit Go.Proofs.YtkkgfpdjlohojaaW.PrintWords Go.Proofs.YtkkgfpdjlohojaaW.PrintLast Go.Proofs.YtkkgfpdjlohojaaW.PrintMore Go.Proofs.Ytkkgfpdjlohojaa.Kit
open Go.Proofs.Ytkkgfpdjlohojaa.NestP
section
variable {w0 W : World} {F : List HP} {gm : Nat} {vt vo v : Value} {tt : List Int} {ps : List Pt} {p : Pt} {deep : Nat} {vs : List Value}
theorem popFin {ga N c : Nat} (hv : vs.length = ps.length) (h : Sep w0 W (MtS gm vt (.slice (some ⟨ga, 0, none⟩) N c) tt ps p deep vs v F)) :
    Sep w0 (W.setCell ⟨gm, 1, none⟩ (.slice (some ⟨ga, 0, none⟩) ps.length c)) (MtL gm vt (.slice (some ⟨ga, 0, none⟩) ps.length c) tt ps deep vs ++ F) := by
  have hl2 := rawC_len ps vs hv
  have h1 := Sep.setBlk (show Sep w0 W (Blk gm 69 #[vt, .slice (some ⟨ga, 0, none⟩) N c, .int .i64 (deep : Int)] :: _) from h) 1 (.slice (some ⟨ga, 0, none⟩) ps.length c)
  have h2 := Sep.rowTake (m := ps.length) (Sep.pull [_, _] h1) (by rw [List.length_append, hl2]; omega)
  rw [List.take_append_of_le_length (by omega), List.take_of_length_le (by omega)] at h2
  unfold MtL
  exact Sep.push [_, _] ((Sep.pull [_, _, _] h2).tail)
theorem capN {ga N c : Nat} (h : Sep w0 W (MtS gm vt (.slice (some ⟨ga, 0, none⟩) N c) tt ps p deep vs v F)) : N ≤ c ∧ N ≤ 9223372036854775807 := by
  have h1 := Sep.rowC' (show Sep w0 W (Row (Kd.raw 4) 92 (.slice (some ⟨ga, 0, none⟩) N c) _ :: _) from Sep.pull [_, _] h)
  have h2 := Sep.rowC (show Sep w0 W (Row (Kd.raw 4) 92 (.slice (some ⟨ga, 0, none⟩) N c) _ :: _) from Sep.pull [_, _] h)
  exact ⟨h2.2.1, h1.2.1⟩
set_option maxHeartbeats 1600000 in
theorem endIf_nil (h : Sep w0 W (MtL gm vt vo tt [] deep [] ++ F)) (i : Nat) : Calls Try.prog 42 #[.pointer (some ⟨gm, 0, none⟩), .int .i64 (i : Int)] W fun e w' => e = .returned (.bool false) ∧ W = w' := by
  have H := Aside0.mk h
  clear h
  go_enter Try.func42, Try.ntmps42
  go_wp2_with (go_at_call 46; refine (top_nil H.out).mono ?_; rintro e w1 ⟨rfl, rfl⟩)
  go_ret
  exact ⟨by first | rfl | (simp; done), rfl⟩
set_option maxHeartbeats 1600000 in
theorem endIf_no (hv : vs.length = ps.length) (h : Sep w0 W (MtL gm vt vo tt (ps ++ [p]) deep (vs ++ [v]) ++ F)) (i : Nat) (hn : p.loop = true) : Calls Try.prog 42 #[.pointer (some ⟨gm, 0, none⟩), .int .i64 (i : Int)] W fun e w' => e = .returned (.bool false) ∧ Sep w0 w' (MtL gm vt vo tt (ps ++ [p]) deep (vs ++ [v]) ++ F) := by
  obtain ⟨ga, c, rfl⟩ := topRow (hv := hv) (mts hv h)
  have H := Aside0.mk h
  have HV := Aside0.mk hv
  have HN := Aside0.mk hn
  clear h hv hn
  go_enter Try.func42, Try.ntmps42
  go_wp2_with (go_at_call 46; refine (top_some (n := ps.length) H.out rfl).mono ?_; rintro e w1 ⟨rfl, hS⟩; obtain ⟨z0, z1, z2, z3, zf⟩ := topCell HV.out (mts HV.out hS); rw [HN.out] at z0; replace hS := Aside0.mk hS)
  go_ret
  exact ⟨by first | rfl | (simp; done), hS.out⟩
set_option maxHeartbeats 3200000 in
set_option maxRecDepth 100000 in
theorem endIf_o (hv : vs.length = ps.length) (h : Sep w0 W (MtL gm vt vo tt (ps ++ [p]) deep (vs ++ [v]) ++ F)) (i : Nat) (hl : p.loop = false) (ho : 0 < p.oth) (hb : p.oth < tt.length) :
    Calls Try.prog 42 #[.pointer (some ⟨gm, 0, none⟩), .int .i64 (i : Int)] W fun e w' => e = .returned (.bool true) ∧ ∃ vo2, Sep w0 w' (MtL gm vt vo2 (tt.set p.oth (i : Int)) ps deep vs ++ F) := by
  obtain ⟨ga, c, rfl⟩ := topRow (hv := hv) (mts hv h)
  obtain ⟨gt, ct, rfl⟩ := topForm (mts hv h) (by omega)
  have HL := Aside0.mk hl
  obtain ⟨q, hq⟩ : ∃ q, p.oth = q := ⟨_, rfl⟩
  have HQ := Aside0.mk hq
  have hd : decide (0 < (q : Int)) = true := decide_eq_true (by omega)
  have hd2 : decide (0 < q) = true := decide_eq_true (by omega)
  have HV := Aside0.mk hv
  obtain ⟨N, hN⟩ : ∃ N, ps.length + 1 = N := ⟨_, rfl⟩
  rw [hN] at h
  have hNc := capN (mts hv h)
  have hw : wrap64 ((N : Int) - 1) = (ps.length : Int) := by rw [IntWalk.wrap64_in _ (by omega)]; omega
  have hcut := cutHi (z := (.agg #[.bool false, .int .i64 0, .int .i64 0, .slice none 0 0])) (sz := 4) (bytes := 48) Try.underlying67 infoPart (some ⟨ga, 0, none⟩) N c ps.length (K := (ps.length : Int)) rfl (by omega) hNc.1
  have HN := Aside0.mk hN
  have HB := Aside0.mk hb
  have H := Aside0.mk h
  clear h hv hl ho hNc hN
  go_enter Try.func42, Try.ntmps42
  go_wp2_with (go_at_call 46; refine (top_some (n := ps.length) H.out HN.out.symm).mono ?_; rintro e w1 ⟨rfl, hS⟩; obtain ⟨z0, z1, z2, z3, zf⟩ := topCell HV.out (mts HV.out (by rw [HN.out]; exact hS)); rw [HL.out] at z0; rw [HQ.out] at z2; have B1 := Aside0.mk (mts HV.out hS); clear hS)
  clear zf hb
  have c0 : w1.drew.cell? ⟨gm, 0, none⟩ = some (.slice (some ⟨gt, 0, none⟩) tt.length ct) := (Sep.cell (show Sep w0 w1.drew (Blk gm 69 #[.slice (some ⟨gt, 0, none⟩) tt.length ct, _, _] :: _) from B1.out.drew) 0).trans rfl
  have c1 : w1.drew.cell? ⟨ga, ps.length * 4 + 2, none⟩ = some (.int .i64 (q : Int)) := z2
  obtain ⟨f1, f2⟩ := Sep.rowCell (0 : Int) (Sep.pull [_] B1.out.drew) q (by have := HB.out; have := HQ.out; omega)
  have hit : (q : Int).toNat = q := rfl
  have hi1 : (q : Int) < (tt.length : Int) := by have := HB.out; have := HQ.out; omega
  clear z0 z1 z2 z3
  refine start_ (n := 11) (S := fun w' => w'.cell? ⟨gm, 0, none⟩ = some (.slice (some ⟨gt, 0, none⟩) tt.length ct) ∧ w'.cell? ⟨ga, ps.length * 4 + 2, none⟩ = some (.int .i64 (q : Int))) (ds := [10]) #[Z,Z,Z,Z,Z,Z,Z,Z,Z,Z,Z] (by kernel_rfl) rfl rfl ⟨c0, c1⟩ (fun hHeld => ?_)
  refine pu_ 0 21 ?_ #[J,Z,Z,Z,Z,Z,Z,Z,Z,Z,Z] rfl rfl ?_ ?_ ?_ ?_
  rotate_left
  · intro w'
    go_simp
    with_reducible rfl
  rotate_left
  · simp only [aP]
    rfl
  refine pu_ 1 22 ?_ #[J,J,Z,Z,Z,Z,Z,Z,Z,Z,Z] rfl rfl ?_ ?_ ?_ ?_
  rotate_left
  · intro w'
    go_simp
    with_reducible rfl
  rotate_left
  · simp only [aP]
    rfl
  refine pu_ 2 23 ?_ #[J,J,J,Z,Z,Z,Z,Z,Z,Z,Z] rfl rfl ?_ ?_ ?_ ?_
  rotate_left
  · intro w'
    go_simp
    with_reducible rfl
  rotate_left
  · simp only [aP]
    rfl
  refine pu_ 4 25 ?_ #[J,J,J,Z,J,Z,Z,Z,Z,Z,Z] rfl rfl ?_ ?_ ?_ ?_
  rotate_left
  · intro w'
    go_simp
    with_reducible rfl
  rotate_left
  · simp only [aP]
    rfl
  refine pu_ 5 26 ?_ #[J,J,J,Z,J,J,Z,Z,Z,Z,Z] rfl rfl ?_ ?_ ?_ ?_
  rotate_left
  · intro w'
    go_simp
    with_reducible rfl
  rotate_left
  · simp only [aP]
    rfl
  refine pu_ 6 27 ?_ #[J,J,J,Z,J,J,J,Z,Z,Z,Z] rfl rfl ?_ ?_ ?_ ?_
  rotate_left
  · intro w'
    go_simp
    with_reducible rfl
  rotate_left
  · simp only [aP]
    rfl
  refine pu_ 8 29 ?_ #[J,J,J,Z,J,J,J,Z,J,Z,Z] rfl rfl ?_ ?_ ?_ ?_
  rotate_left
  · intro w'
    go_simp
    with_reducible rfl
  rotate_left
  · simp only [aP]
    rfl
  refine ta_ 3 24 ?_ #[J,J,J,J,J,J,J,Z,J,Z,Z] rfl rfl ?_ hHeld ?_ ?_ ?_
  rotate_left
  · rintro w' ⟨s0, s1⟩
    go_simp
    with_reducible rfl
  rotate_left
  · simp only [aP]
    rfl
  refine ta_ 7 28 ?_ #[J,J,J,J,J,J,J,J,J,Z,Z] rfl rfl ?_ hHeld ?_ ?_ ?_
  rotate_left
  · rintro w' ⟨s0, s1⟩
    go_simp
    with_reducible rfl
  rotate_left
  · simp only [aP]
    rfl
  refine pu_ 9 30 ?_ #[J,J,J,J,J,J,J,J,J,J,Z] rfl rfl ?_ ?_ ?_ ?_
  rotate_left
  · intro w'
    go_simp
    with_reducible rfl
  rotate_left
  · simp only [aP]
    rfl
  refine last_ (i := 10) (N := none) #[J,J,J,J,J,J,J,J,J,J,J] rfl rfl (by kernel_rfl) (by decide) (fun K hK => ?_)
  refine skip_ (w1 := ?_) (by rfl) rfl ?_ ?_
  rotate_left
  · go_simp
    rfl
  refine hK.out _ _ ?_
  clear hK K
  refine done_ (by kernel_rfl) ?_
  have B2 := Aside0.mk ((Sep.pull [_] B1.out).putRow (enc := Value.int .i64) q (i : Int)).drew
  obtain ⟨w2, hw2⟩ : ∃ x, (w1.setCell ⟨gt, q, none⟩ (.int .i64 (i : Int))).drew = x := ⟨_, rfl⟩
  rw [hw2] at B2 ⊢
  clear hw2 c0 c1 f1 f2 hit hi1
  have B3 : Aside0 (Sep w0 w2 (MtS gm (.slice (some ⟨gt, 0, none⟩) tt.length ct) (.slice (some ⟨ga, 0, none⟩) N c) (tt.set q (i : Int)) ps p deep vs v F)) := ⟨Sep.push [_] B2.out⟩
  have d1 : w2.drew.cell? ⟨gm, 1, none⟩ = some (.slice (some ⟨ga, 0, none⟩) N c) := (Sep.cell (show Sep w0 w2.drew (Blk gm 69 #[_, .slice (some ⟨ga, 0, none⟩) N c, _] :: _) from B3.out.drew) 1).trans rfl
  have d2 : w2.drew.frozen? ⟨gm, 1, none⟩ = false := Sep.frozen (show Sep w0 w2.drew (Blk gm 69 #[_, .slice (some ⟨ga, 0, none⟩) N c, _] :: _) from B3.out.drew) 1
  go_wp2_with fail
  refine start_ (n := 15) (S := fun w' => w'.cell? ⟨gm, 1, none⟩ = some (.slice (some ⟨ga, 0, none⟩) N c)) (ds := [14]) #[Z,Z,Z,Z,Z,Z,Z,Z,Z,Z,Z,Z,Z,Z,Z] (by kernel_rfl) rfl rfl (d1) (fun hHeld => ?_)
  refine pu_ 0 41 ?_ #[J,Z,Z,Z,Z,Z,Z,Z,Z,Z,Z,Z,Z,Z,Z] rfl rfl ?_ ?_ ?_ ?_
  rotate_left
  · intro w'
    go_simp
    with_reducible rfl
  rotate_left
  · simp only [aP]
    rfl
  refine pu_ 1 42 ?_ #[J,J,Z,Z,Z,Z,Z,Z,Z,Z,Z,Z,Z,Z,Z] rfl rfl ?_ ?_ ?_ ?_
  rotate_left
  · intro w'
    go_simp
    with_reducible rfl
  rotate_left
  · simp only [aP]
    rfl
  refine pu_ 2 43 ?_ #[J,J,J,Z,Z,Z,Z,Z,Z,Z,Z,Z,Z,Z,Z] rfl rfl ?_ ?_ ?_ ?_
  rotate_left
  · intro w'
    go_simp
    with_reducible rfl
  rotate_left
  · simp only [aP]
    rfl
  refine pu_ 3 44 ?_ #[J,J,J,J,Z,Z,Z,Z,Z,Z,Z,Z,Z,Z,Z] rfl rfl ?_ ?_ ?_ ?_
  rotate_left
  · intro w'
    go_simp
    with_reducible rfl
  rotate_left
  · simp only [aP]
    rfl
  refine pu_ 5 46 ?_ #[J,J,J,J,Z,J,Z,Z,Z,Z,Z,Z,Z,Z,Z] rfl rfl ?_ ?_ ?_ ?_
  rotate_left
  · intro w'
    go_simp
    with_reducible rfl
  rotate_left
  · simp only [aP]
    rfl
  refine pu_ 6 47 ?_ #[J,J,J,J,Z,J,J,Z,Z,Z,Z,Z,Z,Z,Z] rfl rfl ?_ ?_ ?_ ?_
  rotate_left
  · intro w'
    go_simp
    with_reducible rfl
  rotate_left
  · simp only [aP]
    rfl
  refine pu_ 7 48 ?_ #[J,J,J,J,Z,J,J,J,Z,Z,Z,Z,Z,Z,Z] rfl rfl ?_ ?_ ?_ ?_
  rotate_left
  · intro w'
    go_simp
    with_reducible rfl
  rotate_left
  · simp only [aP]
    rfl
  refine ta_ 4 45 ?_ #[J,J,J,J,J,J,J,J,Z,Z,Z,Z,Z,Z,Z] rfl rfl ?_ hHeld ?_ ?_ ?_
  rotate_left
  · intro w' s0
    go_simp
    with_reducible rfl
  rotate_left
  · simp only [aP]
    rfl
  refine ta_ 8 49 ?_ #[J,J,J,J,J,J,J,J,J,Z,Z,Z,Z,Z,Z] rfl rfl ?_ hHeld ?_ ?_ ?_
  rotate_left
  · intro w' s0
    go_simp
    with_reducible rfl
  rotate_left
  · simp only [aP]
    rfl
  refine pu_ 9 50 ?_ #[J,J,J,J,J,J,J,J,J,J,Z,Z,Z,Z,Z] rfl rfl ?_ ?_ ?_ ?_
  rotate_left
  · intro w'
    go_simp
    with_reducible rfl
  rotate_left
  · simp only [aP]
    rfl
  refine pu_ 10 51 ?_ #[J,J,J,J,J,J,J,J,J,J,J,Z,Z,Z,Z] rfl rfl ?_ ?_ ?_ ?_
  rotate_left
  · intro w'
    go_simp
    with_reducible rfl
  rotate_left
  · simp only [aP]
    rfl
  refine pu_ 11 52 ?_ #[J,J,J,J,J,J,J,J,J,J,J,J,Z,Z,Z] rfl rfl ?_ ?_ ?_ ?_
  rotate_left
  · intro w'
    go_simp
    with_reducible rfl
  rotate_left
  · simp only [aP]
    rfl
  refine pu_ 12 53 ?_ #[J,J,J,J,J,J,J,J,J,J,J,J,J,Z,Z] rfl rfl ?_ ?_ ?_ ?_
  rotate_left
  · intro w'
    go_simp
    with_reducible rfl
  rotate_left
  · simp only [aP]
    rfl
  refine pu_ 13 54 ?_ #[J,J,J,J,J,J,J,J,J,J,J,J,J,J,Z] rfl rfl ?_ ?_ ?_ ?_
  rotate_left
  · intro w'
    go_simp
    with_reducible rfl
  rotate_left
  · simp only [aP]
    rfl
  refine last_ (i := 14) (N := none) #[J,J,J,J,J,J,J,J,J,J,J,J,J,J,J] rfl rfl (by kernel_rfl) (by decide) (fun K hK => ?_)
  refine skip_ (w1 := ?_) (by rfl) rfl ?_ ?_
  rotate_left
  · go_simp
    rfl
  refine hK.out _ _ ?_
  clear hK K
  refine done_ (by kernel_rfl) ?_
  have B4 := Aside0.mk (popFin HV.out B3.out)
  go_wp2_with fail
  go_ret
  exact ⟨by first | rfl | (simp; done), _, by rw [HQ.out]; exact B4.out.drew⟩
set_option maxHeartbeats 3200000 in
set_option maxRecDepth 100000 in
theorem endIf_b (hv : vs.length = ps.length) (h : Sep w0 W (MtL gm vt vo tt (ps ++ [p]) deep (vs ++ [v]) ++ F)) (i : Nat) (hl : p.loop = false) (ho : p.oth = 0) (hb : p.beg < tt.length) :
    Calls Try.prog 42 #[.pointer (some ⟨gm, 0, none⟩), .int .i64 (i : Int)] W fun e w' => e = .returned (.bool true) ∧ ∃ vo2, Sep w0 w' (MtL gm vt vo2 (tt.set p.beg (i : Int)) ps deep vs ++ F) := by
  obtain ⟨ga, c, rfl⟩ := topRow (hv := hv) (mts hv h)
  obtain ⟨gt, ct, rfl⟩ := topForm (mts hv h) (by omega)
  have HL := Aside0.mk hl
  obtain ⟨q, hq⟩ : ∃ q, p.oth = q := ⟨_, rfl⟩
  have HQ := Aside0.mk hq
  have hd : decide (0 < (q : Int)) = false := decide_eq_false (by omega)
  have hd2 : decide (0 < q) = false := decide_eq_false (by omega)
  have HV := Aside0.mk hv
  obtain ⟨N, hN⟩ : ∃ N, ps.length + 1 = N := ⟨_, rfl⟩
  rw [hN] at h
  have hNc := capN (mts hv h)
  have hw : wrap64 ((N : Int) - 1) = (ps.length : Int) := by rw [IntWalk.wrap64_in _ (by omega)]; omega
  have hcut := cutHi (z := (.agg #[.bool false, .int .i64 0, .int .i64 0, .slice none 0 0])) (sz := 4) (bytes := 48) Try.underlying67 infoPart (some ⟨ga, 0, none⟩) N c ps.length (K := (ps.length : Int)) rfl (by omega) hNc.1
  have HN := Aside0.mk hN
  have HB := Aside0.mk hb
  have H := Aside0.mk h
  clear h hv hl ho hNc hN
  go_enter Try.func42, Try.ntmps42
  go_wp2_with (go_at_call 46; refine (top_some (n := ps.length) H.out HN.out.symm).mono ?_; rintro e w1 ⟨rfl, hS⟩; obtain ⟨z0, z1, z2, z3, zf⟩ := topCell HV.out (mts HV.out (by rw [HN.out]; exact hS)); rw [HL.out] at z0; rw [HQ.out] at z2; have B1 := Aside0.mk (mts HV.out hS); clear hS)
  clear zf hb
  have c0 : w1.drew.cell? ⟨gm, 0, none⟩ = some (.slice (some ⟨gt, 0, none⟩) tt.length ct) := (Sep.cell (show Sep w0 w1.drew (Blk gm 69 #[.slice (some ⟨gt, 0, none⟩) tt.length ct, _, _] :: _) from B1.out.drew) 0).trans rfl
  have c1 : w1.drew.cell? ⟨ga, ps.length * 4 + 1, none⟩ = some (.int .i64 (p.beg : Int)) := z1
  obtain ⟨f1, f2⟩ := Sep.rowCell (0 : Int) (Sep.pull [_] B1.out.drew) p.beg (by have := HB.out; have := HQ.out; omega)
  have hit : (p.beg : Int).toNat = p.beg := rfl
  have hi1 : (p.beg : Int) < (tt.length : Int) := by have := HB.out; have := HQ.out; omega
  clear z0 z1 z2 z3
  refine start_ (n := 11) (S := fun w' => w'.cell? ⟨gm, 0, none⟩ = some (.slice (some ⟨gt, 0, none⟩) tt.length ct) ∧ w'.cell? ⟨ga, ps.length * 4 + 1, none⟩ = some (.int .i64 (p.beg : Int))) (ds := [10]) #[Z,Z,Z,Z,Z,Z,Z,Z,Z,Z,Z] (by kernel_rfl) rfl rfl ⟨c0, c1⟩ (fun hHeld => ?_)
  refine pu_ 0 31 ?_ #[J,Z,Z,Z,Z,Z,Z,Z,Z,Z,Z] rfl rfl ?_ ?_ ?_ ?_
  rotate_left
  · intro w'
    go_simp
    with_reducible rfl
  rotate_left
  · simp only [aP]
    rfl
  refine pu_ 1 32 ?_ #[J,J,Z,Z,Z,Z,Z,Z,Z,Z,Z] rfl rfl ?_ ?_ ?_ ?_
  rotate_left
  · intro w'
    go_simp
    with_reducible rfl
  rotate_left
  · simp only [aP]
    rfl
  refine pu_ 2 33 ?_ #[J,J,J,Z,Z,Z,Z,Z,Z,Z,Z] rfl rfl ?_ ?_ ?_ ?_
  rotate_left
  · intro w'
    go_simp
    with_reducible rfl
  rotate_left
  · simp only [aP]
    rfl
  refine pu_ 4 35 ?_ #[J,J,J,Z,J,Z,Z,Z,Z,Z,Z] rfl rfl ?_ ?_ ?_ ?_
  rotate_left
  · intro w'
    go_simp
    with_reducible rfl
  rotate_left
  · simp only [aP]
    rfl
  refine pu_ 5 36 ?_ #[J,J,J,Z,J,J,Z,Z,Z,Z,Z] rfl rfl ?_ ?_ ?_ ?_
  rotate_left
  · intro w'
    go_simp
    with_reducible rfl
  rotate_left
  · simp only [aP]
    rfl
  refine pu_ 6 37 ?_ #[J,J,J,Z,J,J,J,Z,Z,Z,Z] rfl rfl ?_ ?_ ?_ ?_
  rotate_left
  · intro w'
    go_simp
    with_reducible rfl
  rotate_left
  · simp only [aP]
    rfl
  refine pu_ 8 39 ?_ #[J,J,J,Z,J,J,J,Z,J,Z,Z] rfl rfl ?_ ?_ ?_ ?_
  rotate_left
  · intro w'
    go_simp
    with_reducible rfl
  rotate_left
  · simp only [aP]
    rfl
  refine ta_ 3 34 ?_ #[J,J,J,J,J,J,J,Z,J,Z,Z] rfl rfl ?_ hHeld ?_ ?_ ?_
  rotate_left
  · rintro w' ⟨s0, s1⟩
    go_simp
    with_reducible rfl
  rotate_left
  · simp only [aP]
    rfl
  refine ta_ 7 38 ?_ #[J,J,J,J,J,J,J,J,J,Z,Z] rfl rfl ?_ hHeld ?_ ?_ ?_
  rotate_left
  · rintro w' ⟨s0, s1⟩
    go_simp
    with_reducible rfl
  rotate_left
  · simp only [aP]
    rfl
  refine pu_ 9 40 ?_ #[J,J,J,J,J,J,J,J,J,J,Z] rfl rfl ?_ ?_ ?_ ?_
  rotate_left
  · intro w'
    go_simp
    with_reducible rfl
  rotate_left
  · simp only [aP]
    rfl
  refine last_ (i := 10) (N := none) #[J,J,J,J,J,J,J,J,J,J,J] rfl rfl (by kernel_rfl) (by decide) (fun K hK => ?_)
  refine skip_ (w1 := ?_) (by rfl) rfl ?_ ?_
  rotate_left
  · go_simp
    rfl
  refine hK.out _ _ ?_
  clear hK K
  refine done_ (by kernel_rfl) ?_
  have B2 := Aside0.mk ((Sep.pull [_] B1.out).putRow (enc := Value.int .i64) p.beg (i : Int)).drew
  obtain ⟨w2, hw2⟩ : ∃ x, (w1.setCell ⟨gt, p.beg, none⟩ (.int .i64 (i : Int))).drew = x := ⟨_, rfl⟩
  rw [hw2] at B2 ⊢
  clear hw2 c0 c1 f1 f2 hit hi1
  have B3 : Aside0 (Sep w0 w2 (MtS gm (.slice (some ⟨gt, 0, none⟩) tt.length ct) (.slice (some ⟨ga, 0, none⟩) N c) (tt.set p.beg (i : Int)) ps p deep vs v F)) := ⟨Sep.push [_] B2.out⟩
  have d1 : w2.drew.cell? ⟨gm, 1, none⟩ = some (.slice (some ⟨ga, 0, none⟩) N c) := (Sep.cell (show Sep w0 w2.drew (Blk gm 69 #[_, .slice (some ⟨ga, 0, none⟩) N c, _] :: _) from B3.out.drew) 1).trans rfl
  have d2 : w2.drew.frozen? ⟨gm, 1, none⟩ = false := Sep.frozen (show Sep w0 w2.drew (Blk gm 69 #[_, .slice (some ⟨ga, 0, none⟩) N c, _] :: _) from B3.out.drew) 1
  go_wp2_with fail
  refine start_ (n := 15) (S := fun w' => w'.cell? ⟨gm, 1, none⟩ = some (.slice (some ⟨ga, 0, none⟩) N c)) (ds := [14]) #[Z,Z,Z,Z,Z,Z,Z,Z,Z,Z,Z,Z,Z,Z,Z] (by kernel_rfl) rfl rfl (d1) (fun hHeld => ?_)
  refine pu_ 0 41 ?_ #[J,Z,Z,Z,Z,Z,Z,Z,Z,Z,Z,Z,Z,Z,Z] rfl rfl ?_ ?_ ?_ ?_
  rotate_left
  · intro w'
    go_simp
    with_reducible rfl
  rotate_left
  · simp only [aP]
    rfl
  refine pu_ 1 42 ?_ #[J,J,Z,Z,Z,Z,Z,Z,Z,Z,Z,Z,Z,Z,Z] rfl rfl ?_ ?_ ?_ ?_
  rotate_left
  · intro w'
    go_simp
    with_reducible rfl
  rotate_left
  · simp only [aP]
    rfl
  refine pu_ 2 43 ?_ #[J,J,J,Z,Z,Z,Z,Z,Z,Z,Z,Z,Z,Z,Z] rfl rfl ?_ ?_ ?_ ?_
  rotate_left
  · intro w'
    go_simp
    with_reducible rfl
  rotate_left
  · simp only [aP]
    rfl
  refine pu_ 3 44 ?_ #[J,J,J,J,Z,Z,Z,Z,Z,Z,Z,Z,Z,Z,Z] rfl rfl ?_ ?_ ?_ ?_
  rotate_left
  · intro w'
    go_simp
    with_reducible rfl
  rotate_left
  · simp only [aP]
    rfl
  refine pu_ 5 46 ?_ #[J,J,J,J,Z,J,Z,Z,Z,Z,Z,Z,Z,Z,Z] rfl rfl ?_ ?_ ?_ ?_
  rotate_left
  · intro w'
    go_simp
    with_reducible rfl
  rotate_left
  · simp only [aP]
    rfl
  refine pu_ 6 47 ?_ #[J,J,J,J,Z,J,J,Z,Z,Z,Z,Z,Z,Z,Z] rfl rfl ?_ ?_ ?_ ?_
  rotate_left
  · intro w'
    go_simp
    with_reducible rfl
  rotate_left
  · simp only [aP]
    rfl
  refine pu_ 7 48 ?_ #[J,J,J,J,Z,J,J,J,Z,Z,Z,Z,Z,Z,Z] rfl rfl ?_ ?_ ?_ ?_
  rotate_left
  · intro w'
    go_simp
    with_reducible rfl
  rotate_left
  · simp only [aP]
    rfl
  refine ta_ 4 45 ?_ #[J,J,J,J,J,J,J,J,Z,Z,Z,Z,Z,Z,Z] rfl rfl ?_ hHeld ?_ ?_ ?_
  rotate_left
  · intro w' s0
    go_simp
    with_reducible rfl
  rotate_left
  · simp only [aP]
    rfl
  refine ta_ 8 49 ?_ #[J,J,J,J,J,J,J,J,J,Z,Z,Z,Z,Z,Z] rfl rfl ?_ hHeld ?_ ?_ ?_
  rotate_left
  · intro w' s0
    go_simp
    with_reducible rfl
  rotate_left
  · simp only [aP]
    rfl
  refine pu_ 9 50 ?_ #[J,J,J,J,J,J,J,J,J,J,Z,Z,Z,Z,Z] rfl rfl ?_ ?_ ?_ ?_
  rotate_left
  · intro w'
    go_simp
    with_reducible rfl
  rotate_left
  · simp only [aP]
    rfl
  refine pu_ 10 51 ?_ #[J,J,J,J,J,J,J,J,J,J,J,Z,Z,Z,Z] rfl rfl ?_ ?_ ?_ ?_
  rotate_left
  · intro w'
    go_simp
    with_reducible rfl
  rotate_left
  · simp only [aP]
    rfl
  refine pu_ 11 52 ?_ #[J,J,J,J,J,J,J,J,J,J,J,J,Z,Z,Z] rfl rfl ?_ ?_ ?_ ?_
  rotate_left
  · intro w'
    go_simp
    with_reducible rfl
  rotate_left
  · simp only [aP]
    rfl
  refine pu_ 12 53 ?_ #[J,J,J,J,J,J,J,J,J,J,J,J,J,Z,Z] rfl rfl ?_ ?_ ?_ ?_
  rotate_left
  · intro w'
    go_simp
    with_reducible rfl
  rotate_left
  · simp only [aP]
    rfl
  refine pu_ 13 54 ?_ #[J,J,J,J,J,J,J,J,J,J,J,J,J,J,Z] rfl rfl ?_ ?_ ?_ ?_
  rotate_left
  · intro w'
    go_simp
    with_reducible rfl
  rotate_left
  · simp only [aP]
    rfl
  refine last_ (i := 14) (N := none) #[J,J,J,J,J,J,J,J,J,J,J,J,J,J,J] rfl rfl (by kernel_rfl) (by decide) (fun K hK => ?_)
  refine skip_ (w1 := ?_) (by rfl) rfl ?_ ?_
  rotate_left
  · go_simp
    rfl
  refine hK.out _ _ ?_
  clear hK K
  refine done_ (by kernel_rfl) ?_
  have B4 := Aside0.mk (popFin HV.out B3.out)
  go_wp2_with fail
  go_ret
  exact ⟨by first | rfl | (simp; done), _, B4.out.drew⟩
end
end Go.Proofs.Ytkkgfpdjlohojaa.Nest
namespace Go.Proofs.Ytkkgfpdjlohojaa.Nest
open Go.RowKit Go.Proofs.YtkkgfpdjlohojaaW.PrintWords Go.Proofs.YtkkgfpdjlohojaaW.PrintLast Go.Proofs.YtkkgfpdjlohojaaW.PrintMore Go.Proofs.Ytkkgfpdjlohojaa.Kit
open Go.Proofs.Ytkkgfpdjlohojaa.NestP
theorem setAll_take (t : List Int) (v : Int) (l : List Nat) (j : Nat) (h : j < l.length) : setAll t v (l.take (j + 1)) = (setAll t v (l.take j)).set (l.getD j 0) v := by
  rw [List.take_add_one, List.getElem?_eq_getElem h]
  unfold setAll
  rw [List.foldl_append, List.getD_eq_getElem?_getD, List.getElem?_eq_getElem h]
  rfl
section
variable {w0 W : World} {F : List HP} {gm : Nat} {vt vo v : Value} {tt : List Int} {ps : List Pt} {p : Pt} {deep : Nat} {vs : List Value}
set_option maxHeartbeats 1600000 in
theorem endLoop_nil (h : Sep w0 W (MtL gm vt vo tt [] deep [] ++ F)) (i : Nat) : Calls Try.prog 43 #[.pointer (some ⟨gm, 0, none⟩), .int .i64 (i : Int)] W fun e w' => e = .returned (.bool false) ∧ W = w' := by
  have H := Aside0.mk h
  clear h
  go_enter Try.func43, Try.ntmps43
  go_wp2_with (go_at_call 46; refine (top_nil H.out).mono ?_; rintro e w1 ⟨rfl, rfl⟩)
  go_ret
  exact ⟨by first | rfl | (simp; done), rfl⟩
set_option maxHeartbeats 1600000 in
theorem endLoop_no (hv : vs.length = ps.length) (h : Sep w0 W (MtL gm vt vo tt (ps ++ [p]) deep (vs ++ [v]) ++ F)) (i : Nat) (hn : p.loop = false) : Calls Try.prog 43 #[.pointer (some ⟨gm, 0, none⟩), .int .i64 (i : Int)] W fun e w' => e = .returned (.bool false) ∧ Sep w0 w' (MtL gm vt vo tt (ps ++ [p]) deep (vs ++ [v]) ++ F) := by
  obtain ⟨ga, c, rfl⟩ := topRow (hv := hv) (mts hv h)
  have H := Aside0.mk h
  have HV := Aside0.mk hv
  have HN := Aside0.mk hn
  clear h hv hn
  go_enter Try.func43, Try.ntmps43
  go_wp2_with (go_at_call 46; refine (top_some (n := ps.length) H.out rfl).mono ?_; rintro e w1 ⟨rfl, hS⟩; obtain ⟨z0, z1, z2, z3, zf⟩ := topCell HV.out (mts HV.out hS); rw [HN.out] at z0; replace hS := Aside0.mk hS)
  go_ret
  exact ⟨by first | rfl | (simp; done), hS.out⟩
set_option maxHeartbeats 3200000 in
set_option maxRecDepth 100000 in
theorem endLoop_yes (hv : vs.length = ps.length) (h : Sep w0 W (MtL gm vt vo tt (ps ++ [p]) deep (vs ++ [v]) ++ F)) (i : Nat) (hl : p.loop = true) (hi : i < tt.length) (hk : ∀ k ∈ p.lvs, k < tt.length) :
    Calls Try.prog 43 #[.pointer (some ⟨gm, 0, none⟩), .int .i64 (i : Int)] W fun e w' => e = .returned (.bool true) ∧ ∃ vo2, Sep w0 w' (MtL gm vt vo2 (setAll (tt.set i (p.beg : Int)) ((i : Int) + 1) p.lvs) ps deep vs ++ F) := by
  obtain ⟨ga, c, rfl⟩ := topRow (hv := hv) (mts hv h)
  obtain ⟨gt, ct, rfl⟩ := topForm (mts hv h) (by omega)
  have htl : (tt.length : Int) ≤ 9223372036854775807 := by
    have := (Sep.rowC' (show Sep w0 W (Row I64 3 (.slice (some ⟨gt, 0, none⟩) tt.length ct) tt :: _) from Sep.pull [_] (mts hv h))).2.1
    have h2 : tt.length ≤ 9223372036854775807 := this
    omega
  have HL := Aside0.mk hl
  have HV := Aside0.mk hv
  obtain ⟨N, hN⟩ : ∃ N, ps.length + 1 = N := ⟨_, rfl⟩
  rw [hN] at h
  have hNc := capN (mts hv h)
  have hw : wrap64 ((N : Int) - 1) = (ps.length : Int) := by rw [IntWalk.wrap64_in _ (by omega)]; omega
  have hwi : wrap64 ((i : Int) + 1) = (i : Int) + 1 := IntWalk.wrap64_in _ (by omega)
  have hcut := cutHi (z := (.agg #[.bool false, .int .i64 0, .int .i64 0, .slice none 0 0])) (sz := 4) (bytes := 48) Try.underlying67 infoPart (some ⟨ga, 0, none⟩) N c ps.length (K := (ps.length : Int)) rfl (by omega) hNc.1
  obtain ⟨n, hn⟩ : ∃ n, p.lvs.length = n := ⟨_, rfl⟩
  obtain ⟨Al, cl, rfl⟩ := Sep.rowN (n := n) (show Sep w0 W (Row I64 3 v (p.lvs.map (fun k : Nat => (k : Int))) :: _) from Sep.pull [_, _, _] (mts hv h)) (by rw [List.length_map]; exact hn)
  have hnm : (n : Int) ≤ 9223372036854775807 := by
    have := (Sep.rowC' (show Sep w0 W (Row I64 3 (.slice Al n cl) (p.lvs.map (fun k : Nat => (k : Int))) :: _) from Sep.pull [_, _, _] (mts hv h))).2.1
    have h2 : n ≤ 9223372036854775807 := this
    omega
  have HN := Aside0.mk hN
  have HI := Aside0.mk hi
  have HK := Aside0.mk hk
  have HM := Aside0.mk hn
  have H := Aside0.mk h
  clear h hv hl hNc hN hk hn
  go_enter Try.func43, Try.ntmps43
  go_wp2_with (go_at_call 46; refine (top_some (n := ps.length) H.out HN.out.symm).mono ?_; rintro e w1 ⟨rfl, hS⟩; obtain ⟨z0, z1, z2, z3, zf⟩ := topCell HV.out (mts HV.out (by rw [HN.out]; exact hS)); rw [HL.out] at z0; have B1 := Aside0.mk (mts HV.out hS); clear hS)
  clear zf
  have c0 : w1.drew.cell? ⟨gm, 0, none⟩ = some (.slice (some ⟨gt, 0, none⟩) tt.length ct) := (Sep.cell (show Sep w0 w1.drew (Blk gm 69 #[.slice (some ⟨gt, 0, none⟩) tt.length ct, _, _] :: _) from B1.out.drew) 0).trans rfl
  have c1 : w1.drew.cell? ⟨ga, ps.length * 4 + 1, none⟩ = some (.int .i64 (p.beg : Int)) := z1
  obtain ⟨f1, f2⟩ := Sep.rowCell (0 : Int) (Sep.pull [_] B1.out.drew) i hi
  have hit : (i : Int).toNat = i := rfl
  have hi1 : (i : Int) < (tt.length : Int) := by omega
  clear z0 z1 z2 z3
  refine start_ (n := 11) (S := fun w' => w'.cell? ⟨gm, 0, none⟩ = some (.slice (some ⟨gt, 0, none⟩) tt.length ct) ∧ w'.cell? ⟨ga, ps.length * 4 + 1, none⟩ = some (.int .i64 (p.beg : Int))) (ds := [10]) #[Z,Z,Z,Z,Z,Z,Z,Z,Z,Z,Z] (by kernel_rfl) rfl rfl ⟨c0, c1⟩ (fun hHeld => ?_)
  refine pu_ 0 19 ?_ #[J,Z,Z,Z,Z,Z,Z,Z,Z,Z,Z] rfl rfl ?_ ?_ ?_ ?_
  rotate_left
  · intro w'
    go_simp
    with_reducible rfl
  rotate_left
  · simp only [aP]
    rfl
  refine pu_ 1 20 ?_ #[J,J,Z,Z,Z,Z,Z,Z,Z,Z,Z] rfl rfl ?_ ?_ ?_ ?_
  rotate_left
  · intro w'
    go_simp
    with_reducible rfl
  rotate_left
  · simp only [aP]
    rfl
  refine pu_ 2 21 ?_ #[J,J,J,Z,Z,Z,Z,Z,Z,Z,Z] rfl rfl ?_ ?_ ?_ ?_
  rotate_left
  · intro w'
    go_simp
    with_reducible rfl
  rotate_left
  · simp only [aP]
    rfl
  refine pu_ 4 23 ?_ #[J,J,J,Z,J,Z,Z,Z,Z,Z,Z] rfl rfl ?_ ?_ ?_ ?_
  rotate_left
  · intro w'
    go_simp
    with_reducible rfl
  rotate_left
  · simp only [aP]
    rfl
  refine pu_ 5 24 ?_ #[J,J,J,Z,J,J,Z,Z,Z,Z,Z] rfl rfl ?_ ?_ ?_ ?_
  rotate_left
  · intro w'
    go_simp
    with_reducible rfl
  rotate_left
  · simp only [aP]
    rfl
  refine pu_ 6 25 ?_ #[J,J,J,Z,J,J,J,Z,Z,Z,Z] rfl rfl ?_ ?_ ?_ ?_
  rotate_left
  · intro w'
    go_simp
    with_reducible rfl
  rotate_left
  · simp only [aP]
    rfl
  refine pu_ 7 26 ?_ #[J,J,J,Z,J,J,J,J,Z,Z,Z] rfl rfl ?_ ?_ ?_ ?_
  rotate_left
  · intro w'
    go_simp
    with_reducible rfl
  rotate_left
  · simp only [aP]
    rfl
  refine ta_ 3 22 ?_ #[J,J,J,J,J,J,J,J,Z,Z,Z] rfl rfl ?_ hHeld ?_ ?_ ?_
  rotate_left
  · rintro w' ⟨s0, s1⟩
    go_simp
    with_reducible rfl
  rotate_left
  · simp only [aP]
    rfl
  refine ta_ 8 27 ?_ #[J,J,J,J,J,J,J,J,J,Z,Z] rfl rfl ?_ hHeld ?_ ?_ ?_
  rotate_left
  · rintro w' ⟨s0, s1⟩
    go_simp
    with_reducible rfl
  rotate_left
  · simp only [aP]
    rfl
  refine pu_ 9 28 ?_ #[J,J,J,J,J,J,J,J,J,J,Z] rfl rfl ?_ ?_ ?_ ?_
  rotate_left
  · intro w'
    go_simp
    with_reducible rfl
  rotate_left
  · simp only [aP]
    rfl
  refine last_ (i := 10) (N := none) #[J,J,J,J,J,J,J,J,J,J,J] rfl rfl (by kernel_rfl) (by decide) (fun K hK => ?_)
  refine skip_ (w1 := ?_) (by rfl) rfl ?_ ?_
  rotate_left
  · go_simp
    rfl
  refine hK.out _ _ ?_
  clear hK K
  refine done_ (by kernel_rfl) ?_
  have B2 := Aside0.mk ((Sep.pull [_] B1.out).putRow (enc := Value.int .i64) i (p.beg : Int)).drew
  obtain ⟨w2, hw2⟩ : ∃ x, (w1.setCell ⟨gt, i, none⟩ (.int .i64 (p.beg : Int))).drew = x := ⟨_, rfl⟩
  rw [hw2] at B2 ⊢
  clear hw2 c0 c1 f1 f2 hit
  have B3 : Aside0 (Sep w0 w2 (MtS gm (.slice (some ⟨gt, 0, none⟩) tt.length ct) (.slice (some ⟨ga, 0, none⟩) N c) (tt.set i (p.beg : Int)) ps p deep vs (.slice Al n cl) F)) := ⟨Sep.push [_] B2.out⟩
  clear B2 B1
  have z3 : w2.cell? ⟨ga, ps.length * 4 + 3, none⟩ = some (.slice Al n cl) := (topCell HV.out (by rw [HN.out]; exact B3.out)).2.2.2.1
  obtain ⟨T1, hT1⟩ : ∃ T1, tt.set i (p.beg : Int) = T1 := ⟨_, rfl⟩
  have HT : Aside0 (T1.length = tt.length) := ⟨by rw [← hT1, List.length_set]⟩
  rw [hT1] at B3
  have HT1 := Aside0.mk hT1
  clear hT1
  go_wp2_with fail
  go_loopg [34] n (fun m q wr => ∃ j : Nat, j + m = n ∧ q = .int .i64 (j : Int) ∧ Sep w0 wr (MtS gm (.slice (some ⟨gt, 0, none⟩) tt.length ct) (.slice (some ⟨ga, 0, none⟩) N c) (setAll T1 ((i : Int) + 1) (p.lvs.take j)) ps p deep vs (.slice Al n cl) F))
  case atStart => exact ⟨0, by omega, rfl, B3.out⟩
  case round =>
    obtain ⟨j, hjm, rfl, hS⟩ := hrel
    have AK := Aside0.mk hjm
    by_cases hj : j < n
    · have hsl := setAll_len ((i : Int) + 1) (p.lvs.take j) T1
      obtain ⟨gl, cl2, e1⟩ := Sep.rowFormN (n := n) (show Sep w0 wr (Row I64 3 (.slice Al n cl) (p.lvs.map (fun k : Nat => (k : Int))) :: _) from Sep.pull [_, _, _] hS) (by rw [List.length_map]; exact HM.out) (by omega)
      injection e1 with e1 _ e11
      subst e1 e11
      obtain ⟨g1, g2⟩ := Sep.rowCell (0 : Int) (Sep.pull [_, _, _] hS) j hj
      obtain ⟨k, hk⟩ : ∃ k, p.lvs.getD j 0 = k := ⟨_, rfl⟩
      have hjl : j < p.lvs.length := by rw [HM.out]; exact hj
      have hkl : k < tt.length := by
        rw [← hk]
        refine HK.out _ ?_
        rw [List.getD_eq_getElem?_getD, List.getElem?_eq_getElem hjl]
        exact List.getElem_mem hjl
      have e2 : (p.lvs.map (fun k : Nat => (k : Int))).getD j 0 = (k : Int) := by
        rw [List.getD_eq_getElem?_getD, List.getElem?_map, ← hk, List.getD_eq_getElem?_getD, List.getElem?_eq_getElem hjl]; rfl
      rw [e2] at g1
      have c0 : wr.cell? ⟨gm, 0, none⟩ = some (.slice (some ⟨gt, 0, none⟩) tt.length ct) := (Sep.cell (show Sep w0 wr (Blk gm 69 #[.slice (some ⟨gt, 0, none⟩) tt.length ct, _, _] :: _) from hS) 0).trans rfl
      obtain ⟨f1, f2⟩ := Sep.rowCell (0 : Int) (Sep.pull [_] hS) k hkl
      have B5 := Aside0.mk ((Sep.pull [_] hS).putRow (enc := Value.int .i64) k ((i : Int) + 1))
      have HK2 := Aside0.mk hk
      have HJL := Aside0.mk hjl
      clear hS hsl hk hjl e2 g2
      go_wp2_with fail
      go_roundg (gk - 1)
      case measure => have := AK.out; omega
      case rel =>
        refine ⟨j + 1, by have := AK.out; omega, by go_num, ?_⟩
        rw [setAll_take _ _ _ j HJL.out, HK2.out]
        exact Sep.push [_] B5.out
    · have hjn : j = n := by omega
      rw [hjn, ← HM.out, List.take_length] at hS
      rw [HM.out] at hS
      subst hjn
      have B6 := Aside0.mk hS
      have d1 : wr.drew.cell? ⟨gm, 1, none⟩ = some (.slice (some ⟨ga, 0, none⟩) N c) := (Sep.cell (show Sep w0 wr.drew (Blk gm 69 #[_, .slice (some ⟨ga, 0, none⟩) N c, _] :: _) from hS.drew) 1).trans rfl
      have d2 : wr.drew.frozen? ⟨gm, 1, none⟩ = false := Sep.frozen (show Sep w0 wr.drew (Blk gm 69 #[_, .slice (some ⟨ga, 0, none⟩) N c, _] :: _) from hS.drew) 1
      clear hS hjm AK hj
      go_wp2_with fail
      refine start_ (n := 15) (S := fun w' => w'.cell? ⟨gm, 1, none⟩ = some (.slice (some ⟨ga, 0, none⟩) N c)) (ds := [14]) #[Z,Z,Z,Z,Z,Z,Z,Z,Z,Z,Z,Z,Z,Z,Z] (by kernel_rfl) rfl rfl (d1) (fun hHeld => ?_)
      refine pu_ 0 47 ?_ #[J,Z,Z,Z,Z,Z,Z,Z,Z,Z,Z,Z,Z,Z,Z] rfl rfl ?_ ?_ ?_ ?_
      rotate_left
      · intro w'
        go_simp
        with_reducible rfl
      rotate_left
      · simp only [aP]
        rfl
      refine pu_ 1 48 ?_ #[J,J,Z,Z,Z,Z,Z,Z,Z,Z,Z,Z,Z,Z,Z] rfl rfl ?_ ?_ ?_ ?_
      rotate_left
      · intro w'
        go_simp
        with_reducible rfl
      rotate_left
      · simp only [aP]
        rfl
      refine pu_ 2 49 ?_ #[J,J,J,Z,Z,Z,Z,Z,Z,Z,Z,Z,Z,Z,Z] rfl rfl ?_ ?_ ?_ ?_
      rotate_left
      · intro w'
        go_simp
        with_reducible rfl
      rotate_left
      · simp only [aP]
        rfl
      refine pu_ 3 50 ?_ #[J,J,J,J,Z,Z,Z,Z,Z,Z,Z,Z,Z,Z,Z] rfl rfl ?_ ?_ ?_ ?_
      rotate_left
      · intro w'
        go_simp
        with_reducible rfl
      rotate_left
      · simp only [aP]
        rfl
      refine pu_ 5 52 ?_ #[J,J,J,J,Z,J,Z,Z,Z,Z,Z,Z,Z,Z,Z] rfl rfl ?_ ?_ ?_ ?_
      rotate_left
      · intro w'
        go_simp
        with_reducible rfl
      rotate_left
      · simp only [aP]
        rfl
      refine pu_ 6 53 ?_ #[J,J,J,J,Z,J,J,Z,Z,Z,Z,Z,Z,Z,Z] rfl rfl ?_ ?_ ?_ ?_
      rotate_left
      · intro w'
        go_simp
        with_reducible rfl
      rotate_left
      · simp only [aP]
        rfl
      refine pu_ 7 54 ?_ #[J,J,J,J,Z,J,J,J,Z,Z,Z,Z,Z,Z,Z] rfl rfl ?_ ?_ ?_ ?_
      rotate_left
      · intro w'
        go_simp
        with_reducible rfl
      rotate_left
      · simp only [aP]
        rfl
      refine ta_ 4 51 ?_ #[J,J,J,J,J,J,J,J,Z,Z,Z,Z,Z,Z,Z] rfl rfl ?_ hHeld ?_ ?_ ?_
      rotate_left
      · intro w' s0
        go_simp
        with_reducible rfl
      rotate_left
      · simp only [aP]
        rfl
      refine ta_ 8 55 ?_ #[J,J,J,J,J,J,J,J,J,Z,Z,Z,Z,Z,Z] rfl rfl ?_ hHeld ?_ ?_ ?_
      rotate_left
      · intro w' s0
        go_simp
        with_reducible rfl
      rotate_left
      · simp only [aP]
        rfl
      refine pu_ 9 56 ?_ #[J,J,J,J,J,J,J,J,J,J,Z,Z,Z,Z,Z] rfl rfl ?_ ?_ ?_ ?_
      rotate_left
      · intro w'
        go_simp
        with_reducible rfl
      rotate_left
      · simp only [aP]
        rfl
      refine pu_ 10 57 ?_ #[J,J,J,J,J,J,J,J,J,J,J,Z,Z,Z,Z] rfl rfl ?_ ?_ ?_ ?_
      rotate_left
      · intro w'
        go_simp
        with_reducible rfl
      rotate_left
      · simp only [aP]
        rfl
      refine pu_ 11 58 ?_ #[J,J,J,J,J,J,J,J,J,J,J,J,Z,Z,Z] rfl rfl ?_ ?_ ?_ ?_
      rotate_left
      · intro w'
        go_simp
        with_reducible rfl
      rotate_left
      · simp only [aP]
        rfl
      refine pu_ 12 59 ?_ #[J,J,J,J,J,J,J,J,J,J,J,J,J,Z,Z] rfl rfl ?_ ?_ ?_ ?_
      rotate_left
      · intro w'
        go_simp
        with_reducible rfl
      rotate_left
      · simp only [aP]
        rfl
      refine pu_ 13 60 ?_ #[J,J,J,J,J,J,J,J,J,J,J,J,J,J,Z] rfl rfl ?_ ?_ ?_ ?_
      rotate_left
      · intro w'
        go_simp
        with_reducible rfl
      rotate_left
      · simp only [aP]
        rfl
      refine last_ (i := 14) (N := none) #[J,J,J,J,J,J,J,J,J,J,J,J,J,J,J] rfl rfl (by kernel_rfl) (by decide) (fun K hK => ?_)
      refine skip_ (w1 := ?_) (by rfl) rfl ?_ ?_
      rotate_left
      · go_simp
        rfl
      refine hK.out _ _ ?_
      clear hK K
      refine done_ (by kernel_rfl) ?_
      have B4 := Aside0.mk (popFin HV.out B6.out)
      go_wp2_with fail
      go_ret
      exact ⟨by first | rfl | (simp; done), _, by rw [HT1.out]; exact B4.out.drew⟩
end
end Go.Proofs.Ytkkgfpdjlohojaa.Nest
