/- Tape1, Func1, Keep1, Func2, Func3: what NestAdds needs. -/
import Derived.Test.YtkkgfpdjlohojaaTnestAdds7
import Derived.Deep.QuietTactic
import Derived.Deep.RegionWith
import Derived.Deep.LoopGhost
import Derived.Deep.Cut
set_option linter.unusedVariables false
set_option linter.unusedSimpArgs false
namespace Go.Proofs.Ytkkgfpdjlohojaa.Tape
open Go.RowKit Go.Proofs.YtkkgfpdjlohojaaW.PrintWords Go.Proofs.YtkkgfpdjlohojaaW.PrintLast Go.Proofs.YtkkgfpdjlohojaaW.PrintMore Go.Proofs.Ytkkgfpdjlohojaa.Kit
abbrev I64 : Kd Int := Kd.int .i64
def okN (n r : Int) : Prop := 0 ≤ r ∧ (1 ≤ n → r < n) ∧ (n < 1 → r = 0)
abbrev Tp (g : Nat) (A : Option Addr) (n c : Nat) (at_ : Int) : HP := Blk g 55 #[.slice A n c, .int .i64 at_]
set_option maxHeartbeats 1600000 in
set_option maxRecDepth 100000 in
theorem next_ {w0 W : World} {F : List HP} {g : Nat} {A : Option Addr} {n c : Nat} {L : List Int} {p : Int} (ht : I64.C w0 A n L) (hp : 0 ≤ p) (h : Sep w0 W (Tp g A n c p :: F)) (k : Int) :
    Calls Try.prog 19 #[.pointer (some ⟨g, 0, none⟩), .int .i64 k] W fun e w' => ∃ r p', e = .returned (.int .i64 r) ∧ okN k r ∧ 0 ≤ p' ∧ Sep w0 w' (Tp g A n c p' :: F) := by
  obtain rfl : L.length = n := ht.1
  have hm : L.length ≤ 9223372036854775807 := ht.2.1
  have AH := Aside0.mk h
  have AT := Aside0.mk ht
  have c0 : ∀ q, (W.drewN q).cell? ⟨g, 0, none⟩ = some (.slice A L.length c) := fun q => ((h.drewN q).cell 0).trans rfl
  have c1 : ∀ q, (W.drewN q).cell? ⟨g, 1, none⟩ = some (.int .i64 p) := fun q => ((h.drewN q).cell 1).trans rfl
  clear h ht
  by_cases h1 : (L.length : Int) ≤ p
  · go_enter Try.func19, Try.ntmps19
    go_wp2_with fail
    go_quiet (fail)
    go_wp2_with fail
    go_ret
    exact ⟨0, p, by first | rfl | (simp; done), ⟨by decide, fun h => by omega, fun _ => rfl⟩, hp, AH.out.drewN _⟩
  · have h1' : decide ((L.length : Int) ≤ p) = false := decide_eq_false h1
    by_cases h2 : k < 1
    · go_enter Try.func19, Try.ntmps19
      go_wp2_with fail
      go_quiet (fail)
      go_wp2_with fail
      go_ret
      exact ⟨0, p, by first | rfl | (simp; done), ⟨by decide, fun h => by omega, fun _ => rfl⟩, hp, AH.out.drewN _⟩
    · have h2' : decide (k < 1) = false := decide_eq_false h2
      obtain ⟨N, rfl⟩ := Int.eq_ofNat_of_zero_le hp
      have hN : N < L.length := by omega
      obtain ⟨ad, hA, hc⟩ := Kd.at_int AT.out (N : Int) (by omega) (by omega)
      subst hA
      rw [Int.toNat_natCast] at hc
      have HX := Aside0.mk hc
      generalize rd L (N : Int) = x at *
      go_enter Try.func19, Try.ntmps19
      go_wp2_with fail
      go_quiet (fail)
      have hcell1 := c1 nq
      have hfr : (W.drewN nq).frozen? ⟨g, 1, none⟩ = false := (AH.out.drewN nq).frozen 1
      have hNl : (N : Int) < (L.length : Int) := by omega
      have hw1 : wrap64 ((N : Int) + 1) = (N : Int) + 1 := IntWalk.wrap64_in _ (by omega)
      clear c0 c1 hc
      go_wp2_with fail
      have S3 := (AH.out.drewN nq).setBlk 1 (.int .i64 ((N : Int) + 1))
      obtain ⟨w3, hw3⟩ : ∃ w3, (W.drewN nq).setCell ⟨g, 1, none⟩ (.int .i64 ((N : Int) + 1)) = w3 := ⟨_, rfl⟩
      rw [hw3] at S3 ⊢
      replace S3 : Sep w0 w3 (Tp g (some ad) L.length c ((N : Int) + 1) :: F) := S3
      have d0 : w3.drew.cell? ⟨g, 0, none⟩ = some (.slice (some ad) L.length c) := (S3.drew.cell 0).trans rfl
      have d1 : w3.drew.cell? ⟨g, 1, none⟩ = some (.int .i64 ((N : Int) + 1)) := (S3.drew.cell 1).trans rfl
      have d2 : w3.drew.cell? (ad.add N) = some (.int .i64 x) := cell_later S3.drew.toBelow HX.out
      have A3 := Aside0.mk S3.drew
      have hws : wrap64 (N : Int) = (N : Int) := IntWalk.wrap64_in _ (by omega)
      have hin := Book.withinF_in (n := x) (lo := 0) (hi := 1073741824) (by decide)
      have hr : okN k ((Book.withinF x 0 1073741824).tmod k) := ⟨Int.tmod_nonneg _ hin.1, fun _ => Int.tmod_lt_of_pos _ (by omega), fun h => by omega⟩
      have AR := Aside0.mk hr
      have hk0 : ¬ k = 0 := by omega
      have hb := hin.2
      have ha := hin.1
      clear hin hr hw3 S3 hcell1 hfr hw1
      refine start_ (n := 15) (S := fun w' => w'.cell? ⟨g, 0, none⟩ = some (.slice (some ad) L.length c) ∧ w'.cell? ⟨g, 1, none⟩ = some (.int .i64 ((N : Int) + 1)) ∧ w'.cell? (ad.add N) = some (.int .i64 x)) (ds := [11]) #[Z,Z,Z,Z,Z,Z,Z,Z,Z,Z,Z,Z,Z,Z,Z] (by kernel_rfl) rfl rfl ⟨d0, d1, d2⟩ (fun hHeld => ?_)
      refine pu_ 0 26 ?_ #[J,Z,Z,Z,Z,Z,Z,Z,Z,Z,Z,Z,Z,Z,Z] rfl rfl ?_ ?_ ?_ ?_
      rotate_left
      · intro w'
        go_simp
        with_reducible rfl
      rotate_left
      · simp only [aP]
        rfl
      refine pu_ 1 27 ?_ #[J,J,Z,Z,Z,Z,Z,Z,Z,Z,Z,Z,Z,Z,Z] rfl rfl ?_ ?_ ?_ ?_
      rotate_left
      · intro w'
        go_simp
        with_reducible rfl
      rotate_left
      · simp only [aP]
        rfl
      refine pu_ 2 28 ?_ #[J,J,J,Z,Z,Z,Z,Z,Z,Z,Z,Z,Z,Z,Z] rfl rfl ?_ ?_ ?_ ?_
      rotate_left
      · intro w'
        go_simp
        with_reducible rfl
      rotate_left
      · simp only [aP]
        rfl
      refine pu_ 4 30 ?_ #[J,J,J,Z,J,Z,Z,Z,Z,Z,Z,Z,Z,Z,Z] rfl rfl ?_ ?_ ?_ ?_
      rotate_left
      · intro w'
        go_simp
        with_reducible rfl
      rotate_left
      · simp only [aP]
        rfl
      refine pu_ 5 31 ?_ #[J,J,J,Z,J,J,Z,Z,Z,Z,Z,Z,Z,Z,Z] rfl rfl ?_ ?_ ?_ ?_
      rotate_left
      · intro w'
        go_simp
        with_reducible rfl
      rotate_left
      · simp only [aP]
        rfl
      refine pu_ 6 32 ?_ #[J,J,J,Z,J,J,J,Z,Z,Z,Z,Z,Z,Z,Z] rfl rfl ?_ ?_ ?_ ?_
      rotate_left
      · intro w'
        go_simp
        with_reducible rfl
      rotate_left
      · simp only [aP]
        rfl
      refine pu_ 12 38 ?_ #[J,J,J,Z,J,J,J,Z,Z,Z,Z,Z,J,Z,Z] rfl rfl ?_ ?_ ?_ ?_
      rotate_left
      · intro w'
        go_simp
        with_reducible rfl
      rotate_left
      · simp only [aP]
        rfl
      refine ta_ 3 29 ?_ #[J,J,J,J,J,J,J,Z,Z,Z,Z,Z,J,Z,Z] rfl rfl ?_ hHeld ?_ ?_ ?_
      rotate_left
      · rintro w' ⟨s0, s1, s2⟩
        go_simp
        with_reducible rfl
      rotate_left
      · simp only [aP]
        rfl
      refine ta_ 7 33 ?_ #[J,J,J,J,J,J,J,J,Z,Z,Z,Z,J,Z,Z] rfl rfl ?_ hHeld ?_ ?_ ?_
      rotate_left
      · rintro w' ⟨s0, s1, s2⟩
        go_simp
        with_reducible rfl
      rotate_left
      · simp only [aP]
        rfl
      refine pu_ 8 34 ?_ #[J,J,J,J,J,J,J,J,J,Z,Z,Z,J,Z,Z] rfl rfl ?_ ?_ ?_ ?_
      rotate_left
      · intro w'
        go_simp
        with_reducible rfl
      rotate_left
      · simp only [aP]
        rfl
      refine pu_ 9 35 ?_ #[J,J,J,J,J,J,J,J,J,J,Z,Z,J,Z,Z] rfl rfl ?_ ?_ ?_ ?_
      rotate_left
      · intro w'
        go_simp
        with_reducible rfl
      rotate_left
      · simp only [aP]
        rfl
      refine ta_ 10 36 ?_ #[J,J,J,J,J,J,J,J,J,J,J,Z,J,Z,Z] rfl rfl ?_ hHeld ?_ ?_ ?_
      rotate_left
      · rintro w' ⟨s0, s1, s2⟩
        go_simp
        with_reducible rfl
      rotate_left
      · simp only [aP]
        rfl
      refine last_ (i := 11) (N := some 37) #[J,J,J,J,J,J,J,J,J,J,J,J,J,Z,Z] rfl rfl (by kernel_rfl) (by decide) (fun K hK => ?_)
      refine goes_ Try.func17 (by kernel_rfl) rfl #[.int .i64 x, .int .i64 0, .int .i64 1073741824] (by rfl) rfl rfl (by simp only [List.map_toArray, List.map_cons, List.map_nil]; rfl) ?_
      with_reducible refine (Book.within_ _ _ _ _ (by decide) (by decide) (by decide)).mono ?_
      rintro e w4 ⟨rfl, rfl⟩
      refine ⟨_, rfl, ?_⟩
      refine hK.out _ _ ?_
      clear hK K
      refine norm_ (a' := ?_) ?_ ?_
      rotate_left
      · show Act.put _ (some 37) _ = _
        simp only [aP]
        rfl
      refine pu_ 13 39 ?_ #[J,J,J,J,J,J,J,J,J,J,J,J,J,J,Z] rfl rfl ?_ ?_ ?_ ?_
      rotate_left
      · intro w'
        go_simp
        with_reducible rfl
      rotate_left
      · simp only [aP]
        rfl
      refine pu_ 14 4 ?_ #[J,J,J,J,J,J,J,J,J,J,J,J,J,J,J] rfl rfl ?_ ?_ ?_ ?_
      rotate_left
      · intro w'
        go_simp
        with_reducible rfl
      rotate_left
      · simp only [aP]
        rfl
      refine done_ (by kernel_rfl) ?_
      go_wp2_with fail
      go_ret
      exact ⟨_, _, by first | rfl | (simp; done), AR.out, by omega, A3.out⟩
end Go.Proofs.Ytkkgfpdjlohojaa.Tape
namespace Go.Proofs.Ytkkgfpdjlohojaa.Fn
open Go.RowKit Go.Proofs.YtkkgfpdjlohojaaW.PrintWords Go.Proofs.YtkkgfpdjlohojaaW.PrintLast Go.Proofs.YtkkgfpdjlohojaaW.PrintMore Go.Proofs.Ytkkgfpdjlohojaa.Kit
open Go.Proofs.Ytkkgfpdjlohojaa.TokP Go.Proofs.Ytkkgfpdjlohojaa.Tok
open Nest (rawAt)
structure Bk where
  sign : Int
  base : Int
  other : Int
  left : Bool
def cellB (b : Bk) : List Value := [.int .i32 b.sign, .int .i64 b.base, .int .i64 b.other, .bool b.left]
theorem infoBk : (Try.prog.info? 86).map (fun i => (i.zero, i.size, i.bytes)) = some (some (.agg #[.int .i32 0, .int .i64 0, .int .i64 0, .bool false]), 4, 32) := by kernel_rfl
def StL (g : Nat) (h : Int) (vo : Value) (bs : List Bk) (F : List HP) : List HP := Blk g 78 #[.int .i64 h, vo] :: Row (Kd.raw 4) 86 vo (bs.map cellB) :: F
def RetB (e : Ending) : Prop := ∃ r : Bool, e = .returned (.bool r)
def StT (w0 w' : World) (F : List HP) (g n : Nat) : Prop := ∃ (h' : Int) (vo' : Value) (bs' : List Bk), bs'.length = n ∧ Sep w0 w' (StL g h' vo' bs' F)
section
variable {w0 W : World} {F : List HP} {g : Nat} {h : Int} {vo : Value} {bs : List Bk}
theorem st_h (hS : Sep w0 W (StL g h vo bs F)) : W.cell? ⟨g, 0, none⟩ = some (.int .i64 h) := (Sep.cell (show Sep w0 W (Blk g 78 #[.int .i64 h, vo] :: _) from hS) 0).trans rfl
theorem st_o (hS : Sep w0 W (StL g h vo bs F)) : W.cell? ⟨g, 1, none⟩ = some vo := (Sep.cell (show Sep w0 W (Blk g 78 #[.int .i64 h, vo] :: _) from hS) 1).trans rfl
theorem st_f (hS : Sep w0 W (StL g h vo bs F)) (i : Nat) : W.frozen? ⟨g, i, none⟩ = false := Sep.frozen (show Sep w0 W (Blk g 78 #[.int .i64 h, vo] :: _) from hS) i
theorem st_row (hS : Sep w0 W (StL g h vo bs F)) : Sep w0 W (Row (Kd.raw 4) 86 vo (bs.map cellB) :: Blk g 78 #[.int .i64 h, vo] :: F) := Sep.at2 hS
theorem st_N (hS : Sep w0 W (StL g h vo bs F)) {n : Nat} (hn : bs.length = n) : ∃ A c, vo = .slice A n c := (st_row hS).rowN (by rw [List.length_map]; exact hn)
theorem st_form (hS : Sep w0 W (StL g h vo bs F)) {n : Nat} (hn : bs.length = n) (hp : 0 < n) : ∃ ga c, vo = .slice (some ⟨ga, 0, none⟩) n c := (st_row hS).rowFormN (by rw [List.length_map]; exact hn) hp
theorem st_at {ga n c k : Nat} (hS : Sep w0 W (StL g h (.slice (some ⟨ga, 0, none⟩) n c) bs F)) (hk : k < bs.length) :
    ∃ b : Bk, bs[k]? = some b ∧ W.cell? ⟨ga, k * 4, none⟩ = some (.int .i32 b.sign) ∧ W.cell? ⟨ga, k * 4 + 1, none⟩ = some (.int .i64 b.base) ∧ W.cell? ⟨ga, k * 4 + 2, none⟩ = some (.int .i64 b.other) ∧ W.cell? ⟨ga, k * 4 + 3, none⟩ = some (.bool b.left) ∧ ∀ q, W.frozen? ⟨ga, q, none⟩ = false := by
  obtain ⟨h3, h4⟩ := rawAt (k := k) (cl := cellB bs[k]) (st_row hS) (by rw [List.getElem?_map, List.getElem?_eq_getElem hk]; rfl)
  exact ⟨bs[k], List.getElem?_eq_getElem hk, h3 0 _ rfl, h3 1 _ rfl, h3 2 _ rfl, h3 3 _ rfl, h4⟩
theorem st_seth (hS : Sep w0 W (StL g h vo bs F)) (h' : Int) : Sep w0 (W.setCell ⟨g, 0, none⟩ (.int .i64 h')) (StL g h' vo bs F) :=
  Sep.setBlk (show Sep w0 W (Blk g 78 #[.int .i64 h, vo] :: _) from hS) 0 (.int .i64 h')
theorem map_set4 (bs : List Bk) (k q : Nat) (u : Value) (b b2 : Bk) (hb : bs[k]? = some b) (hc : (cellB b).set q u = cellB b2) : (bs.map cellB).set k (((bs.map cellB).getD k []).set q u) = (bs.set k b2).map cellB := by
  rw [List.getD_eq_getElem?_getD, List.getElem?_map, hb]
  show (bs.map cellB).set k ((cellB b).set q u) = _
  rw [hc, List.map_set]
theorem st_put {ga n c k q : Nat} {u : Value} {b b2 : Bk} (hS : Sep w0 W (StL g h (.slice (some ⟨ga, 0, none⟩) n c) bs F)) (hb : bs[k]? = some b) (hq : q < 4) (hu : u.oneCell' = true) (hc : (cellB b).set q u = cellB b2) :
    Sep w0 (W.setCell ⟨ga, k * 4 + q, none⟩ u) (StL g h (.slice (some ⟨ga, 0, none⟩) n c) (bs.set k b2) F) := by
  have hk : k < bs.length := (List.getElem?_eq_some_iff.1 hb).1
  have h3 := (st_row hS).putRaw (j := k) (q := q) (u := u) (by rw [List.length_map]; exact hk) hq hu
  rw [map_set4 bs k q u b b2 hb hc] at h3
  exact h3.at2
def bF (bs : List Bk) : Int := (bs.getLast?.map (·.base)).getD 0
theorem bF_at {bs : List Bk} {m : Nat} {b : Bk} (hn : bs.length = m + 1) (hb : bs[m]? = some b) : bF bs = b.base := by
  unfold bF
  rw [List.getLast?_eq_getElem?, hn, Nat.add_sub_cancel, hb]
  rfl
set_option maxHeartbeats 1600000 in
set_option maxRecDepth 100000 in
theorem base_ (hS : Sep w0 W (StL g h vo bs F)) : Calls Try.prog 38 #[.pointer (some ⟨g, 0, none⟩)] W fun e w' => e = .returned (.int .i64 (bF bs)) ∧ Sep w0 w' (StL g h vo bs F) := by
  obtain ⟨n, hn⟩ : ∃ n, bs.length = n := ⟨_, rfl⟩
  have H := Aside0.mk hS
  rcases Nat.eq_zero_or_pos n with rfl | hp
  · obtain ⟨A, c, rfl⟩ := st_N hS hn
    have z1 := st_o hS
    have h0 : bF bs = 0 := by rw [List.eq_nil_of_length_eq_zero hn]; rfl
    rw [h0]
    clear hS h0
    go_enter Try.func38, Try.ntmps38
    go_wp2_with fail
    go_ret
    exact ⟨by first | rfl | (simp; done), H.out⟩
  · obtain ⟨ga, c, rfl⟩ := st_form hS hn hp
    obtain ⟨m, rfl⟩ : ∃ m, n = m + 1 := ⟨n - 1, by omega⟩
    obtain ⟨b, hb, y0, y1, y2, y3, yf⟩ := st_at hS (k := m) (by omega)
    rw [bF_at hn hb]
    obtain ⟨N, hN⟩ : ∃ N, m + 1 = N := ⟨_, rfl⟩
    rw [hN] at H hS ⊢
    have z1 := st_o hS
    have z1q := fun q => st_o (hS.drewN q)
    have hNm : (N : Int) ≤ 9223372036854775807 := by
      have h2 : N ≤ 9223372036854775807 := (st_row hS).rowC'.2.1
      omega
    have yq : ∀ q, (W.drewN q).cell? ⟨ga, m * 4 + 1, none⟩ = some (.int .i64 b.base) := fun q => y1
    have hw : wrap64 ((N : Int) - 1) = (m : Int) := by rw [IntWalk.wrap64_in _ (by omega)]; omega
    have hz : ¬ (N : Int) = 0 := by omega
    have hzb : ((N : Int) == 0) = false := by rw [beq_eq_false_iff_ne]; omega
    have hN1 : N - 1 = m := by omega
    have hmN : (m : Int) < (N : Int) := by omega
    clear hS hb y0 y2 y3 yf hn hp hN
    go_enter Try.func38, Try.ntmps38
    go_wp2_with fail
    go_quiet (fail)
    go_wp2_with fail
    go_ret
    exact ⟨by first | rfl | (simp; done), H.out.drewN _⟩
set_option maxHeartbeats 3200000 in
set_option maxRecDepth 100000 in
theorem leave_ (hS : Sep w0 W (StL g h vo bs F)) : Calls Try.prog 39 #[.pointer (some ⟨g, 0, none⟩)] W fun e w' => RetB e ∧ StT w0 w' F g bs.length := by
  obtain ⟨n, hn⟩ : ∃ n, bs.length = n := ⟨_, rfl⟩
  obtain ⟨A0, c, rfl⟩ := st_N hS hn
  have hnm : (n : Int) ≤ 9223372036854775807 := by
    have h2 : n ≤ 9223372036854775807 := (st_row hS).rowC'.2.1
    omega
  have z1 := st_o hS
  have hw : wrap64 ((n : Int) - 1) = (n : Int) - 1 := IntWalk.wrap64_in _ (by omega)
  have H := Aside0.mk hS
  have HN := Aside0.mk hn
  clear hS hn
  go_enter Try.func39, Try.ntmps39
  go_wp2_with fail
  go_loopg [3] n (fun m q wr => ∃ K : Int, q = .int .i64 K ∧ -1 ≤ K ∧ K < n ∧ K + 1 = m ∧ Sep w0 wr (StL g h (.slice A0 n c) bs F))
  case atStart => exact ⟨(n : Int) - 1, rfl, by omega, by omega, by omega, H.out⟩
  case round =>
    obtain ⟨K, rfl, h1, h2, h3, hS⟩ := hrel
    have A3 := Aside0.mk h3
    clear h3
    by_cases hj : 0 ≤ K
    · obtain ⟨k, rfl⟩ := Int.eq_ofNat_of_zero_le hj
      obtain ⟨ga, c2, e1⟩ := st_form hS HN.out (by omega)
      injection e1 with e1 _ e11
      subst e1 e11
      obtain ⟨b, hb, y0, y1, y2, y3, yf⟩ := st_at hS (k := k) (by rw [HN.out]; omega)
      have x1 := st_o hS
      have B1 := Aside0.mk hS
      have HB := Aside0.mk hb
      have hd : decide (0 ≤ (k : Int)) = true := decide_eq_true hj
      have hw1 : wrap64 ((k : Int) - 1) = (k : Int) - 1 := IntWalk.wrap64_in _ (by omega)
      have AK := Aside0.mk (And.intro h1 h2)
      have hil : (k : Int) < (n : Int) := h2
      by_cases hs : b.sign = 91
      · rw [hs] at y0
        have yf3 := yf (k * 4 + 3)
        have B2 := Aside0.mk (st_put (q := 3) (u := .bool true) (b2 := ⟨b.sign, b.base, b.other, true⟩) hS hb (by omega) rfl rfl)
        clear hS hb hs yf y2 hj h1
        go_upto_region 6 with fail
        obtain ⟨w2, hw2⟩ : ∃ x, wr.setCell ⟨ga, k * 4 + 3, none⟩ (.bool true) = x := ⟨_, rfl⟩
        rw [hw2] at B2 ⊢
        clear hw2
        have hlen : k < (bs.set k ⟨b.sign, b.base, b.other, true⟩).length := by rw [List.length_set, HN.out]; omega
        obtain ⟨b3, hb3, v0, v1, v2, v3, vf⟩ := st_at B2.out (k := k) hlen
        have q0 : ∀ q, (w2.drewN q).cell? ⟨g, 0, none⟩ = some (.int .i64 h) := fun q => st_h (B2.out.drewN q)
        have q1 : ∀ q, (w2.drewN q).cell? ⟨g, 1, none⟩ = some (.slice (some ⟨ga, 0, none⟩) n c) := fun q => st_o (B2.out.drewN q)
        have q2 : ∀ q, (w2.drewN q).cell? ⟨ga, k * 4 + 1, none⟩ = some (.int .i64 b3.base) := fun q => v1
        clear v0 v1 v2 v3 vf hb3 x1 y0 y1 yf3
        go_quiet (fail)
        have qf : (w2.drewN nq).frozen? ⟨g, 0, none⟩ = false := st_f (B2.out.drewN nq) 0
        have qh := q0 nq
        have B3 := Aside0.mk (st_seth (B2.out.drewN nq) (-1))
        go_wp2_with fail
        go_ret
        exact ⟨⟨_, rfl⟩, _, _, _, by rw [List.length_set], B3.out⟩
      · have hb91 : (b.sign == 91) = false := by simp [hs]
        clear hS hb yf y1 y2 y3 hj h1
        go_wp2_with fail
        go_roundg (gk - 1)
        case measure => have := A3.out; have := AK.out; omega
        case rel => exact ⟨(k : Int) - 1, rfl, by omega, by have := AK.out; omega, by have := A3.out; have := AK.out; omega, B1.out⟩
    · have hd : decide (0 ≤ K) = false := decide_eq_false hj
      have B1 := Aside0.mk hS
      clear hS
      go_wp2_with fail
      go_ret
      exact ⟨⟨_, rfl⟩, _, _, _, rfl, B1.out⟩
end
end Go.Proofs.Ytkkgfpdjlohojaa.Fn
namespace Go.Proofs.Ytkkgfpdjlohojaa.Keep
open Go.RowKit Go.Proofs.YtkkgfpdjlohojaaW.PrintWords Go.Proofs.YtkkgfpdjlohojaaW.PrintLast Go.Proofs.YtkkgfpdjlohojaaW.PrintMore Go.Proofs.Ytkkgfpdjlohojaa.Kit
open Go.Proofs.Ytkkgfpdjlohojaa.Fn (RetB)
theorem enc_le (r : Int) : (Utf8.encode r).size ≤ 4 := by
  unfold Utf8.encode
  dsimp only
  repeat' split
  all_goals (show Array.size _ ≤ 4; simp)
def StrR (m : Nat) (e : Ending) : Prop := ∃ s : ByteArray, e = .returned (.string s) ∧ s.size ≤ m
section
variable {w0 W : World} {F : List HP}
set_option maxHeartbeats 1600000 in
set_option maxRecDepth 100000 in
theorem digits_0 (n : Nat) (d : Nat) (hm : n < 10) : Calls Try.prog 31 #[.int .i64 (n : Int)] W fun e w' => StrR (4 * (d + 1)) e ∧ W = w' := by
  have hd : decide (10 ≤ (n : Int)) = false := decide_eq_false (by omega)
  go_enter Try.func31, Try.ntmps31
  go_wp2_with fail
  go_ret
  exact ⟨⟨_, rfl, Nat.le_trans (enc_le _) (by omega)⟩, rfl⟩
set_option maxHeartbeats 1600000 in
set_option maxRecDepth 100000 in
theorem digits_s (n m d : Nat) (h10 : 10 ≤ n) (hm : n / 10 = m) (hn : n ≤ 1000000) (hdd : d ≤ 100) (ih : Calls Try.prog 31 #[.int .i64 (m : Int)] W fun e w' => StrR (4 * (d + 1)) e ∧ W = w') :
    Calls Try.prog 31 #[.int .i64 (n : Int)] W fun e w' => StrR (4 * (d + 2)) e ∧ W = w' := by
  have hd : decide (10 ≤ (n : Int)) = true := decide_eq_true (by omega)
  have hq : wrap64 ((n : Int) / 10) = (m : Int) := by rw [IntWalk.wrap64_in _ (by omega)]; omega
  have IH := Aside0.mk ih
  obtain ⟨E, hE⟩ : ∃ E, Utf8.encode (48 + (n : Int) % 10) = E := ⟨_, rfl⟩
  have he : E.size ≤ 4 := by rw [← hE]; exact enc_le _
  clear ih hn h10 hm
  go_enter Try.func31, Try.ntmps31
  go_wp2_with fail
  refine (IH.out).mono ?_
  rintro e w1 ⟨⟨s, rfl, hs⟩, rfl⟩
  have hsz : s.size + E.size ≤ 9223372036854775807 := by omega
  have HE := Aside0.mk (And.intro hs he)
  clear hq hd hs he hdd
  go_wp2_with fail
  go_ret
  exact ⟨⟨_, rfl, by have := HE.out; simp; omega⟩, rfl⟩
theorem digits_ : ∀ (d : Nat) (n : Nat) (W : World), n < 10 ^ (d + 1) → n ≤ 1000000 → d ≤ 100 → Calls Try.prog 31 #[.int .i64 (n : Int)] W fun e w' => StrR (4 * (d + 1)) e ∧ W = w'
  | 0, n, W, hn, hm, hdd => digits_0 n 0 (by omega)
  | d + 1, n, W, hn, hm, hdd => by
    by_cases h10 : 10 ≤ n
    · exact digits_s n (n / 10) d h10 rfl hm (by omega) (digits_ d (n / 10) W (by rw [Nat.pow_succ] at hn; omega) (by omega) (by omega))
    · exact digits_0 n (d + 1) (by omega)
set_option maxHeartbeats 1600000 in
set_option maxRecDepth 100000 in
theorem halts_ (s : ByteArray) (hs : s.size ≤ 1000000) : Calls Try.prog 22 #[.string s] W fun e w' => RetB e ∧ W = w' := by
  by_cases h2 : 2 < s.size
  · have hd : decide (2 < (s.size : Int)) = true := decide_eq_true (by omega)
    have hd2 : decide (2 < s.size) = true := decide_eq_true (by omega)
    have hw : wrap64 ((s.size : Int) - 2) = ((s.size - 2 : Nat) : Int) := by rw [IntWalk.wrap64_in _ (by omega)]; omega
    go_enter Try.func22, Try.ntmps22
    go_wp2_with fail
    go_ret
    exact ⟨⟨_, rfl⟩, rfl⟩
  · have hd : decide (2 < (s.size : Int)) = false := decide_eq_false (by omega)
    have hd2 : decide (2 < s.size) = false := decide_eq_false (by omega)
    go_enter Try.func22, Try.ntmps22
    go_wp2_with fail
    go_ret
    exact ⟨⟨_, rfl⟩, rfl⟩
set_option maxHeartbeats 1600000 in
theorem live_ (s : ByteArray) (hs : s.size ≤ 1000000) : Calls Try.prog 32 #[.string s] W fun e w' => StrR s.size e ∧ W = w' := by
  go_enter Try.func32, Try.ntmps32
  go_wp2_with fail
  refine (halts_ s hs).mono ?_
  rintro e w1 ⟨⟨b, rfl⟩, rfl⟩
  cases b with
  | true =>
    go_wp2_with fail
    go_ret
    exact ⟨⟨_, rfl, Nat.zero_le _⟩, rfl⟩
  | false =>
    go_wp2_with fail
    go_ret
    exact ⟨⟨_, rfl, Nat.le_refl _⟩, rfl⟩
end
end Go.Proofs.Ytkkgfpdjlohojaa.Keep
namespace Go.Proofs.Ytkkgfpdjlohojaa.Fn
open Go.RowKit Go.Proofs.YtkkgfpdjlohojaaW.PrintWords Go.Proofs.YtkkgfpdjlohojaaW.PrintLast Go.Proofs.YtkkgfpdjlohojaaW.PrintMore Go.Proofs.Ytkkgfpdjlohojaa.Kit
open Go.Proofs.Ytkkgfpdjlohojaa.TokP Go.Proofs.Ytkkgfpdjlohojaa.Tok
open Nest (rawAt)
section
variable {w0 W : World} {F : List HP} {g : Nat} {h : Int} {vo : Value} {bs : List Bk}
def StM (g : Nat) (h : Int) (ga m n c : Nat) (bs : List Bk) (F : List HP) : List HP := Blk g 78 #[.int .i64 h, .slice (some ⟨ga, 0, none⟩) m c] :: Row (Kd.raw 4) 86 (.slice (some ⟨ga, 0, none⟩) n c) (bs.map cellB) :: F
theorem stm_h {ga m n c : Nat} (hS : Sep w0 W (StM g h ga m n c bs F)) : W.cell? ⟨g, 0, none⟩ = some (.int .i64 h) := (Sep.cell (show Sep w0 W (Blk g 78 #[.int .i64 h, .slice (some ⟨ga, 0, none⟩) m c] :: _) from hS) 0).trans rfl
theorem stm_f {ga m n c : Nat} (hS : Sep w0 W (StM g h ga m n c bs F)) (i : Nat) : W.frozen? ⟨g, i, none⟩ = false := Sep.frozen (show Sep w0 W (Blk g 78 #[.int .i64 h, .slice (some ⟨ga, 0, none⟩) m c] :: _) from hS) i
theorem stm_at {ga m n c : Nat} {b : Bk} (hS : Sep w0 W (StM g h ga m n c bs F)) (hb : bs[m]? = some b) :
    W.cell? ⟨ga, m * 4, none⟩ = some (.int .i32 b.sign) ∧ W.cell? ⟨ga, m * 4 + 1, none⟩ = some (.int .i64 b.base) ∧ W.cell? ⟨ga, m * 4 + 2, none⟩ = some (.int .i64 b.other) ∧ W.cell? ⟨ga, m * 4 + 3, none⟩ = some (.bool b.left) := by
  obtain ⟨h3, h4⟩ := rawAt (k := m) (cl := cellB b) (Sep.at2 (show Sep w0 W (Blk g 78 #[.int .i64 h, .slice (some ⟨ga, 0, none⟩) m c] :: Row (Kd.raw 4) 86 (.slice (some ⟨ga, 0, none⟩) n c) (bs.map cellB) :: F) from hS)) (by rw [List.getElem?_map, hb]; rfl)
  exact ⟨h3 0 _ rfl, h3 1 _ rfl, h3 2 _ rfl, h3 3 _ rfl⟩
theorem stm_seth {ga m n c : Nat} (hS : Sep w0 W (StM g h ga m n c bs F)) (h' : Int) : Sep w0 (W.setCell ⟨g, 0, none⟩ (.int .i64 h')) (StM g h' ga m n c bs F) :=
  Sep.setBlk (show Sep w0 W (Blk g 78 #[.int .i64 h, .slice (some ⟨ga, 0, none⟩) m c] :: _) from hS) 0 (.int .i64 h')
theorem stm_pop {ga m n c : Nat} (hS : Sep w0 W (StL g h (.slice (some ⟨ga, 0, none⟩) n c) bs F)) : Sep w0 (W.setCell ⟨g, 1, none⟩ (.slice (some ⟨ga, 0, none⟩) m c)) (StM g h ga m n c bs F) :=
  Sep.setBlk (show Sep w0 W (Blk g 78 #[.int .i64 h, .slice (some ⟨ga, 0, none⟩) n c] :: _) from hS) 1 (.slice (some ⟨ga, 0, none⟩) m c)
theorem stm_end {ga m n c k : Nat} (hS : Sep w0 W (StM g h ga m n c bs F)) (hm : m < bs.length) (hk : k = m) : StT w0 W F g k := by
  subst hk
  refine ⟨h, .slice (some ⟨ga, 0, none⟩) k c, bs.take k, by rw [List.length_take]; omega, ?_⟩
  have h2 := Sep.rowTake (m := k) (Sep.at2 (show Sep w0 W (Blk g 78 #[.int .i64 h, .slice (some ⟨ga, 0, none⟩) k c] :: Row (Kd.raw 4) 86 (.slice (some ⟨ga, 0, none⟩) n c) (bs.map cellB) :: F) from hS)) (by rw [List.length_map]; omega)
  rw [← List.map_take] at h2
  exact h2.at2
set_option maxHeartbeats 3200000 in
set_option maxRecDepth 100000 in
theorem ends_c (hS : Sep w0 W (StL g h vo bs F)) (hp : 0 < bs.length) : Calls Try.prog 37 #[.pointer (some ⟨g, 0, none⟩), .int .i32 58] W fun e w' => RetB e ∧ StT w0 w' F g bs.length := by
  obtain ⟨n, hn⟩ : ∃ n, bs.length = n := ⟨_, rfl⟩
  obtain ⟨m, hm⟩ : ∃ m, n = m + 1 := ⟨n - 1, by omega⟩
  obtain ⟨ga, c, rfl⟩ := st_form hS hn (by omega)
  obtain ⟨b, hb, -⟩ := st_at hS (k := m) (by omega)
  have hNm : (n : Int) ≤ 9223372036854775807 := by
    have h2 : n ≤ 9223372036854775807 := (st_row hS).rowC'.2.1
    omega
  have z1q := fun q => st_o (hS.drewN q)
  have hw : wrap64 ((n : Int) - 1) = (m : Int) := by rw [IntWalk.wrap64_in _ (by omega)]; omega
  have hN1 : n - 1 = m := by omega
  have hmN : (m : Int) < (n : Int) := by omega
  have H := Aside0.mk hS
  have HB := Aside0.mk hb
  have HN := Aside0.mk (And.intro hn hm)
  clear hS hb hn hm hp
  go_enter Try.func37, Try.ntmps37
  go_wp2_with fail
  go_quiet (fail)
  go_wp2_with fail
  obtain ⟨w1, hw1⟩ : ∃ x, W.drewN nq = x := ⟨_, rfl⟩
  have B1 := Aside0.mk (H.out.drewN nq)
  rw [hw1] at B1 ⊢
  clear hw1 z1q
  have B1d := Aside0.mk B1.out.drew
  have c0 : w1.drew.cell? ⟨g, 0, none⟩ = some (.int .i64 h) := st_h B1.out.drew
  obtain ⟨b', hb', y0, y1, y2, y3, yf⟩ := st_at B1.out.drew (k := m) (by have := HN.out; omega)
  have hbb : b' = b := by have h9 := HB.out; rw [h9] at hb'; exact (Option.some.inj hb').symm
  subst hbb
  obtain ⟨b9, hb9, u0, u1, u2, u3, uf⟩ := st_at B1.out (k := m) (by have := HN.out; omega)
  have f13 := uf (m * 4)
  have f16 := uf (m * 4 + 2)
  have f19 := st_f B1.out 0
  have c19 := st_h B1.out
  have S13u : Sep w0 (w1.setCell ⟨ga, m * 4, none⟩ (.int .i32 58)) (StL g h (.slice (some ⟨ga, 0, none⟩) n c) (bs.set m ⟨58, b'.base, b'.other, b'.left⟩) F) := st_put (q := 0) (u := .int .i32 58) (b2 := ⟨58, b'.base, b'.other, b'.left⟩) B1.out HB.out (by omega) rfl rfl
  have c19u := st_h S13u
  have f19u := st_f S13u 0
  have S13 : Sep w0 (w1.drew.setCell ⟨ga, m * 4, none⟩ (.int .i32 58)) (StL g h (.slice (some ⟨ga, 0, none⟩) n c) (bs.set m ⟨58, b'.base, b'.other, b'.left⟩) F) := st_put (q := 0) (u := .int .i32 58) (b2 := ⟨58, b'.base, b'.other, b'.left⟩) B1.out.drew HB.out (by omega) rfl rfl
  obtain ⟨b3, hb3, x0, x1, x2, x3, xf⟩ := st_at S13 (k := m) (by rw [List.length_set]; have := HN.out; omega)
  have S16 := st_put (q := 2) (u := .int .i64 h) (b2 := ⟨b3.sign, b3.base, h, b3.left⟩) S13 hb3 (by omega) rfl rfl
  have S19 := Aside0.mk (st_seth S16 b'.base)
  clear S13u S13 S16 hb3 x0 x1 x2 x3 xf yf hb' y0 y2 y3 u1 u3 uf hb9
  refine start_ (n := 20) (S := fun w' => w'.cell? ⟨g, 0, none⟩ = some (.int .i64 h) ∧ w'.cell? ⟨ga, m * 4 + 1, none⟩ = some (.int .i64 b'.base)) (ds := [13, 16, 19]) #[Z,Z,Z,Z,Z,Z,Z,Z,Z,Z,Z,Z,Z,Z,Z,Z,Z,Z,Z,Z] (by kernel_rfl) rfl rfl ⟨c0, y1⟩ (fun hHeld => ?_)
  refine pu_ 0 19 ?_ #[J,Z,Z,Z,Z,Z,Z,Z,Z,Z,Z,Z,Z,Z,Z,Z,Z,Z,Z,Z] rfl rfl ?_ ?_ ?_ ?_
  rotate_left
  · intro w'
    go_simp
    with_reducible rfl
  rotate_left
  · simp only [aP]
    rfl
  refine pu_ 1 20 ?_ #[J,J,Z,Z,Z,Z,Z,Z,Z,Z,Z,Z,Z,Z,Z,Z,Z,Z,Z,Z] rfl rfl ?_ ?_ ?_ ?_
  rotate_left
  · intro w'
    go_simp
    with_reducible rfl
  rotate_left
  · simp only [aP]
    rfl
  refine pu_ 2 21 ?_ #[J,J,J,Z,Z,Z,Z,Z,Z,Z,Z,Z,Z,Z,Z,Z,Z,Z,Z,Z] rfl rfl ?_ ?_ ?_ ?_
  rotate_left
  · intro w'
    go_simp
    with_reducible rfl
  rotate_left
  · simp only [aP]
    rfl
  refine pu_ 3 22 ?_ #[J,J,J,J,Z,Z,Z,Z,Z,Z,Z,Z,Z,Z,Z,Z,Z,Z,Z,Z] rfl rfl ?_ ?_ ?_ ?_
  rotate_left
  · intro w'
    go_simp
    with_reducible rfl
  rotate_left
  · simp only [aP]
    rfl
  refine pu_ 4 23 ?_ #[J,J,J,J,J,Z,Z,Z,Z,Z,Z,Z,Z,Z,Z,Z,Z,Z,Z,Z] rfl rfl ?_ ?_ ?_ ?_
  rotate_left
  · intro w'
    go_simp
    with_reducible rfl
  rotate_left
  · simp only [aP]
    rfl
  refine pu_ 5 24 ?_ #[J,J,J,J,J,J,Z,Z,Z,Z,Z,Z,Z,Z,Z,Z,Z,Z,Z,Z] rfl rfl ?_ ?_ ?_ ?_
  rotate_left
  · intro w'
    go_simp
    with_reducible rfl
  rotate_left
  · simp only [aP]
    rfl
  refine pu_ 7 26 ?_ #[J,J,J,J,J,J,Z,J,Z,Z,Z,Z,Z,Z,Z,Z,Z,Z,Z,Z] rfl rfl ?_ ?_ ?_ ?_
  rotate_left
  · intro w'
    go_simp
    with_reducible rfl
  rotate_left
  · simp only [aP]
    rfl
  refine pu_ 8 27 ?_ #[J,J,J,J,J,J,Z,J,J,Z,Z,Z,Z,Z,Z,Z,Z,Z,Z,Z] rfl rfl ?_ ?_ ?_ ?_
  rotate_left
  · intro w'
    go_simp
    with_reducible rfl
  rotate_left
  · simp only [aP]
    rfl
  refine pu_ 9 28 ?_ #[J,J,J,J,J,J,Z,J,J,J,Z,Z,Z,Z,Z,Z,Z,Z,Z,Z] rfl rfl ?_ ?_ ?_ ?_
  rotate_left
  · intro w'
    go_simp
    with_reducible rfl
  rotate_left
  · simp only [aP]
    rfl
  refine ta_ 6 25 ?_ #[J,J,J,J,J,J,J,J,J,J,Z,Z,Z,Z,Z,Z,Z,Z,Z,Z] rfl rfl ?_ hHeld ?_ ?_ ?_
  rotate_left
  · rintro w' ⟨s0, s1⟩
    go_simp
    with_reducible rfl
  rotate_left
  · simp only [aP]
    rfl
  refine ta_ 10 29 ?_ #[J,J,J,J,J,J,J,J,J,J,J,Z,Z,Z,Z,Z,Z,Z,Z,Z] rfl rfl ?_ hHeld ?_ ?_ ?_
  rotate_left
  · rintro w' ⟨s0, s1⟩
    go_simp
    with_reducible rfl
  rotate_left
  · simp only [aP]
    rfl
  refine pu_ 11 30 ?_ #[J,J,J,J,J,J,J,J,J,J,J,J,Z,Z,Z,Z,Z,Z,Z,Z] rfl rfl ?_ ?_ ?_ ?_
  rotate_left
  · intro w'
    go_simp
    with_reducible rfl
  rotate_left
  · simp only [aP]
    rfl
  refine pu_ 12 31 ?_ #[J,J,J,J,J,J,J,J,J,J,J,J,J,Z,Z,Z,Z,Z,Z,Z] rfl rfl ?_ ?_ ?_ ?_
  rotate_left
  · intro w'
    go_simp
    with_reducible rfl
  rotate_left
  · simp only [aP]
    rfl
  refine last_ (i := 13) (N := none) #[J,J,J,J,J,J,J,J,J,J,J,J,J,J,Z,Z,Z,Z,Z,Z] rfl rfl (by kernel_rfl) (by decide) (fun K hK => ?_)
  refine skip_ (w1 := ?_) (by rfl) rfl ?_ ?_
  rotate_left
  · go_simp
    rfl
  refine hK.out _ _ ?_
  clear hK K
  refine pu_ 14 32 ?_ #[J,J,J,J,J,J,J,J,J,J,J,J,J,J,J,Z,Z,Z,Z,Z] rfl rfl ?_ ?_ ?_ ?_
  rotate_left
  · intro w'
    go_simp
    with_reducible rfl
  rotate_left
  · simp only [aP]
    rfl
  refine pu_ 15 33 ?_ #[J,J,J,J,J,J,J,J,J,J,J,J,J,J,J,J,Z,Z,Z,Z] rfl rfl ?_ ?_ ?_ ?_
  rotate_left
  · intro w'
    go_simp
    with_reducible rfl
  rotate_left
  · simp only [aP]
    rfl
  refine last_ (i := 16) (N := none) #[J,J,J,J,J,J,J,J,J,J,J,J,J,J,J,J,J,Z,Z,Z] rfl rfl (by kernel_rfl) (by decide) (fun K hK => ?_)
  refine skip_ (w1 := ?_) (by rfl) rfl ?_ ?_
  rotate_left
  · go_simp
    rfl
  refine hK.out _ _ ?_
  clear hK K
  refine pu_ 17 34 ?_ #[J,J,J,J,J,J,J,J,J,J,J,J,J,J,J,J,J,J,Z,Z] rfl rfl ?_ ?_ ?_ ?_
  rotate_left
  · intro w'
    go_simp
    with_reducible rfl
  rotate_left
  · simp only [aP]
    rfl
  refine pu_ 18 35 ?_ #[J,J,J,J,J,J,J,J,J,J,J,J,J,J,J,J,J,J,J,Z] rfl rfl ?_ ?_ ?_ ?_
  rotate_left
  · intro w'
    go_simp
    with_reducible rfl
  rotate_left
  · simp only [aP]
    rfl
  refine last_ (i := 19) (N := none) #[J,J,J,J,J,J,J,J,J,J,J,J,J,J,J,J,J,J,J,J] rfl rfl (by kernel_rfl) (by decide) (fun K hK => ?_)
  refine skip_ (w1 := ?_) (by rfl) rfl ?_ ?_
  rotate_left
  · go_simp
    rfl
  refine hK.out _ _ ?_
  clear hK K
  refine done_ (by kernel_rfl) ?_
  go_wp2_with fail
  go_ret
  exact ⟨⟨_, rfl⟩, _, _, _, by rw [List.length_set, List.length_set], S19.out⟩
end
end Go.Proofs.Ytkkgfpdjlohojaa.Fn
namespace Go.Proofs.Ytkkgfpdjlohojaa.Fn
open Go.RowKit Go.Proofs.YtkkgfpdjlohojaaW.PrintWords Go.Proofs.YtkkgfpdjlohojaaW.PrintLast Go.Proofs.YtkkgfpdjlohojaaW.PrintMore Go.Proofs.Ytkkgfpdjlohojaa.Kit
open Go.Proofs.Ytkkgfpdjlohojaa.TokP Go.Proofs.Ytkkgfpdjlohojaa.Tok
open Nest (rawAt)
section
variable {w0 W : World} {F : List HP} {g : Nat} {h : Int} {vo : Value} {bs : List Bk}
set_option maxHeartbeats 12800000 in
set_option maxRecDepth 100000 in
theorem ends_x (hS : Sep w0 W (StL g h vo bs F)) (hp : 0 < bs.length) (r : Int) (hr : ¬ r = 58) : Calls Try.prog 37 #[.pointer (some ⟨g, 0, none⟩), .int .i32 r] W fun e w' => RetB e ∧ StT w0 w' F g (bs.length - 1) := by
  obtain ⟨n, hn⟩ : ∃ n, bs.length = n := ⟨_, rfl⟩
  obtain ⟨m, hm⟩ : ∃ m, n = m + 1 := ⟨n - 1, by omega⟩
  obtain ⟨ga, c, rfl⟩ := st_form hS hn (by omega)
  obtain ⟨b, hb, -⟩ := st_at hS (k := m) (by omega)
  have hNm : (n : Int) ≤ 9223372036854775807 := by
    have h2 : n ≤ 9223372036854775807 := (st_row hS).rowC'.2.1
    omega
  have hnc : n ≤ c := (st_row hS).rowC.2.1
  have z1q := fun q => st_o (hS.drewN q)
  have hw : wrap64 ((n : Int) - 1) = (m : Int) := by rw [IntWalk.wrap64_in _ (by omega)]; omega
  have hN1 : n - 1 = m := by omega
  have hmN : (m : Int) < (n : Int) := by omega
  have hcut := cutHi (z := (.agg #[.int .i32 0, .int .i64 0, .int .i64 0, .bool false])) (sz := 4) (bytes := 32) Try.underlying76 infoBk (some ⟨ga, 0, none⟩) n c m (K := (m : Int)) rfl (by omega) hnc
  have hrb : (r == 58) = false := by simp [hr]
  have H := Aside0.mk hS
  have HB := Aside0.mk hb
  have HN := Aside0.mk (And.intro hn hm)
  have HE : Aside0 (m < bs.length ∧ bs.length - 1 = m) := ⟨by omega, by omega⟩
  clear hS hb hn hm hp hnc
  go_enter Try.func37, Try.ntmps37
  go_wp2_with fail
  go_quiet (fail)
  go_wp2_with fail
  obtain ⟨w1, hw1⟩ : ∃ x, W.drewN nq = x := ⟨_, rfl⟩
  have B1 := Aside0.mk (H.out.drewN nq)
  rw [hw1] at B1 ⊢
  clear hw1 z1q
  have d1 : w1.drew.cell? ⟨g, 1, none⟩ = some (.slice (some ⟨ga, 0, none⟩) n c) := st_o B1.out.drew
  have d2 : w1.drew.frozen? ⟨g, 1, none⟩ = false := st_f B1.out.drew 1
  refine start_ (n := 15) (S := fun w' => w'.cell? ⟨g, 1, none⟩ = some (.slice (some ⟨ga, 0, none⟩) n c)) (ds := [14]) #[Z,Z,Z,Z,Z,Z,Z,Z,Z,Z,Z,Z,Z,Z,Z] (by kernel_rfl) rfl rfl (d1) (fun hHeld => ?_)
  refine pu_ 0 36 ?_ #[J,Z,Z,Z,Z,Z,Z,Z,Z,Z,Z,Z,Z,Z,Z] rfl rfl ?_ ?_ ?_ ?_
  rotate_left
  · intro w'
    go_simp
    with_reducible rfl
  rotate_left
  · simp only [aP]
    rfl
  refine pu_ 1 37 ?_ #[J,J,Z,Z,Z,Z,Z,Z,Z,Z,Z,Z,Z,Z,Z] rfl rfl ?_ ?_ ?_ ?_
  rotate_left
  · intro w'
    go_simp
    with_reducible rfl
  rotate_left
  · simp only [aP]
    rfl
  refine pu_ 2 38 ?_ #[J,J,J,Z,Z,Z,Z,Z,Z,Z,Z,Z,Z,Z,Z] rfl rfl ?_ ?_ ?_ ?_
  rotate_left
  · intro w'
    go_simp
    with_reducible rfl
  rotate_left
  · simp only [aP]
    rfl
  refine pu_ 3 39 ?_ #[J,J,J,J,Z,Z,Z,Z,Z,Z,Z,Z,Z,Z,Z] rfl rfl ?_ ?_ ?_ ?_
  rotate_left
  · intro w'
    go_simp
    with_reducible rfl
  rotate_left
  · simp only [aP]
    rfl
  refine pu_ 5 41 ?_ #[J,J,J,J,Z,J,Z,Z,Z,Z,Z,Z,Z,Z,Z] rfl rfl ?_ ?_ ?_ ?_
  rotate_left
  · intro w'
    go_simp
    with_reducible rfl
  rotate_left
  · simp only [aP]
    rfl
  refine pu_ 6 42 ?_ #[J,J,J,J,Z,J,J,Z,Z,Z,Z,Z,Z,Z,Z] rfl rfl ?_ ?_ ?_ ?_
  rotate_left
  · intro w'
    go_simp
    with_reducible rfl
  rotate_left
  · simp only [aP]
    rfl
  refine pu_ 7 43 ?_ #[J,J,J,J,Z,J,J,J,Z,Z,Z,Z,Z,Z,Z] rfl rfl ?_ ?_ ?_ ?_
  rotate_left
  · intro w'
    go_simp
    with_reducible rfl
  rotate_left
  · simp only [aP]
    rfl
  refine ta_ 4 40 ?_ #[J,J,J,J,J,J,J,J,Z,Z,Z,Z,Z,Z,Z] rfl rfl ?_ hHeld ?_ ?_ ?_
  rotate_left
  · intro w' s0
    go_simp
    with_reducible rfl
  rotate_left
  · simp only [aP]
    rfl
  refine ta_ 8 44 ?_ #[J,J,J,J,J,J,J,J,J,Z,Z,Z,Z,Z,Z] rfl rfl ?_ hHeld ?_ ?_ ?_
  rotate_left
  · intro w' s0
    go_simp
    with_reducible rfl
  rotate_left
  · simp only [aP]
    rfl
  refine pu_ 9 45 ?_ #[J,J,J,J,J,J,J,J,J,J,Z,Z,Z,Z,Z] rfl rfl ?_ ?_ ?_ ?_
  rotate_left
  · intro w'
    go_simp
    with_reducible rfl
  rotate_left
  · simp only [aP]
    rfl
  refine pu_ 10 46 ?_ #[J,J,J,J,J,J,J,J,J,J,J,Z,Z,Z,Z] rfl rfl ?_ ?_ ?_ ?_
  rotate_left
  · intro w'
    go_simp
    with_reducible rfl
  rotate_left
  · simp only [aP]
    rfl
  refine pu_ 11 47 ?_ #[J,J,J,J,J,J,J,J,J,J,J,J,Z,Z,Z] rfl rfl ?_ ?_ ?_ ?_
  rotate_left
  · intro w'
    go_simp
    with_reducible rfl
  rotate_left
  · simp only [aP]
    rfl
  refine pu_ 12 48 ?_ #[J,J,J,J,J,J,J,J,J,J,J,J,J,Z,Z] rfl rfl ?_ ?_ ?_ ?_
  rotate_left
  · intro w'
    go_simp
    with_reducible rfl
  rotate_left
  · simp only [aP]
    rfl
  refine pu_ 13 49 ?_ #[J,J,J,J,J,J,J,J,J,J,J,J,J,J,Z] rfl rfl ?_ ?_ ?_ ?_
  rotate_left
  · intro w'
    go_simp
    with_reducible rfl
  rotate_left
  · simp only [aP]
    rfl
  refine last_ (i := 14) (N := none) #[J,J,J,J,J,J,J,J,J,J,J,J,J,J,J] rfl rfl (by kernel_rfl) (by decide) (fun K hK => ?_)
  refine skip_ (w1 := ?_) (by rfl) rfl ?_ ?_
  rotate_left
  · go_simp
    rfl
  refine hK.out _ _ ?_
  clear hK K
  refine done_ (by kernel_rfl) ?_
  have B2 := Aside0.mk (stm_pop (m := m) B1.out).drew
  obtain ⟨w2, hw2⟩ : ∃ x, (w1.setCell ⟨g, 1, none⟩ (.slice (some ⟨ga, 0, none⟩) m c)).drew = x := ⟨_, rfl⟩
  rw [hw2] at B2 ⊢
  clear hw2 d1 d2 hcut
  obtain ⟨y0, y1, y2, y3⟩ := stm_at B2.out HB.out
  obtain ⟨bsg, hsg⟩ : ∃ x, b.sign = x := ⟨_, rfl⟩
  obtain ⟨bba, hba⟩ : ∃ x, b.base = x := ⟨_, rfl⟩
  obtain ⟨bot, hot⟩ : ∃ x, b.other = x := ⟨_, rfl⟩
  obtain ⟨ble, hle⟩ : ∃ x, b.left = x := ⟨_, rfl⟩
  rw [hsg] at y0
  rw [hba] at y1
  rw [hot] at y2
  rw [hle] at y3
  clear hsg hba hot hle
  have q0 : ∀ q, (w2.drewN q).cell? ⟨g, 0, none⟩ = some (.int .i64 h) := fun q => stm_h (B2.out.drewN q)
  have q1 : ∀ q, (w2.drewN q).cell? ⟨ga, m * 4 + 1, none⟩ = some (.int .i64 bba) := fun q => y1
  have q2 : ∀ q, (w2.drewN q).cell? ⟨ga, m * 4 + 2, none⟩ = some (.int .i64 bot) := fun q => y2
  have q3 : ∀ q, (w2.drewN q).cell? ⟨ga, m * 4 + 3, none⟩ = some (.bool ble) := fun q => y3
  have q4 : ∀ q, (w2.drewN q).cell? ⟨ga, m * 4, none⟩ = some (.int .i32 bsg) := fun q => y0
  by_cases h58 : bsg = 58
  · subst h58
    by_cases ho : 0 ≤ bot
    · have ho1 : decide (0 ≤ bot) = true := decide_eq_true ho
      by_cases hh : 0 ≤ h
      · have hh1 : decide (0 ≤ h) = true := decide_eq_true hh
        by_cases he : bot = h
        · have he1 : (bot != h) = false := by simp [he]
          clear he
          go_wp2_with fail
          go_quiet (fail)
          go_wp2_with fail
          obtain ⟨w3, hw3⟩ : ∃ x, w2.drewN nq = x := ⟨_, rfl⟩
          have B3 := Aside0.mk (B2.out.drewN nq)
          have e0 : (w2.drewN nq).drew.cell? ⟨g, 0, none⟩ = some (.int .i64 h) := stm_h (B2.out.drewN nq).drew
          have e2 : (w2.drewN nq).drew.cell? ⟨ga, m * 4 + 2, none⟩ = some (.int .i64 bot) := y2
          have ef : (w2.drewN nq).drew.frozen? ⟨g, 0, none⟩ = false := stm_f (B2.out.drewN nq).drew 0
          rw [hw3] at B3 e0 e2 ef ⊢
          clear hw3 q0 q1 q2 q3 q4 y0 y1 y2 y3
          refine start_ (n := 13) (S := fun w' => w'.cell? ⟨g, 0, none⟩ = some (.int .i64 h) ∧ w'.cell? ⟨ga, m * 4 + 2, none⟩ = some (.int .i64 bot)) (ds := [12]) #[Z,Z,Z,Z,Z,Z,Z,Z,Z,Z,Z,Z,Z] (by kernel_rfl) rfl rfl ⟨e0, e2⟩ (fun hHeld => ?_)
          refine pu_ 0 78 ?_ #[J,Z,Z,Z,Z,Z,Z,Z,Z,Z,Z,Z,Z] rfl rfl ?_ ?_ ?_ ?_
          rotate_left
          · intro w'
            go_simp
            with_reducible rfl
          rotate_left
          · simp only [aP]
            rfl
          refine pu_ 1 79 ?_ #[J,J,Z,Z,Z,Z,Z,Z,Z,Z,Z,Z,Z] rfl rfl ?_ ?_ ?_ ?_
          rotate_left
          · intro w'
            go_simp
            with_reducible rfl
          rotate_left
          · simp only [aP]
            rfl
          refine pu_ 2 80 ?_ #[J,J,J,Z,Z,Z,Z,Z,Z,Z,Z,Z,Z] rfl rfl ?_ ?_ ?_ ?_
          rotate_left
          · intro w'
            go_simp
            with_reducible rfl
          rotate_left
          · simp only [aP]
            rfl
          refine pu_ 3 81 ?_ #[J,J,J,J,Z,Z,Z,Z,Z,Z,Z,Z,Z] rfl rfl ?_ ?_ ?_ ?_
          rotate_left
          · intro w'
            go_simp
            with_reducible rfl
          rotate_left
          · simp only [aP]
            rfl
          refine pu_ 5 83 ?_ #[J,J,J,J,Z,J,Z,Z,Z,Z,Z,Z,Z] rfl rfl ?_ ?_ ?_ ?_
          rotate_left
          · intro w'
            go_simp
            with_reducible rfl
          rotate_left
          · simp only [aP]
            rfl
          refine pu_ 6 84 ?_ #[J,J,J,J,Z,J,J,Z,Z,Z,Z,Z,Z] rfl rfl ?_ ?_ ?_ ?_
          rotate_left
          · intro w'
            go_simp
            with_reducible rfl
          rotate_left
          · simp only [aP]
            rfl
          refine pu_ 7 85 ?_ #[J,J,J,J,Z,J,J,J,Z,Z,Z,Z,Z] rfl rfl ?_ ?_ ?_ ?_
          rotate_left
          · intro w'
            go_simp
            with_reducible rfl
          rotate_left
          · simp only [aP]
            rfl
          refine ta_ 4 82 ?_ #[J,J,J,J,J,J,J,J,Z,Z,Z,Z,Z] rfl rfl ?_ hHeld ?_ ?_ ?_
          rotate_left
          · rintro w' ⟨s0, s1⟩
            go_simp
            with_reducible rfl
          rotate_left
          · simp only [aP]
            rfl
          refine ta_ 8 86 ?_ #[J,J,J,J,J,J,J,J,J,Z,Z,Z,Z] rfl rfl ?_ hHeld ?_ ?_ ?_
          rotate_left
          · rintro w' ⟨s0, s1⟩
            go_simp
            with_reducible rfl
          rotate_left
          · simp only [aP]
            rfl
          refine pu_ 9 87 ?_ #[J,J,J,J,J,J,J,J,J,J,Z,Z,Z] rfl rfl ?_ ?_ ?_ ?_
          rotate_left
          · intro w'
            go_simp
            with_reducible rfl
          rotate_left
          · simp only [aP]
            rfl
          refine pu_ 10 88 ?_ #[J,J,J,J,J,J,J,J,J,J,J,Z,Z] rfl rfl ?_ ?_ ?_ ?_
          rotate_left
          · intro w'
            go_simp
            with_reducible rfl
          rotate_left
          · simp only [aP]
            rfl
          refine pu_ 11 89 ?_ #[J,J,J,J,J,J,J,J,J,J,J,J,Z] rfl rfl ?_ ?_ ?_ ?_
          rotate_left
          · intro w'
            go_simp
            with_reducible rfl
          rotate_left
          · simp only [aP]
            rfl
          refine last_ (i := 12) (N := none) #[J,J,J,J,J,J,J,J,J,J,J,J,J] rfl rfl (by kernel_rfl) (by decide) (fun K hK => ?_)
          refine skip_ (w1 := ?_) (by rfl) rfl ?_ ?_
          rotate_left
          · go_simp
            rfl
          refine hK.out _ _ ?_
          clear hK K
          refine done_ (by kernel_rfl) ?_
          all_goals go_wp2_with fail
          all_goals go_ret
          all_goals exact ⟨⟨_, rfl⟩, stm_end (stm_seth B3.out _).drew HE.out.1 HE.out.2⟩
        · have he1 : (bot != h) = true := by simp [he]
          go_wp2_with fail
          go_quiet (fail)
          go_wp2_with fail
          go_ret
          exact ⟨⟨_, rfl⟩, stm_end (B2.out.drewN _) HE.out.1 HE.out.2⟩
      · have hh1 : decide (0 ≤ h) = false := decide_eq_false hh
        go_wp2_with fail
        go_quiet (fail)
        go_wp2_with fail
        obtain ⟨w3, hw3⟩ : ∃ x, w2.drewN nq = x := ⟨_, rfl⟩
        have B3 := Aside0.mk (B2.out.drewN nq)
        have e0 : (w2.drewN nq).drew.cell? ⟨g, 0, none⟩ = some (.int .i64 h) := stm_h (B2.out.drewN nq).drew
        have e2 : (w2.drewN nq).drew.cell? ⟨ga, m * 4 + 2, none⟩ = some (.int .i64 bot) := y2
        have ef : (w2.drewN nq).drew.frozen? ⟨g, 0, none⟩ = false := stm_f (B2.out.drewN nq).drew 0
        rw [hw3] at B3 e0 e2 ef ⊢
        clear hw3 q0 q1 q2 q3 q4 y0 y1 y2 y3
        refine start_ (n := 13) (S := fun w' => w'.cell? ⟨g, 0, none⟩ = some (.int .i64 h) ∧ w'.cell? ⟨ga, m * 4 + 2, none⟩ = some (.int .i64 bot)) (ds := [12]) #[Z,Z,Z,Z,Z,Z,Z,Z,Z,Z,Z,Z,Z] (by kernel_rfl) rfl rfl ⟨e0, e2⟩ (fun hHeld => ?_)
        refine pu_ 0 78 ?_ #[J,Z,Z,Z,Z,Z,Z,Z,Z,Z,Z,Z,Z] rfl rfl ?_ ?_ ?_ ?_
        rotate_left
        · intro w'
          go_simp
          with_reducible rfl
        rotate_left
        · simp only [aP]
          rfl
        refine pu_ 1 79 ?_ #[J,J,Z,Z,Z,Z,Z,Z,Z,Z,Z,Z,Z] rfl rfl ?_ ?_ ?_ ?_
        rotate_left
        · intro w'
          go_simp
          with_reducible rfl
        rotate_left
        · simp only [aP]
          rfl
        refine pu_ 2 80 ?_ #[J,J,J,Z,Z,Z,Z,Z,Z,Z,Z,Z,Z] rfl rfl ?_ ?_ ?_ ?_
        rotate_left
        · intro w'
          go_simp
          with_reducible rfl
        rotate_left
        · simp only [aP]
          rfl
        refine pu_ 3 81 ?_ #[J,J,J,J,Z,Z,Z,Z,Z,Z,Z,Z,Z] rfl rfl ?_ ?_ ?_ ?_
        rotate_left
        · intro w'
          go_simp
          with_reducible rfl
        rotate_left
        · simp only [aP]
          rfl
        refine pu_ 5 83 ?_ #[J,J,J,J,Z,J,Z,Z,Z,Z,Z,Z,Z] rfl rfl ?_ ?_ ?_ ?_
        rotate_left
        · intro w'
          go_simp
          with_reducible rfl
        rotate_left
        · simp only [aP]
          rfl
        refine pu_ 6 84 ?_ #[J,J,J,J,Z,J,J,Z,Z,Z,Z,Z,Z] rfl rfl ?_ ?_ ?_ ?_
        rotate_left
        · intro w'
          go_simp
          with_reducible rfl
        rotate_left
        · simp only [aP]
          rfl
        refine pu_ 7 85 ?_ #[J,J,J,J,Z,J,J,J,Z,Z,Z,Z,Z] rfl rfl ?_ ?_ ?_ ?_
        rotate_left
        · intro w'
          go_simp
          with_reducible rfl
        rotate_left
        · simp only [aP]
          rfl
        refine ta_ 4 82 ?_ #[J,J,J,J,J,J,J,J,Z,Z,Z,Z,Z] rfl rfl ?_ hHeld ?_ ?_ ?_
        rotate_left
        · rintro w' ⟨s0, s1⟩
          go_simp
          with_reducible rfl
        rotate_left
        · simp only [aP]
          rfl
        refine ta_ 8 86 ?_ #[J,J,J,J,J,J,J,J,J,Z,Z,Z,Z] rfl rfl ?_ hHeld ?_ ?_ ?_
        rotate_left
        · rintro w' ⟨s0, s1⟩
          go_simp
          with_reducible rfl
        rotate_left
        · simp only [aP]
          rfl
        refine pu_ 9 87 ?_ #[J,J,J,J,J,J,J,J,J,J,Z,Z,Z] rfl rfl ?_ ?_ ?_ ?_
        rotate_left
        · intro w'
          go_simp
          with_reducible rfl
        rotate_left
        · simp only [aP]
          rfl
        refine pu_ 10 88 ?_ #[J,J,J,J,J,J,J,J,J,J,J,Z,Z] rfl rfl ?_ ?_ ?_ ?_
        rotate_left
        · intro w'
          go_simp
          with_reducible rfl
        rotate_left
        · simp only [aP]
          rfl
        refine pu_ 11 89 ?_ #[J,J,J,J,J,J,J,J,J,J,J,J,Z] rfl rfl ?_ ?_ ?_ ?_
        rotate_left
        · intro w'
          go_simp
          with_reducible rfl
        rotate_left
        · simp only [aP]
          rfl
        refine last_ (i := 12) (N := none) #[J,J,J,J,J,J,J,J,J,J,J,J,J] rfl rfl (by kernel_rfl) (by decide) (fun K hK => ?_)
        refine skip_ (w1 := ?_) (by rfl) rfl ?_ ?_
        rotate_left
        · go_simp
          rfl
        refine hK.out _ _ ?_
        clear hK K
        refine done_ (by kernel_rfl) ?_
        all_goals go_wp2_with fail
        all_goals go_ret
        all_goals exact ⟨⟨_, rfl⟩, stm_end (stm_seth B3.out _).drew HE.out.1 HE.out.2⟩
    · have ho1 : decide (0 ≤ bot) = false := decide_eq_false ho
      go_wp2_with fail
      go_quiet (fail)
      go_wp2_with fail
      obtain ⟨w3, hw3⟩ : ∃ x, w2.drewN nq = x := ⟨_, rfl⟩
      have B3 := Aside0.mk (B2.out.drewN nq)
      have e0 : (w2.drewN nq).drew.cell? ⟨g, 0, none⟩ = some (.int .i64 h) := stm_h (B2.out.drewN nq).drew
      have e2 : (w2.drewN nq).drew.cell? ⟨ga, m * 4 + 2, none⟩ = some (.int .i64 bot) := y2
      have ef : (w2.drewN nq).drew.frozen? ⟨g, 0, none⟩ = false := stm_f (B2.out.drewN nq).drew 0
      rw [hw3] at B3 e0 e2 ef ⊢
      clear hw3 q0 q1 q2 q3 q4 y0 y1 y2 y3
      refine start_ (n := 13) (S := fun w' => w'.cell? ⟨g, 0, none⟩ = some (.int .i64 h) ∧ w'.cell? ⟨ga, m * 4 + 2, none⟩ = some (.int .i64 bot)) (ds := [12]) #[Z,Z,Z,Z,Z,Z,Z,Z,Z,Z,Z,Z,Z] (by kernel_rfl) rfl rfl ⟨e0, e2⟩ (fun hHeld => ?_)
      refine pu_ 0 78 ?_ #[J,Z,Z,Z,Z,Z,Z,Z,Z,Z,Z,Z,Z] rfl rfl ?_ ?_ ?_ ?_
      rotate_left
      · intro w'
        go_simp
        with_reducible rfl
      rotate_left
      · simp only [aP]
        rfl
      refine pu_ 1 79 ?_ #[J,J,Z,Z,Z,Z,Z,Z,Z,Z,Z,Z,Z] rfl rfl ?_ ?_ ?_ ?_
      rotate_left
      · intro w'
        go_simp
        with_reducible rfl
      rotate_left
      · simp only [aP]
        rfl
      refine pu_ 2 80 ?_ #[J,J,J,Z,Z,Z,Z,Z,Z,Z,Z,Z,Z] rfl rfl ?_ ?_ ?_ ?_
      rotate_left
      · intro w'
        go_simp
        with_reducible rfl
      rotate_left
      · simp only [aP]
        rfl
      refine pu_ 3 81 ?_ #[J,J,J,J,Z,Z,Z,Z,Z,Z,Z,Z,Z] rfl rfl ?_ ?_ ?_ ?_
      rotate_left
      · intro w'
        go_simp
        with_reducible rfl
      rotate_left
      · simp only [aP]
        rfl
      refine pu_ 5 83 ?_ #[J,J,J,J,Z,J,Z,Z,Z,Z,Z,Z,Z] rfl rfl ?_ ?_ ?_ ?_
      rotate_left
      · intro w'
        go_simp
        with_reducible rfl
      rotate_left
      · simp only [aP]
        rfl
      refine pu_ 6 84 ?_ #[J,J,J,J,Z,J,J,Z,Z,Z,Z,Z,Z] rfl rfl ?_ ?_ ?_ ?_
      rotate_left
      · intro w'
        go_simp
        with_reducible rfl
      rotate_left
      · simp only [aP]
        rfl
      refine pu_ 7 85 ?_ #[J,J,J,J,Z,J,J,J,Z,Z,Z,Z,Z] rfl rfl ?_ ?_ ?_ ?_
      rotate_left
      · intro w'
        go_simp
        with_reducible rfl
      rotate_left
      · simp only [aP]
        rfl
      refine ta_ 4 82 ?_ #[J,J,J,J,J,J,J,J,Z,Z,Z,Z,Z] rfl rfl ?_ hHeld ?_ ?_ ?_
      rotate_left
      · rintro w' ⟨s0, s1⟩
        go_simp
        with_reducible rfl
      rotate_left
      · simp only [aP]
        rfl
      refine ta_ 8 86 ?_ #[J,J,J,J,J,J,J,J,J,Z,Z,Z,Z] rfl rfl ?_ hHeld ?_ ?_ ?_
      rotate_left
      · rintro w' ⟨s0, s1⟩
        go_simp
        with_reducible rfl
      rotate_left
      · simp only [aP]
        rfl
      refine pu_ 9 87 ?_ #[J,J,J,J,J,J,J,J,J,J,Z,Z,Z] rfl rfl ?_ ?_ ?_ ?_
      rotate_left
      · intro w'
        go_simp
        with_reducible rfl
      rotate_left
      · simp only [aP]
        rfl
      refine pu_ 10 88 ?_ #[J,J,J,J,J,J,J,J,J,J,J,Z,Z] rfl rfl ?_ ?_ ?_ ?_
      rotate_left
      · intro w'
        go_simp
        with_reducible rfl
      rotate_left
      · simp only [aP]
        rfl
      refine pu_ 11 89 ?_ #[J,J,J,J,J,J,J,J,J,J,J,J,Z] rfl rfl ?_ ?_ ?_ ?_
      rotate_left
      · intro w'
        go_simp
        with_reducible rfl
      rotate_left
      · simp only [aP]
        rfl
      refine last_ (i := 12) (N := none) #[J,J,J,J,J,J,J,J,J,J,J,J,J] rfl rfl (by kernel_rfl) (by decide) (fun K hK => ?_)
      refine skip_ (w1 := ?_) (by rfl) rfl ?_ ?_
      rotate_left
      · go_simp
        rfl
      refine hK.out _ _ ?_
      clear hK K
      refine done_ (by kernel_rfl) ?_
      all_goals go_wp2_with fail
      all_goals go_ret
      all_goals exact ⟨⟨_, rfl⟩, stm_end (stm_seth B3.out _).drew HE.out.1 HE.out.2⟩
  · have h58b : (bsg == 58) = false := by simp [h58]
    by_cases hh : 0 ≤ h
    · have hh1 : decide (0 ≤ h) = true := decide_eq_true hh
      by_cases he : h = bba
      · have he1 : (h != bba) = false := by simp [he]
        clear he
        go_wp2_with fail
        go_quiet (fail)
        obtain ⟨w3, hw3⟩ : ∃ x, w2.drewN nq = x := ⟨_, rfl⟩
        have B3 := Aside0.mk (B2.out.drewN nq)
        have e0 := q0 nq
        have e1 := q1 nq
        have ef : (w2.drewN nq).frozen? ⟨g, 0, none⟩ = false := stm_f (B2.out.drewN nq) 0
        rw [hw3] at B3 e0 e1 ef ⊢
        clear hw3
        go_upto_region 14 with fail
        obtain ⟨w4, hw4⟩ : ∃ x, w3.setCell ⟨g, 0, none⟩ (.int .i64 bba) = x := ⟨_, rfl⟩
        have B4 := Aside0.mk (stm_seth B3.out bba)
        rw [hw4] at B4 ⊢
        clear hw4 e0 e1 ef q0 q1 q2 q3 q4 y0 y1 y2 y3
        obtain ⟨v0, v1, v2, v3⟩ := stm_at B4.out HB.out
        have vf : w4.frozen? ⟨g, 0, none⟩ = false := stm_f B4.out 0
        have vh := stm_h B4.out
        by_cases h91 : b.sign = 91
        · rw [h91] at v0
          cases hle : b.left with
          | true =>
            rw [hle] at v3
            clear h91 hle
            go_wp2_with fail
            go_ret
            exact ⟨⟨_, rfl⟩, stm_end B4.out HE.out.1 HE.out.2⟩
          | false =>
            rw [hle] at v3
            clear h91 hle
            go_wp2_with fail
            go_ret
            exact ⟨⟨_, rfl⟩, stm_end (stm_seth B4.out _) HE.out.1 HE.out.2⟩
        · have h91b : (b.sign == 91) = false := by simp [h91]
          go_wp2_with fail
          go_ret
          exact ⟨⟨_, rfl⟩, stm_end B4.out HE.out.1 HE.out.2⟩
      · have he1 : (h != bba) = true := by simp [he]
        go_wp2_with fail
        go_quiet (fail)
        go_wp2_with fail
        go_ret
        exact ⟨⟨_, rfl⟩, stm_end (B2.out.drewN _) HE.out.1 HE.out.2⟩
    · have hh1 : decide (0 ≤ h) = false := decide_eq_false hh
      go_wp2_with fail
      go_quiet (fail)
      obtain ⟨w3, hw3⟩ : ∃ x, w2.drewN nq = x := ⟨_, rfl⟩
      have B3 := Aside0.mk (B2.out.drewN nq)
      have e0 := q0 nq
      have e1 := q1 nq
      have ef : (w2.drewN nq).frozen? ⟨g, 0, none⟩ = false := stm_f (B2.out.drewN nq) 0
      rw [hw3] at B3 e0 e1 ef ⊢
      clear hw3
      go_upto_region 14 with fail
      obtain ⟨w4, hw4⟩ : ∃ x, w3.setCell ⟨g, 0, none⟩ (.int .i64 bba) = x := ⟨_, rfl⟩
      have B4 := Aside0.mk (stm_seth B3.out bba)
      rw [hw4] at B4 ⊢
      clear hw4 e0 e1 ef q0 q1 q2 q3 q4 y0 y1 y2 y3
      obtain ⟨v0, v1, v2, v3⟩ := stm_at B4.out HB.out
      have vf : w4.frozen? ⟨g, 0, none⟩ = false := stm_f B4.out 0
      have vh := stm_h B4.out
      by_cases h91 : b.sign = 91
      · rw [h91] at v0
        cases hle : b.left with
        | true =>
          rw [hle] at v3
          clear h91 hle
          go_wp2_with fail
          go_ret
          exact ⟨⟨_, rfl⟩, stm_end B4.out HE.out.1 HE.out.2⟩
        | false =>
          rw [hle] at v3
          clear h91 hle
          go_wp2_with fail
          go_ret
          exact ⟨⟨_, rfl⟩, stm_end (stm_seth B4.out _) HE.out.1 HE.out.2⟩
      · have h91b : (b.sign == 91) = false := by simp [h91]
        go_wp2_with fail
        go_ret
        exact ⟨⟨_, rfl⟩, stm_end B4.out HE.out.1 HE.out.2⟩
end
end Go.Proofs.Ytkkgfpdjlohojaa.Fn
