/- Func3, RefT1, RefT2, RefT3, NestR1: what NestTells needs. -/
import Derived.Test.YtkkgfpdjlohojaaTnestTells4
import Derived.Deep.LoopGhost
import Derived.Deep.Cut
import Derived.OwnWalk
set_option linter.unusedVariables false
set_option linter.unusedSimpArgs false
namespace Go.Proofs.Ytkkgfpdjlohojaa.Fn
open Go.RowKit Go.Proofs.YtkkgfpdjlohojaaW.PrintWords Go.Proofs.YtkkgfpdjlohojaaW.PrintLast Go.Proofs.YtkkgfpdjlohojaaW.PrintMore Go.Proofs.Ytkkgfpdjlohojaa.Kit
open Go.Proofs.Ytkkgfpdjlohojaa.TokP Go.Proofs.Ytkkgfpdjlohojaa.Tok
open Nest (rawAt)
section
variable {w0 W : World} {F : List HP} {g : Nat} {h : Int} {vo : Value} {bs : List Bk}
set_option maxHeartbeats 12800000 in
set_option maxRecDepth 100000 in
theorem ends_x (hS : Sep w0 W (StL g h vo bs F)) (hp : 0 < bs.length) (r : Int) (hr : ¬ r = 58) : Calls Try.prog 37 #[.pointer (some ⟨g, 0, none⟩), .int .i32 r] W fun e w' => RetB e ∧ StT w0 w' F g (bs.length - 1) := by
  obtain ⟨n, hn⟩ : ∃ n, bs.length = n := ⟨_, rfl⟩
  obtain ⟨m, hm⟩ : ∃ m, n = m + 1 := ⟨n - 1, by omega⟩
  obtain ⟨ga, c, rfl⟩ := st_form hS hn (by omega)
  obtain ⟨b, hb, -⟩ := st_at hS (k := m) (by omega)
  have hNm : (n : Int) ≤ 9223372036854775807 := by
    have h2 : n ≤ 9223372036854775807 := (st_row hS).rowC'.2.1
    omega
  have hnc : n ≤ c := (st_row hS).rowC.2.1
  have z1q := fun q => st_o (hS.drewN q)
  have hw : wrap64 ((n : Int) - 1) = (m : Int) := by rw [IntWalk.wrap64_in _ (by omega)]; omega
  have hN1 : n - 1 = m := by omega
  have hmN : (m : Int) < (n : Int) := by omega
  have hcut := cutHi (z := (.agg #[.int .i32 0, .int .i64 0, .int .i64 0, .bool false])) (sz := 4) (bytes := 32) Try.underlying76 infoBk (some ⟨ga, 0, none⟩) n c m (K := (m : Int)) rfl (by omega) hnc
  have hrb : (r == 58) = false := by simp [hr]
  have H := Aside0.mk hS
  have HB := Aside0.mk hb
  have HN := Aside0.mk (And.intro hn hm)
  have HE : Aside0 (m < bs.length ∧ bs.length - 1 = m) := ⟨by omega, by omega⟩
  clear hS hb hn hm hp hnc
  go_enter Try.func37, Try.ntmps37
  go_wp2_with fail
  go_quiet (fail)
  go_wp2_with fail
  obtain ⟨w1, hw1⟩ : ∃ x, W.drewN nq = x := ⟨_, rfl⟩
  have B1 := Aside0.mk (H.out.drewN nq)
  rw [hw1] at B1 ⊢
  clear hw1 z1q
  have d1 : w1.drew.cell? ⟨g, 1, none⟩ = some (.slice (some ⟨ga, 0, none⟩) n c) := st_o B1.out.drew
  have d2 : w1.drew.frozen? ⟨g, 1, none⟩ = false := st_f B1.out.drew 1
  refine start_ (n := 15) (S := fun w' => w'.cell? ⟨g, 1, none⟩ = some (.slice (some ⟨ga, 0, none⟩) n c)) (ds := [14]) #[Z,Z,Z,Z,Z,Z,Z,Z,Z,Z,Z,Z,Z,Z,Z] (by kernel_rfl) rfl rfl (d1) (fun hHeld => ?_)
  refine pu_ 0 36 ?_ #[J,Z,Z,Z,Z,Z,Z,Z,Z,Z,Z,Z,Z,Z,Z] rfl rfl ?_ ?_ ?_ ?_
  rotate_left
  · intro w'
    go_simp
    with_reducible rfl
  rotate_left
  · simp only [aP]
    rfl
  refine pu_ 1 37 ?_ #[J,J,Z,Z,Z,Z,Z,Z,Z,Z,Z,Z,Z,Z,Z] rfl rfl ?_ ?_ ?_ ?_
  rotate_left
  · intro w'
    go_simp
    with_reducible rfl
  rotate_left
  · simp only [aP]
    rfl
  refine pu_ 2 38 ?_ #[J,J,J,Z,Z,Z,Z,Z,Z,Z,Z,Z,Z,Z,Z] rfl rfl ?_ ?_ ?_ ?_
  rotate_left
  · intro w'
    go_simp
    with_reducible rfl
  rotate_left
  · simp only [aP]
    rfl
  refine pu_ 3 39 ?_ #[J,J,J,J,Z,Z,Z,Z,Z,Z,Z,Z,Z,Z,Z] rfl rfl ?_ ?_ ?_ ?_
  rotate_left
  · intro w'
    go_simp
    with_reducible rfl
  rotate_left
  · simp only [aP]
    rfl
  refine pu_ 5 41 ?_ #[J,J,J,J,Z,J,Z,Z,Z,Z,Z,Z,Z,Z,Z] rfl rfl ?_ ?_ ?_ ?_
  rotate_left
  · intro w'
    go_simp
    with_reducible rfl
  rotate_left
  · simp only [aP]
    rfl
  refine pu_ 6 42 ?_ #[J,J,J,J,Z,J,J,Z,Z,Z,Z,Z,Z,Z,Z] rfl rfl ?_ ?_ ?_ ?_
  rotate_left
  · intro w'
    go_simp
    with_reducible rfl
  rotate_left
  · simp only [aP]
    rfl
  refine pu_ 7 43 ?_ #[J,J,J,J,Z,J,J,J,Z,Z,Z,Z,Z,Z,Z] rfl rfl ?_ ?_ ?_ ?_
  rotate_left
  · intro w'
    go_simp
    with_reducible rfl
  rotate_left
  · simp only [aP]
    rfl
  refine ta_ 4 40 ?_ #[J,J,J,J,J,J,J,J,Z,Z,Z,Z,Z,Z,Z] rfl rfl ?_ hHeld ?_ ?_ ?_
  rotate_left
  · intro w' s0
    go_simp
    with_reducible rfl
  rotate_left
  · simp only [aP]
    rfl
  refine ta_ 8 44 ?_ #[J,J,J,J,J,J,J,J,J,Z,Z,Z,Z,Z,Z] rfl rfl ?_ hHeld ?_ ?_ ?_
  rotate_left
  · intro w' s0
    go_simp
    with_reducible rfl
  rotate_left
  · simp only [aP]
    rfl
  refine pu_ 9 45 ?_ #[J,J,J,J,J,J,J,J,J,J,Z,Z,Z,Z,Z] rfl rfl ?_ ?_ ?_ ?_
  rotate_left
  · intro w'
    go_simp
    with_reducible rfl
  rotate_left
  · simp only [aP]
    rfl
  refine pu_ 10 46 ?_ #[J,J,J,J,J,J,J,J,J,J,J,Z,Z,Z,Z] rfl rfl ?_ ?_ ?_ ?_
  rotate_left
  · intro w'
    go_simp
    with_reducible rfl
  rotate_left
  · simp only [aP]
    rfl
  refine pu_ 11 47 ?_ #[J,J,J,J,J,J,J,J,J,J,J,J,Z,Z,Z] rfl rfl ?_ ?_ ?_ ?_
  rotate_left
  · intro w'
    go_simp
    with_reducible rfl
  rotate_left
  · simp only [aP]
    rfl
  refine pu_ 12 48 ?_ #[J,J,J,J,J,J,J,J,J,J,J,J,J,Z,Z] rfl rfl ?_ ?_ ?_ ?_
  rotate_left
  · intro w'
    go_simp
    with_reducible rfl
  rotate_left
  · simp only [aP]
    rfl
  refine pu_ 13 49 ?_ #[J,J,J,J,J,J,J,J,J,J,J,J,J,J,Z] rfl rfl ?_ ?_ ?_ ?_
  rotate_left
  · intro w'
    go_simp
    with_reducible rfl
  rotate_left
  · simp only [aP]
    rfl
  refine last_ (i := 14) (N := none) #[J,J,J,J,J,J,J,J,J,J,J,J,J,J,J] rfl rfl (by kernel_rfl) (by decide) (fun K hK => ?_)
  refine skip_ (w1 := ?_) (by rfl) rfl ?_ ?_
  rotate_left
  · go_simp
    rfl
  refine hK.out _ _ ?_
  clear hK K
  refine done_ (by kernel_rfl) ?_
  have B2 := Aside0.mk (stm_pop (m := m) B1.out).drew
  obtain ⟨w2, hw2⟩ : ∃ x, (w1.setCell ⟨g, 1, none⟩ (.slice (some ⟨ga, 0, none⟩) m c)).drew = x := ⟨_, rfl⟩
  rw [hw2] at B2 ⊢
  clear hw2 d1 d2 hcut
  obtain ⟨y0, y1, y2, y3⟩ := stm_at B2.out HB.out
  obtain ⟨bsg, hsg⟩ : ∃ x, b.sign = x := ⟨_, rfl⟩
  obtain ⟨bba, hba⟩ : ∃ x, b.base = x := ⟨_, rfl⟩
  obtain ⟨bot, hot⟩ : ∃ x, b.other = x := ⟨_, rfl⟩
  obtain ⟨ble, hle⟩ : ∃ x, b.left = x := ⟨_, rfl⟩
  rw [hsg] at y0
  rw [hba] at y1
  rw [hot] at y2
  rw [hle] at y3
  clear hsg hba hot hle
  have q0 : ∀ q, (w2.drewN q).cell? ⟨g, 0, none⟩ = some (.int .i64 h) := fun q => stm_h (B2.out.drewN q)
  have q1 : ∀ q, (w2.drewN q).cell? ⟨ga, m * 4 + 1, none⟩ = some (.int .i64 bba) := fun q => y1
  have q2 : ∀ q, (w2.drewN q).cell? ⟨ga, m * 4 + 2, none⟩ = some (.int .i64 bot) := fun q => y2
  have q3 : ∀ q, (w2.drewN q).cell? ⟨ga, m * 4 + 3, none⟩ = some (.bool ble) := fun q => y3
  have q4 : ∀ q, (w2.drewN q).cell? ⟨ga, m * 4, none⟩ = some (.int .i32 bsg) := fun q => y0
  by_cases h58 : bsg = 58
  · subst h58
    by_cases ho : 0 ≤ bot
    · have ho1 : decide (0 ≤ bot) = true := decide_eq_true ho
      by_cases hh : 0 ≤ h
      · have hh1 : decide (0 ≤ h) = true := decide_eq_true hh
        by_cases he : bot = h
        · have he1 : (bot != h) = false := by simp [he]
          clear he
          go_wp2_with fail
          go_quiet (fail)
          go_wp2_with fail
          obtain ⟨w3, hw3⟩ : ∃ x, w2.drewN nq = x := ⟨_, rfl⟩
          have B3 := Aside0.mk (B2.out.drewN nq)
          have e0 : (w2.drewN nq).drew.cell? ⟨g, 0, none⟩ = some (.int .i64 h) := stm_h (B2.out.drewN nq).drew
          have e2 : (w2.drewN nq).drew.cell? ⟨ga, m * 4 + 2, none⟩ = some (.int .i64 bot) := y2
          have ef : (w2.drewN nq).drew.frozen? ⟨g, 0, none⟩ = false := stm_f (B2.out.drewN nq).drew 0
          rw [hw3] at B3 e0 e2 ef ⊢
          clear hw3 q0 q1 q2 q3 q4 y0 y1 y2 y3
          refine start_ (n := 13) (S := fun w' => w'.cell? ⟨g, 0, none⟩ = some (.int .i64 h) ∧ w'.cell? ⟨ga, m * 4 + 2, none⟩ = some (.int .i64 bot)) (ds := [12]) #[Z,Z,Z,Z,Z,Z,Z,Z,Z,Z,Z,Z,Z] (by kernel_rfl) rfl rfl ⟨e0, e2⟩ (fun hHeld => ?_)
          refine pu_ 0 78 ?_ #[J,Z,Z,Z,Z,Z,Z,Z,Z,Z,Z,Z,Z] rfl rfl ?_ ?_ ?_ ?_
          rotate_left
          · intro w'
            go_simp
            with_reducible rfl
          rotate_left
          · simp only [aP]
            rfl
          refine pu_ 1 79 ?_ #[J,J,Z,Z,Z,Z,Z,Z,Z,Z,Z,Z,Z] rfl rfl ?_ ?_ ?_ ?_
          rotate_left
          · intro w'
            go_simp
            with_reducible rfl
          rotate_left
          · simp only [aP]
            rfl
          refine pu_ 2 80 ?_ #[J,J,J,Z,Z,Z,Z,Z,Z,Z,Z,Z,Z] rfl rfl ?_ ?_ ?_ ?_
          rotate_left
          · intro w'
            go_simp
            with_reducible rfl
          rotate_left
          · simp only [aP]
            rfl
          refine pu_ 3 81 ?_ #[J,J,J,J,Z,Z,Z,Z,Z,Z,Z,Z,Z] rfl rfl ?_ ?_ ?_ ?_
          rotate_left
          · intro w'
            go_simp
            with_reducible rfl
          rotate_left
          · simp only [aP]
            rfl
          refine pu_ 5 83 ?_ #[J,J,J,J,Z,J,Z,Z,Z,Z,Z,Z,Z] rfl rfl ?_ ?_ ?_ ?_
          rotate_left
          · intro w'
            go_simp
            with_reducible rfl
          rotate_left
          · simp only [aP]
            rfl
          refine pu_ 6 84 ?_ #[J,J,J,J,Z,J,J,Z,Z,Z,Z,Z,Z] rfl rfl ?_ ?_ ?_ ?_
          rotate_left
          · intro w'
            go_simp
            with_reducible rfl
          rotate_left
          · simp only [aP]
            rfl
          refine pu_ 7 85 ?_ #[J,J,J,J,Z,J,J,J,Z,Z,Z,Z,Z] rfl rfl ?_ ?_ ?_ ?_
          rotate_left
          · intro w'
            go_simp
            with_reducible rfl
          rotate_left
          · simp only [aP]
            rfl
          refine ta_ 4 82 ?_ #[J,J,J,J,J,J,J,J,Z,Z,Z,Z,Z] rfl rfl ?_ hHeld ?_ ?_ ?_
          rotate_left
          · rintro w' ⟨s0, s1⟩
            go_simp
            with_reducible rfl
          rotate_left
          · simp only [aP]
            rfl
          refine ta_ 8 86 ?_ #[J,J,J,J,J,J,J,J,J,Z,Z,Z,Z] rfl rfl ?_ hHeld ?_ ?_ ?_
          rotate_left
          · rintro w' ⟨s0, s1⟩
            go_simp
            with_reducible rfl
          rotate_left
          · simp only [aP]
            rfl
          refine pu_ 9 87 ?_ #[J,J,J,J,J,J,J,J,J,J,Z,Z,Z] rfl rfl ?_ ?_ ?_ ?_
          rotate_left
          · intro w'
            go_simp
            with_reducible rfl
          rotate_left
          · simp only [aP]
            rfl
          refine pu_ 10 88 ?_ #[J,J,J,J,J,J,J,J,J,J,J,Z,Z] rfl rfl ?_ ?_ ?_ ?_
          rotate_left
          · intro w'
            go_simp
            with_reducible rfl
          rotate_left
          · simp only [aP]
            rfl
          refine pu_ 11 89 ?_ #[J,J,J,J,J,J,J,J,J,J,J,J,Z] rfl rfl ?_ ?_ ?_ ?_
          rotate_left
          · intro w'
            go_simp
            with_reducible rfl
          rotate_left
          · simp only [aP]
            rfl
          refine last_ (i := 12) (N := none) #[J,J,J,J,J,J,J,J,J,J,J,J,J] rfl rfl (by kernel_rfl) (by decide) (fun K hK => ?_)
          refine skip_ (w1 := ?_) (by rfl) rfl ?_ ?_
          rotate_left
          · go_simp
            rfl
          refine hK.out _ _ ?_
          clear hK K
          refine done_ (by kernel_rfl) ?_
          all_goals go_wp2_with fail
          all_goals go_ret
          all_goals exact ⟨⟨_, rfl⟩, stm_end (stm_seth B3.out _).drew HE.out.1 HE.out.2⟩
        · have he1 : (bot != h) = true := by simp [he]
          go_wp2_with fail
          go_quiet (fail)
          go_wp2_with fail
          go_ret
          exact ⟨⟨_, rfl⟩, stm_end (B2.out.drewN _) HE.out.1 HE.out.2⟩
      · have hh1 : decide (0 ≤ h) = false := decide_eq_false hh
        go_wp2_with fail
        go_quiet (fail)
        go_wp2_with fail
        obtain ⟨w3, hw3⟩ : ∃ x, w2.drewN nq = x := ⟨_, rfl⟩
        have B3 := Aside0.mk (B2.out.drewN nq)
        have e0 : (w2.drewN nq).drew.cell? ⟨g, 0, none⟩ = some (.int .i64 h) := stm_h (B2.out.drewN nq).drew
        have e2 : (w2.drewN nq).drew.cell? ⟨ga, m * 4 + 2, none⟩ = some (.int .i64 bot) := y2
        have ef : (w2.drewN nq).drew.frozen? ⟨g, 0, none⟩ = false := stm_f (B2.out.drewN nq).drew 0
        rw [hw3] at B3 e0 e2 ef ⊢
        clear hw3 q0 q1 q2 q3 q4 y0 y1 y2 y3
        refine start_ (n := 13) (S := fun w' => w'.cell? ⟨g, 0, none⟩ = some (.int .i64 h) ∧ w'.cell? ⟨ga, m * 4 + 2, none⟩ = some (.int .i64 bot)) (ds := [12]) #[Z,Z,Z,Z,Z,Z,Z,Z,Z,Z,Z,Z,Z] (by kernel_rfl) rfl rfl ⟨e0, e2⟩ (fun hHeld => ?_)
        refine pu_ 0 78 ?_ #[J,Z,Z,Z,Z,Z,Z,Z,Z,Z,Z,Z,Z] rfl rfl ?_ ?_ ?_ ?_
        rotate_left
        · intro w'
          go_simp
          with_reducible rfl
        rotate_left
        · simp only [aP]
          rfl
        refine pu_ 1 79 ?_ #[J,J,Z,Z,Z,Z,Z,Z,Z,Z,Z,Z,Z] rfl rfl ?_ ?_ ?_ ?_
        rotate_left
        · intro w'
          go_simp
          with_reducible rfl
        rotate_left
        · simp only [aP]
          rfl
        refine pu_ 2 80 ?_ #[J,J,J,Z,Z,Z,Z,Z,Z,Z,Z,Z,Z] rfl rfl ?_ ?_ ?_ ?_
        rotate_left
        · intro w'
          go_simp
          with_reducible rfl
        rotate_left
        · simp only [aP]
          rfl
        refine pu_ 3 81 ?_ #[J,J,J,J,Z,Z,Z,Z,Z,Z,Z,Z,Z] rfl rfl ?_ ?_ ?_ ?_
        rotate_left
        · intro w'
          go_simp
          with_reducible rfl
        rotate_left
        · simp only [aP]
          rfl
        refine pu_ 5 83 ?_ #[J,J,J,J,Z,J,Z,Z,Z,Z,Z,Z,Z] rfl rfl ?_ ?_ ?_ ?_
        rotate_left
        · intro w'
          go_simp
          with_reducible rfl
        rotate_left
        · simp only [aP]
          rfl
        refine pu_ 6 84 ?_ #[J,J,J,J,Z,J,J,Z,Z,Z,Z,Z,Z] rfl rfl ?_ ?_ ?_ ?_
        rotate_left
        · intro w'
          go_simp
          with_reducible rfl
        rotate_left
        · simp only [aP]
          rfl
        refine pu_ 7 85 ?_ #[J,J,J,J,Z,J,J,J,Z,Z,Z,Z,Z] rfl rfl ?_ ?_ ?_ ?_
        rotate_left
        · intro w'
          go_simp
          with_reducible rfl
        rotate_left
        · simp only [aP]
          rfl
        refine ta_ 4 82 ?_ #[J,J,J,J,J,J,J,J,Z,Z,Z,Z,Z] rfl rfl ?_ hHeld ?_ ?_ ?_
        rotate_left
        · rintro w' ⟨s0, s1⟩
          go_simp
          with_reducible rfl
        rotate_left
        · simp only [aP]
          rfl
        refine ta_ 8 86 ?_ #[J,J,J,J,J,J,J,J,J,Z,Z,Z,Z] rfl rfl ?_ hHeld ?_ ?_ ?_
        rotate_left
        · rintro w' ⟨s0, s1⟩
          go_simp
          with_reducible rfl
        rotate_left
        · simp only [aP]
          rfl
        refine pu_ 9 87 ?_ #[J,J,J,J,J,J,J,J,J,J,Z,Z,Z] rfl rfl ?_ ?_ ?_ ?_
        rotate_left
        · intro w'
          go_simp
          with_reducible rfl
        rotate_left
        · simp only [aP]
          rfl
        refine pu_ 10 88 ?_ #[J,J,J,J,J,J,J,J,J,J,J,Z,Z] rfl rfl ?_ ?_ ?_ ?_
        rotate_left
        · intro w'
          go_simp
          with_reducible rfl
        rotate_left
        · simp only [aP]
          rfl
        refine pu_ 11 89 ?_ #[J,J,J,J,J,J,J,J,J,J,J,J,Z] rfl rfl ?_ ?_ ?_ ?_
        rotate_left
        · intro w'
          go_simp
          with_reducible rfl
        rotate_left
        · simp only [aP]
          rfl
        refine last_ (i := 12) (N := none) #[J,J,J,J,J,J,J,J,J,J,J,J,J] rfl rfl (by kernel_rfl) (by decide) (fun K hK => ?_)
        refine skip_ (w1 := ?_) (by rfl) rfl ?_ ?_
        rotate_left
        · go_simp
          rfl
        refine hK.out _ _ ?_
        clear hK K
        refine done_ (by kernel_rfl) ?_
        all_goals go_wp2_with fail
        all_goals go_ret
        all_goals exact ⟨⟨_, rfl⟩, stm_end (stm_seth B3.out _).drew HE.out.1 HE.out.2⟩
    · have ho1 : decide (0 ≤ bot) = false := decide_eq_false ho
      go_wp2_with fail
      go_quiet (fail)
      go_wp2_with fail
      obtain ⟨w3, hw3⟩ : ∃ x, w2.drewN nq = x := ⟨_, rfl⟩
      have B3 := Aside0.mk (B2.out.drewN nq)
      have e0 : (w2.drewN nq).drew.cell? ⟨g, 0, none⟩ = some (.int .i64 h) := stm_h (B2.out.drewN nq).drew
      have e2 : (w2.drewN nq).drew.cell? ⟨ga, m * 4 + 2, none⟩ = some (.int .i64 bot) := y2
      have ef : (w2.drewN nq).drew.frozen? ⟨g, 0, none⟩ = false := stm_f (B2.out.drewN nq).drew 0
      rw [hw3] at B3 e0 e2 ef ⊢
      clear hw3 q0 q1 q2 q3 q4 y0 y1 y2 y3
      refine start_ (n := 13) (S := fun w' => w'.cell? ⟨g, 0, none⟩ = some (.int .i64 h) ∧ w'.cell? ⟨ga, m * 4 + 2, none⟩ = some (.int .i64 bot)) (ds := [12]) #[Z,Z,Z,Z,Z,Z,Z,Z,Z,Z,Z,Z,Z] (by kernel_rfl) rfl rfl ⟨e0, e2⟩ (fun hHeld => ?_)
      refine pu_ 0 78 ?_ #[J,Z,Z,Z,Z,Z,Z,Z,Z,Z,Z,Z,Z] rfl rfl ?_ ?_ ?_ ?_
      rotate_left
      · intro w'
        go_simp
        with_reducible rfl
      rotate_left
      · simp only [aP]
        rfl
      refine pu_ 1 79 ?_ #[J,J,Z,Z,Z,Z,Z,Z,Z,Z,Z,Z,Z] rfl rfl ?_ ?_ ?_ ?_
      rotate_left
      · intro w'
        go_simp
        with_reducible rfl
      rotate_left
      · simp only [aP]
        rfl
      refine pu_ 2 80 ?_ #[J,J,J,Z,Z,Z,Z,Z,Z,Z,Z,Z,Z] rfl rfl ?_ ?_ ?_ ?_
      rotate_left
      · intro w'
        go_simp
        with_reducible rfl
      rotate_left
      · simp only [aP]
        rfl
      refine pu_ 3 81 ?_ #[J,J,J,J,Z,Z,Z,Z,Z,Z,Z,Z,Z] rfl rfl ?_ ?_ ?_ ?_
      rotate_left
      · intro w'
        go_simp
        with_reducible rfl
      rotate_left
      · simp only [aP]
        rfl
      refine pu_ 5 83 ?_ #[J,J,J,J,Z,J,Z,Z,Z,Z,Z,Z,Z] rfl rfl ?_ ?_ ?_ ?_
      rotate_left
      · intro w'
        go_simp
        with_reducible rfl
      rotate_left
      · simp only [aP]
        rfl
      refine pu_ 6 84 ?_ #[J,J,J,J,Z,J,J,Z,Z,Z,Z,Z,Z] rfl rfl ?_ ?_ ?_ ?_
      rotate_left
      · intro w'
        go_simp
        with_reducible rfl
      rotate_left
      · simp only [aP]
        rfl
      refine pu_ 7 85 ?_ #[J,J,J,J,Z,J,J,J,Z,Z,Z,Z,Z] rfl rfl ?_ ?_ ?_ ?_
      rotate_left
      · intro w'
        go_simp
        with_reducible rfl
      rotate_left
      · simp only [aP]
        rfl
      refine ta_ 4 82 ?_ #[J,J,J,J,J,J,J,J,Z,Z,Z,Z,Z] rfl rfl ?_ hHeld ?_ ?_ ?_
      rotate_left
      · rintro w' ⟨s0, s1⟩
        go_simp
        with_reducible rfl
      rotate_left
      · simp only [aP]
        rfl
      refine ta_ 8 86 ?_ #[J,J,J,J,J,J,J,J,J,Z,Z,Z,Z] rfl rfl ?_ hHeld ?_ ?_ ?_
      rotate_left
      · rintro w' ⟨s0, s1⟩
        go_simp
        with_reducible rfl
      rotate_left
      · simp only [aP]
        rfl
      refine pu_ 9 87 ?_ #[J,J,J,J,J,J,J,J,J,J,Z,Z,Z] rfl rfl ?_ ?_ ?_ ?_
      rotate_left
      · intro w'
        go_simp
        with_reducible rfl
      rotate_left
      · simp only [aP]
        rfl
      refine pu_ 10 88 ?_ #[J,J,J,J,J,J,J,J,J,J,J,Z,Z] rfl rfl ?_ ?_ ?_ ?_
      rotate_left
      · intro w'
        go_simp
        with_reducible rfl
      rotate_left
      · simp only [aP]
        rfl
      refine pu_ 11 89 ?_ #[J,J,J,J,J,J,J,J,J,J,J,J,Z] rfl rfl ?_ ?_ ?_ ?_
      rotate_left
      · intro w'
        go_simp
        with_reducible rfl
      rotate_left
      · simp only [aP]
        rfl
      refine last_ (i := 12) (N := none) #[J,J,J,J,J,J,J,J,J,J,J,J,J] rfl rfl (by kernel_rfl) (by decide) (fun K hK => ?_)
      refine skip_ (w1 := ?_) (by rfl) rfl ?_ ?_
      rotate_left
      · go_simp
        rfl
      refine hK.out _ _ ?_
      clear hK K
      refine done_ (by kernel_rfl) ?_
      all_goals go_wp2_with fail
      all_goals go_ret
      all_goals exact ⟨⟨_, rfl⟩, stm_end (stm_seth B3.out _).drew HE.out.1 HE.out.2⟩
  · have h58b : (bsg == 58) = false := by simp [h58]
    by_cases hh : 0 ≤ h
    · have hh1 : decide (0 ≤ h) = true := decide_eq_true hh
      by_cases he : h = bba
      · have he1 : (h != bba) = false := by simp [he]
        clear he
        go_wp2_with fail
        go_quiet (fail)
        obtain ⟨w3, hw3⟩ : ∃ x, w2.drewN nq = x := ⟨_, rfl⟩
        have B3 := Aside0.mk (B2.out.drewN nq)
        have e0 := q0 nq
        have e1 := q1 nq
        have ef : (w2.drewN nq).frozen? ⟨g, 0, none⟩ = false := stm_f (B2.out.drewN nq) 0
        rw [hw3] at B3 e0 e1 ef ⊢
        clear hw3
        go_upto_region 14 with fail
        obtain ⟨w4, hw4⟩ : ∃ x, w3.setCell ⟨g, 0, none⟩ (.int .i64 bba) = x := ⟨_, rfl⟩
        have B4 := Aside0.mk (stm_seth B3.out bba)
        rw [hw4] at B4 ⊢
        clear hw4 e0 e1 ef q0 q1 q2 q3 q4 y0 y1 y2 y3
        obtain ⟨v0, v1, v2, v3⟩ := stm_at B4.out HB.out
        have vf : w4.frozen? ⟨g, 0, none⟩ = false := stm_f B4.out 0
        have vh := stm_h B4.out
        by_cases h91 : b.sign = 91
        · rw [h91] at v0
          cases hle : b.left with
          | true =>
            rw [hle] at v3
            clear h91 hle
            go_wp2_with fail
            go_ret
            exact ⟨⟨_, rfl⟩, stm_end B4.out HE.out.1 HE.out.2⟩
          | false =>
            rw [hle] at v3
            clear h91 hle
            go_wp2_with fail
            go_ret
            exact ⟨⟨_, rfl⟩, stm_end (stm_seth B4.out _) HE.out.1 HE.out.2⟩
        · have h91b : (b.sign == 91) = false := by simp [h91]
          go_wp2_with fail
          go_ret
          exact ⟨⟨_, rfl⟩, stm_end B4.out HE.out.1 HE.out.2⟩
      · have he1 : (h != bba) = true := by simp [he]
        go_wp2_with fail
        go_quiet (fail)
        go_wp2_with fail
        go_ret
        exact ⟨⟨_, rfl⟩, stm_end (B2.out.drewN _) HE.out.1 HE.out.2⟩
    · have hh1 : decide (0 ≤ h) = false := decide_eq_false hh
      go_wp2_with fail
      go_quiet (fail)
      obtain ⟨w3, hw3⟩ : ∃ x, w2.drewN nq = x := ⟨_, rfl⟩
      have B3 := Aside0.mk (B2.out.drewN nq)
      have e0 := q0 nq
      have e1 := q1 nq
      have ef : (w2.drewN nq).frozen? ⟨g, 0, none⟩ = false := stm_f (B2.out.drewN nq) 0
      rw [hw3] at B3 e0 e1 ef ⊢
      clear hw3
      go_upto_region 14 with fail
      obtain ⟨w4, hw4⟩ : ∃ x, w3.setCell ⟨g, 0, none⟩ (.int .i64 bba) = x := ⟨_, rfl⟩
      have B4 := Aside0.mk (stm_seth B3.out bba)
      rw [hw4] at B4 ⊢
      clear hw4 e0 e1 ef q0 q1 q2 q3 q4 y0 y1 y2 y3
      obtain ⟨v0, v1, v2, v3⟩ := stm_at B4.out HB.out
      have vf : w4.frozen? ⟨g, 0, none⟩ = false := stm_f B4.out 0
      have vh := stm_h B4.out
      by_cases h91 : b.sign = 91
      · rw [h91] at v0
        cases hle : b.left with
        | true =>
          rw [hle] at v3
          clear h91 hle
          go_wp2_with fail
          go_ret
          exact ⟨⟨_, rfl⟩, stm_end B4.out HE.out.1 HE.out.2⟩
        | false =>
          rw [hle] at v3
          clear h91 hle
          go_wp2_with fail
          go_ret
          exact ⟨⟨_, rfl⟩, stm_end (stm_seth B4.out _) HE.out.1 HE.out.2⟩
      · have h91b : (b.sign == 91) = false := by simp [h91]
        go_wp2_with fail
        go_ret
        exact ⟨⟨_, rfl⟩, stm_end B4.out HE.out.1 HE.out.2⟩
end
end Go.Proofs.Ytkkgfpdjlohojaa.Fn
namespace Go.Proofs.Ytkkgfpdjlohojaa.RefT
open Go.RowKit Go.Proofs.YtkkgfpdjlohojaaW.PrintWords Go.Proofs.YtkkgfpdjlohojaaW.PrintLast Go.Proofs.YtkkgfpdjlohojaaW.PrintMore Go.Proofs.Ytkkgfpdjlohojaa.Kit
open Go.Proofs.Ytkkgfpdjlohojaa.TokP
abbrev R32 : Kd Int := Kd.int .i32
theorem info32 : (Try.prog.info? 21).map (fun i => (i.zero, i.size, i.bytes)) = some (some (.int .i32 0), 1, 4) := by kernel_rfl
section
variable {w0 W : World} {F : List HP}
set_option maxHeartbeats 1600000 in
set_option maxRecDepth 100000 in
theorem runes_ (h : Sep w0 W F) (s : ByteArray) (hs : s.size ≤ 1000000) :
    Calls Try.prog 25 #[.string s] W fun e w' => ∃ v, e = .returned v ∧ Sep w0 w' (Row R32 21 v (runesS s) :: F) := by
  have H1 : Aside0 (Sep w0 (World.iter W s 0) (SIt W.heap.size s 0 :: Row R32 21 (.slice none 0 0) [] :: F)) := ⟨(h.nilRow R32 21).newIt s 0⟩
  clear h
  go_enter Try.func25, Try.ntmps25
  go_wp2_with fail
  obtain ⟨w1, hw1⟩ : ∃ x, World.iter W s 0 = x := ⟨_, rfl⟩
  obtain ⟨g, hg⟩ : ∃ g, W.heap.size = g := ⟨_, rfl⟩
  rw [hw1, hg] at H1
  rw [hw1, hg]
  clear hw1 hg
  go_loopg [3] s.size (fun m v wr => ∃ (pos : Nat) (acc : List Int), acc ++ runesF s m pos = runesS s ∧ s.size ≤ pos + m ∧ acc.length ≤ pos ∧ Sep w0 wr (SIt g s pos :: Row R32 21 v acc :: F))
  case atStart => exact ⟨0, [], rfl, by omega, Nat.zero_le _, H1.out⟩
  case round =>
    obtain ⟨pos, acc, hacc, hpm, hal, hS⟩ := hrel
    have HA := Aside0.mk (And.intro hacc (And.intro hpm hal))
    by_cases hp : pos < s.size
    · have hnx : ∀ ty, (Instr.next (.pointer (some ⟨g, 0, none⟩)) true ty).run Try.prog wr = _ := fun ty => nextAt ty hS.sit hp
      have hwd := width_pos s pos hp
      obtain ⟨k, rfl⟩ : ∃ k, gk = k + 1 := ⟨gk - 1, by omega⟩
      have hst := runesF_step s k pos hp
      obtain ⟨W2, hW2⟩ : ∃ x, (Utf8.decode s pos).2 = x := ⟨_, rfl⟩
      obtain ⟨r, hr⟩ : ∃ x, (Utf8.decode s pos).1 = x := ⟨_, rfl⟩
      rw [hW2] at hnx hst hwd
      rw [hr] at hnx hst
      have B1 := Aside0.mk (hS.stepIt (pos + W2))
      have HST := Aside0.mk hst
      have HWD := Aside0.mk hwd
      have HP := Aside0.mk hp
      obtain ⟨w2, hw2⟩ : ∃ x, iterTo wr g s (pos + W2) = x := ⟨_, rfl⟩
      rw [hw2] at B1 hnx
      have L := Aside0.mk (B1.out.litRow (enc := Value.int .i32) (h1 := fun _ => rfl) (e := 21) [(r : Int)] (by simp)).at3
      clear hS hacc hpm hal hst hwd hW2 hr hw2 hp
      go_wp2_with (first | (refine gate_builtin (b := .append) (xs := #[.tmp 11, .tmp 13]) rfl ?_; go_loud (refine L.out.appendRow rfl (.tmp 11) (.tmp 13) 48 (.int .i32 0) 4 rfl Try.underlying48 info32 rfl (by decide) (some ⟨w2.heap.size, 0, none⟩) 1 1 rfl rfl L.out.at2.rowC.2.2 (by have := HA.out.2.2; have := HP.out; simp; omega) ?_; intro v7 w7 hS7; have B7 := Aside0.mk hS7.at2.tail.at2; clear hS7)))
      go_roundg k
      case measure => omega
      case rel => exact ⟨pos + W2, acc ++ [(r : Int)], by rw [List.append_assoc]; have h9 := HA.out.1; rw [HST.out] at h9; exact h9, by have := HA.out.2.1; have := HWD.out; omega, by rw [List.length_append]; have := HA.out.2.2; have := HWD.out; simp; omega, B7.out⟩
    · have hnx : ∀ ty, (Instr.next (.pointer (some ⟨g, 0, none⟩)) true ty).run Try.prog wr = _ := fun ty => nextEnd ty hS.sit hp
      have hend := runesF_end s gk pos hp
      rw [hend, List.append_nil] at hacc
      have B2 := Aside0.mk hS.tail
      have HC := Aside0.mk hacc
      clear hS hacc hend hpm hal
      go_wp2_with fail
      go_ret
      exact ⟨_, by first | rfl | (simp; done), by rw [← HC.out]; exact B2.out⟩
set_option maxHeartbeats 1600000 in
set_option maxRecDepth 100000 in
theorem name_ (r : Int) : Calls Try.prog 26 #[.int .i32 r] W fun e w' => e = .returned (.bool (nameB r)) ∧ W = w' := by
  go_enter Try.func26, Try.ntmps26
  go_wp2_with fail
  all_goals (go_ret; refine ⟨congrArg (fun b => Ending.returned (Value.bool b)) ?_, rfl⟩)
  all_goals (rw [Bool.eq_iff_iff]; simp [nameB]; try omega)
end
end Go.Proofs.Ytkkgfpdjlohojaa.RefT
namespace Go.Proofs.Ytkkgfpdjlohojaa.RefT
open Go.RowKit Go.Proofs.YtkkgfpdjlohojaaW.PrintWords Go.Proofs.YtkkgfpdjlohojaaW.PrintLast Go.Proofs.YtkkgfpdjlohojaaW.PrintMore Go.Proofs.Ytkkgfpdjlohojaa.Kit
open Go.Proofs.Ytkkgfpdjlohojaa.TokP
section
variable {w0 W : World} {F : List HP}
set_option maxHeartbeats 1600000 in
set_option maxRecDepth 100000 in
theorem has_ (h : Sep w0 W F) (s : ByteArray) (r : Int) :
    Calls Try.prog 34 #[.string s, .int .i32 r] W fun e w' => e = .returned (.bool (decide (r ∈ runesS s))) ∧ Sep w0 w' F := by
  have H1 : Aside0 (Sep w0 (World.iter W s 0) (SIt W.heap.size s 0 :: F)) := ⟨h.newIt s 0⟩
  clear h
  go_enter Try.func34, Try.ntmps34
  go_wp2_with fail
  obtain ⟨w1, hw1⟩ : ∃ x, World.iter W s 0 = x := ⟨_, rfl⟩
  obtain ⟨g, hg⟩ : ∃ g, W.heap.size = g := ⟨_, rfl⟩
  rw [hw1, hg] at H1
  rw [hw1, hg]
  clear hw1 hg
  go_loopg [] s.size (fun m wr => ∃ pos : Nat, (decide (r ∈ runesS s) = decide (r ∈ runesF s m pos)) ∧ s.size ≤ pos + m ∧ Sep w0 wr (SIt g s pos :: F))
  case atStart => exact ⟨0, rfl, by omega, H1.out⟩
  case round =>
    obtain ⟨pos, hacc, hpm, hS⟩ := hrel
    have HA := Aside0.mk (And.intro hacc hpm)
    by_cases hp : pos < s.size
    · have hnx : ∀ ty, (Instr.next (.pointer (some ⟨g, 0, none⟩)) true ty).run Try.prog wr = _ := fun ty => nextAt ty hS.sit hp
      have hwd := width_pos s pos hp
      obtain ⟨k, rfl⟩ : ∃ k, gk = k + 1 := ⟨gk - 1, by omega⟩
      have hst := runesF_step s k pos hp
      obtain ⟨W2, hW2⟩ : ∃ x, (Utf8.decode s pos).2 = x := ⟨_, rfl⟩
      obtain ⟨x, hr⟩ : ∃ x, (Utf8.decode s pos).1 = x := ⟨_, rfl⟩
      rw [hW2] at hnx hst hwd
      rw [hr] at hnx hst
      have B1 := Aside0.mk (hS.stepIt (pos + W2))
      have HST := Aside0.mk hst
      have HWD := Aside0.mk hwd
      obtain ⟨w2, hw2⟩ : ∃ x, iterTo wr g s (pos + W2) = x := ⟨_, rfl⟩
      rw [hw2] at B1 hnx
      clear hS hacc hpm hst hwd hW2 hr hw2 hp
      by_cases hx : (x : Int) = r
      · have hb : ((x : Int) == r) = true := by simp [hx]
        go_wp2_with fail
        go_ret
        exact ⟨by rw [HA.out.1, HST.out, decide_eq_true (by rw [← hx]; exact List.mem_cons_self ..)]; first | rfl | (simp; done), B1.out.tail⟩
      · have hb : ((x : Int) == r) = false := by simp [hx]
        go_wp2_with fail
        go_roundg k
        case measure => omega
        case rel => exact ⟨pos + W2, by rw [HA.out.1, HST.out]; exact decide_eq_decide.2 ⟨fun h => (List.mem_cons.1 h).resolve_left (fun h2 => hx h2.symm), fun h => List.mem_cons_of_mem _ h⟩, by have := HA.out.2; have := HWD.out; omega, B1.out⟩
    · have hnx : ∀ ty, (Instr.next (.pointer (some ⟨g, 0, none⟩)) true ty).run Try.prog wr = _ := fun ty => nextEnd ty hS.sit hp
      have hend := runesF_end s gk pos hp
      have HE := Aside0.mk hend
      have B2 := Aside0.mk hS.tail
      clear hS hend hpm hacc
      go_wp2_with fail
      go_ret
      exact ⟨by rw [HA.out.1, HE.out]; first | rfl | (simp; done), B2.out⟩
theorem signs_ : runesS ⟨#[43, 45, 42, 47, 37, 38, 124, 94, 60, 61, 33, 46, 44, 64, 36, 35, 63, 58, 59, 91, 93, 126, 194, 171, 194, 187, 194, 169, 194, 174, 194, 164, 194, 161, 206, 187, 207, 128]⟩ = signsL := by decide +kernel
set_option maxHeartbeats 1600000 in
set_option maxRecDepth 100000 in
theorem known_ (h : Sep w0 W F) (r : Int) : Calls Try.prog 27 #[.int .i32 r] W fun e w' => e = .returned (.bool (knownB r)) ∧ Sep w0 w' F := by
  have H := Aside0.mk h
  clear h
  go_enter Try.func27, Try.ntmps27
  go_wp2_with (go_at_call 34; refine (has_ H.out _ r).mono ?_; rintro e w1 ⟨rfl, hS⟩; have B1 := Aside0.mk hS; clear hS)
  all_goals (go_ret; refine ⟨congrArg (fun b => Ending.returned (Value.bool b)) ?_, by first | exact B1.out | exact H.out⟩)
  all_goals (rw [Bool.eq_iff_iff]; simp [knownB, signs_]; try (by_cases hp : r ∈ signsL <;> simp [hp] <;> omega))
end
end Go.Proofs.Ytkkgfpdjlohojaa.RefT
namespace Go.Proofs.Ytkkgfpdjlohojaa.RefT
open Go.RowKit Go.Proofs.YtkkgfpdjlohojaaW.PrintWords Go.Proofs.YtkkgfpdjlohojaaW.PrintLast Go.Proofs.YtkkgfpdjlohojaaW.PrintMore Go.Proofs.Ytkkgfpdjlohojaa.Kit
open Go.Proofs.Ytkkgfpdjlohojaa.TokP Go.Proofs.Ytkkgfpdjlohojaa.Tok
def tokO (s : ByteArray) : Option (List Tok) := if 512 < s.size then none else tokens (runesS s)
def tokErr (s : ByteArray) : Int := if 512 < s.size then 3 else 12
def tkA (w0 w' : World) (F : List HP) (e : Ending) (er : Int) : Option (List Tok) → Prop
  | some l => ∃ v, e = .returned (.tuple #[v, .int .i64 0]) ∧ Sep w0 w' (RowT v l :: F)
  | none => e = .returned (.tuple #[.slice none 0 0, .int .i64 er]) ∧ Sep w0 w' F
theorem drop_cons {rs : List Int} {i : Nat} (h : i < rs.length) : rs.drop i = rs.getD i 0 :: rs.drop (i + 1) := by
  rw [List.drop_eq_getElem_cons h, List.getD_eq_getElem?_getD, List.getElem?_eq_getElem h]
  rfl
section
variable {w0 W : World} {F : List HP}
set_option maxHeartbeats 6400000 in
set_option maxRecDepth 100000 in
theorem tokens_ (h : Sep w0 W F) (s : ByteArray) :
    Calls Try.prog 12 #[.string s] W fun e w' => tkA w0 w' F e (tokErr s) (tokO s) := by
  by_cases h512 : 512 < s.size
  · have h1 : tokErr s = 3 := if_pos h512
    have h2 : tokO s = none := if_pos h512
    have hd : decide (512 < (s.size : Int)) = true := decide_eq_true (by omega)
    have H := Aside0.mk h
    rw [h1, h2]
    clear h h1 h2
    go_enter Try.func12, Try.ntmps12
    go_wp2_with fail
    go_ret2
    exact ⟨by first | rfl | (simp; done), H.out⟩
  · have h1 : tokErr s = 12 := if_neg h512
    have h2 : tokO s = tokens (runesS s) := if_neg h512
    have hd : decide (512 < (s.size : Int)) = false := decide_eq_false (by omega)
    have H := Aside0.mk h
    rw [h1, h2]
    clear h h1 h2
    have hlen := runesS_len s
    have hrg : ∀ r ∈ runesS s, 0 ≤ r ∧ r ≤ 2147483647 := runesF_range s s.size 0
    obtain ⟨rs, hrs⟩ : ∃ rs, runesS s = rs := ⟨_, rfl⟩
    have HRS := Aside0.mk hrs
    rw [hrs] at hlen hrg ⊢
    obtain ⟨n, hn⟩ : ∃ n, rs.length = n := ⟨_, rfl⟩
    rw [hn] at hlen
    have HN := Aside0.mk (And.intro hn hrg)
    have hn512 : n ≤ 512 := by omega
    have hsz : s.size ≤ 1000000 := by omega
    obtain ⟨o, ho⟩ : ∃ o, tokens rs = o := ⟨_, rfl⟩
    have HO := Aside0.mk ho
    rw [ho]
    clear hrs hn hrg hlen h512 ho
    go_enter Try.func12, Try.ntmps12
    go_wp2_with (go_at_call 25; refine (runes_ H.out s hsz).mono ?_; rintro e w1 ⟨v, rfl, hS⟩; rw [HRS.out] at hS; obtain ⟨A, c, rfl⟩ := hS.rowN HN.out.1; have B0 : Aside0 (Sep w0 w1 (RowT (.slice none 0 0) [] :: Row R32 21 (.slice A n c) rs :: F)) := ⟨hS.nilRow (Kd.raw 3) 42⟩; clear hS)
    clear hd
    go_loopg [5, 6] n (fun m v q wr => ∃ (i : Nat) (acc : List Tok), i + m = n ∧ q = .int .i64 (i : Int) ∧ o = TokP.run acc .idle (rs.drop i) ∧ acc.length ≤ i ∧ Sep w0 wr (RowT v acc :: Row R32 21 (.slice A n c) rs :: F))
    case atStart => exact ⟨0, [], by omega, rfl, HO.out.symm, Nat.zero_le _, B0.out⟩
    case round =>
      obtain ⟨i, acc, him, rfl, hrun, hal, hS⟩ := hrel
      obtain ⟨A5, c5, rfl⟩ := hS.rowN (n := acc.length) (by rw [List.length_map])
      obtain ⟨K, hK⟩ : ∃ K, acc.length = K := ⟨_, rfl⟩
      rw [hK] at hS hal ⊢
      have AK := Aside0.mk him
      have HB := Aside0.mk hS
      have HU := Aside0.mk hrun
      have HK := Aside0.mk (And.intro hK hal)
      clear hK hal
      obtain ⟨G, rfl⟩ : ∃ G, G = gk := ⟨_, rfl⟩
      by_cases hi : i < n
      · obtain ⟨gr, c9, e9⟩ := hS.tail.rowFormN HN.out.1 (by omega)
        injection e9 with e9 _ e99
        subst e9 e99
        obtain ⟨f1, f2⟩ := hS.tail.rowCell (0 : Int) i hi
        have hdr := drop_cons (rs := rs) (i := i) (by rw [HN.out.1]; exact hi)
        have hrr := HN.out.2 (rs.getD i 0) (by rw [List.getD_eq_getElem?_getD, List.getElem?_eq_getElem (by rw [HN.out.1]; exact hi)]; exact List.getElem_mem _)
        obtain ⟨r, hr⟩ : ∃ r, rs.getD i 0 = r := ⟨_, rfl⟩
        rw [hr] at f1 hdr hrr
        rw [hdr] at hrun
        have HU2 := Aside0.mk hrun
        have HR := Aside0.mk hr
        have HI := Aside0.mk hi
        have HRR := Aside0.mk hrr
        have hij : (i : Int) < (n : Int) := by omega
        clear hS hrun hdr hr hrr f2 him
        by_cases h32 : r = 32
        · subst h32
          go_wp2_with fail
          go_roundg (G - 1)
          case measure => have := AK.out; omega
          case rel => exact ⟨i + 1, acc, by have := AK.out; omega, by go_num, HU2.out, by have := HK.out; omega, HB.out⟩
        · have hb32 : (r == 32) = false := by simp [h32]
          by_cases hdg : 48 ≤ r ∧ r ≤ 57
          · obtain ⟨hg1, hg2⟩ := hdg
            have hq1 : decide (48 ≤ r) = true := decide_eq_true hg1
            have hq2 : decide (r ≤ 57) = true := decide_eq_true hg2
            go_wp2_with fail
            go_loopg [6, 8] (n - i) (fun m q d wx => ∃ (j k : Nat), i ≤ j ∧ j + m = n ∧ q = .int .i64 (j : Int) ∧ d = .int .u64 (k : Int) ∧ k ≤ top ∧ o = TokP.run acc (.num k) (rs.drop j) ∧ wx = wr)
            case atStart => exact ⟨i, 0, Nat.le_refl _, by omega, rfl, rfl, Nat.zero_le _, by rw [drop_cons (by rw [HN.out.1]; exact hi), HR.out, ← run_num _ _ _ ⟨hg1, hg2⟩]; exact HU2.out, rfl⟩
            case round =>
              obtain ⟨j, k, hij2, hjm, rfl, rfl, hkt, hrun2, rfl⟩ := hrel
              have HM := Aside0.mk hjm
              have HIJ := Aside0.mk hij2
              by_cases hjn : j < n
              · obtain ⟨g1, g2⟩ := HB.out.tail.rowCell (0 : Int) j hjn
                have hdr := drop_cons (rs := rs) (i := j) (by rw [HN.out.1]; exact hjn)
                have hxr := HN.out.2 (rs.getD j 0) (by rw [List.getD_eq_getElem?_getD, List.getElem?_eq_getElem (by rw [HN.out.1]; exact hjn)]; exact List.getElem_mem _)
                obtain ⟨x, hx⟩ : ∃ x, rs.getD j 0 = x := ⟨_, rfl⟩
                rw [hx] at g1 hdr hxr
                have HX := Aside0.mk hx
                have hjl : (j : Int) < (n : Int) := by omega
                rw [hdr] at hrun2
                have HDR := Aside0.mk hdr
                have HR2 := Aside0.mk hrun2
                clear g2 hdr hx hrun2 hjm hij2
                by_cases hxd : 48 ≤ x ∧ x ≤ 57
                · obtain ⟨d, hd⟩ : ∃ d : Nat, (x - 48).toNat = d := ⟨_, rfl⟩
                  have hd9 : d ≤ 9 := by omega
                  have hxd2 : x = (d : Int) + 48 := by omega
                  have hst := run_digit acc k x (rs.drop (j + 1)) hxd
                  rw [hd] at hst
                  have HST := Aside0.mk hst
                  subst hxd2
                  clear hst hxd hd hxr
                  have e1 : decide (48 ≤ (d : Int) + 48) = true := decide_eq_true (by omega)
                  have e2 : decide ((d : Int) + 48 ≤ 57) = true := decide_eq_true (by omega)
                  have e3 : (d : Int) + 48 - 48 = (d : Int) := by omega
                  have e4 : wrap32 (d : Int) = (d : Int) := by unfold wrap32; omega
                  have e5 : IntKind.i32.wrap (d : Int) = (d : Int) := by rw [IntKind.wrap_i32]; omega
                  have e6 : IntKind.u64.wrap (d : Int) = (d : Int) := by rw [IntKind.wrap_u64]; omega
                  by_cases hov : (top - d) / 10 < k
                  · rw [if_pos hov] at HST
                    have hov2 : decide ((9223372036854775807 - (d : Int)) / 10 < (k : Int)) = true := decide_eq_true (by unfold top at hov; omega)
                    go_wp2_with fail
                    go_ret2
                    rw [HR2.out, HST.out]
                    exact ⟨by first | rfl | (simp; done), HB.out.tail.tail⟩
                  · rw [if_neg hov] at HST
                    have hov2 : decide ((9223372036854775807 - (d : Int)) / 10 < (k : Int)) = false := decide_eq_false (by unfold top at hov; omega)
                    have hk9 : k * 10 + d ≤ top := by unfold top at hov hkt ⊢; omega
                    have e7 : IntKind.u64.wrap ((k : Int) * 10) = (k : Int) * 10 := by unfold top at hk9; rw [IntKind.wrap_u64]; omega
                    have e8 : IntKind.u64.wrap ((k : Int) * 10 + (d : Int)) = ((k * 10 + d : Nat) : Int) := by unfold top at hk9; rw [IntKind.wrap_u64]; omega
                    have HK9 := Aside0.mk hk9
                    clear hk9 hkt hov
                    go_wp2_with fail
                    go_roundg (gk - 1)
                    case measure => have := HM.out; omega
                    case rel => exact ⟨j + 1, k * 10 + d, by have := HIJ.out; omega, by have := HM.out; omega, by go_num, by first | rfl | (congr 1; push_cast; rfl) | (push_cast; rfl), HK9.out, by rw [HR2.out]; exact HST.out, rfl⟩
                · have HF : Aside0 (o = TokP.run (acc ++ [⟨48, (k : Int), 0⟩]) .idle (rs.drop j)) := ⟨by rw [HDR.out, ← run_flush _ _ _ _ hxd]; exact HR2.out⟩
                  have hij3 : i ≠ j := fun hq => hxd (by rw [← HX.out, ← hq, HR.out]; exact ⟨hg1, hg2⟩)
                  have HJ := Aside0.mk (And.intro hij3 (And.intro HIJ.out hjn))
                  by_cases hx1 : 48 ≤ x
                  · have hx2 : ¬ x ≤ 57 := fun hq => hxd ⟨hx1, hq⟩
                    have hq5 : decide (48 ≤ x) = true := decide_eq_true hx1
                    have hq6 : decide (x ≤ 57) = false := decide_eq_false hx2
                    have L := Aside0.mk ((oneTok HB.out ⟨48, (k : Int), 0⟩).at2)
                    have hwj : wrap64 ((j : Int) - 1) = (j : Int) - 1 := IntWalk.wrap64_in _ (by omega)
                    have hwj2 : wrap64 (j : Int) = (j : Int) := IntWalk.wrap64_in _ (by omega)
                    have hwk : wrap64 (k : Int) = (k : Int) := IntWalk.wrap64_in _ (by unfold top at hkt; omega)
                    have hwk2 : IntKind.i64.wrap (k : Int) = (k : Int) := by unfold top at hkt; rw [IntKind.wrap_i64]; omega
                    go_wp2_with (first | (refine gate_builtin (b := .append) (xs := #[.tmp 75, .tmp 79]) rfl ?_; go_loud (refine L.out.appendRaw rfl (.tmp 75) (.tmp 79) 24 (.agg #[.int .i32 0, .int .i64 0, .int .i32 0]) 24 rfl Try.underlying24 infoTok rfl (by decide) (by decide) (some ⟨wr.heap.size, 0, none⟩) 1 1 rfl rfl (rowT_TC L.out.at2) (by rw [List.length_map]; have := HK.out; have := HI.out; simp; omega) ?_; intro v7 w7 hS7; have B7 := Aside0.mk hS7.at2.tail; clear hS7)))
                    go_roundg (n - j)
                    case measure => have := AK.out; have := HJ.out; omega
                    case rel => exact ⟨j, acc ++ [⟨48, (k : Int), 0⟩], by have := HJ.out; omega, by go_num, HF.out, by rw [List.length_append]; have := HK.out; have := HJ.out; simp; omega, by have h9 := B7.out; rw [← List.map_append] at h9; exact h9⟩
                  · skip
                    have hq5 : decide (48 ≤ x) = false := decide_eq_false hx1
                    have L := Aside0.mk ((oneTok HB.out ⟨48, (k : Int), 0⟩).at2)
                    have hwj : wrap64 ((j : Int) - 1) = (j : Int) - 1 := IntWalk.wrap64_in _ (by omega)
                    have hwj2 : wrap64 (j : Int) = (j : Int) := IntWalk.wrap64_in _ (by omega)
                    have hwk : wrap64 (k : Int) = (k : Int) := IntWalk.wrap64_in _ (by unfold top at hkt; omega)
                    have hwk2 : IntKind.i64.wrap (k : Int) = (k : Int) := by unfold top at hkt; rw [IntKind.wrap_i64]; omega
                    go_wp2_with (first | (refine gate_builtin (b := .append) (xs := #[.tmp 75, .tmp 79]) rfl ?_; go_loud (refine L.out.appendRaw rfl (.tmp 75) (.tmp 79) 24 (.agg #[.int .i32 0, .int .i64 0, .int .i32 0]) 24 rfl Try.underlying24 infoTok rfl (by decide) (by decide) (some ⟨wr.heap.size, 0, none⟩) 1 1 rfl rfl (rowT_TC L.out.at2) (by rw [List.length_map]; have := HK.out; have := HI.out; simp; omega) ?_; intro v7 w7 hS7; have B7 := Aside0.mk hS7.at2.tail; clear hS7)))
                    go_roundg (n - j)
                    case measure => have := AK.out; have := HJ.out; omega
                    case rel => exact ⟨j, acc ++ [⟨48, (k : Int), 0⟩], by have := HJ.out; omega, by go_num, HF.out, by rw [List.length_append]; have := HK.out; have := HJ.out; simp; omega, by have h9 := B7.out; rw [← List.map_append] at h9; exact h9⟩
              · have hjn2 : j = n := by omega
                have HF : Aside0 (o = TokP.run (acc ++ [⟨48, (k : Int), 0⟩]) .idle (rs.drop j)) := ⟨by rw [hrun2, List.drop_of_length_le (by rw [HN.out.1]; omega)]; rfl⟩
                have HJ : Aside0 (i ≠ j ∧ i ≤ j ∧ j ≤ n) := ⟨by omega, hij2, by omega⟩
                have hjl : ¬ (j : Int) < (n : Int) := by omega
                have hjl2 : decide ((j : Int) < (n : Int)) = false := decide_eq_false hjl
                clear hrun2 hjm hij2
                skip
                have L := Aside0.mk ((oneTok HB.out ⟨48, (k : Int), 0⟩).at2)
                have hwj : wrap64 ((j : Int) - 1) = (j : Int) - 1 := IntWalk.wrap64_in _ (by omega)
                have hwj2 : wrap64 (j : Int) = (j : Int) := IntWalk.wrap64_in _ (by omega)
                have hwk : wrap64 (k : Int) = (k : Int) := IntWalk.wrap64_in _ (by unfold top at hkt; omega)
                have hwk2 : IntKind.i64.wrap (k : Int) = (k : Int) := by unfold top at hkt; rw [IntKind.wrap_i64]; omega
                go_wp2_with (first | (refine gate_builtin (b := .append) (xs := #[.tmp 75, .tmp 79]) rfl ?_; go_loud (refine L.out.appendRaw rfl (.tmp 75) (.tmp 79) 24 (.agg #[.int .i32 0, .int .i64 0, .int .i32 0]) 24 rfl Try.underlying24 infoTok rfl (by decide) (by decide) (some ⟨wr.heap.size, 0, none⟩) 1 1 rfl rfl (rowT_TC L.out.at2) (by rw [List.length_map]; have := HK.out; have := HI.out; simp; omega) ?_; intro v7 w7 hS7; have B7 := Aside0.mk hS7.at2.tail; clear hS7)))
                go_roundg (n - j)
                case measure => have := AK.out; have := HJ.out; omega
                case rel => exact ⟨j, acc ++ [⟨48, (k : Int), 0⟩], by have := HJ.out; omega, by go_num, HF.out, by rw [List.length_append]; have := HK.out; have := HJ.out; simp; omega, by have h9 := B7.out; rw [← List.map_append] at h9; exact h9⟩
          · have hq : (decide (48 ≤ r) && decide (r ≤ 57)) = false := by simp; omega
            by_cases hnm : namedB r = true
            · have hnm2 : r = 955 ∨ r = 960 := by unfold namedB at hnm; simpa using hnm
              by_cases hin : i + 1 < n
              · obtain ⟨g1, g2⟩ := HB.out.tail.rowCell (0 : Int) (i + 1) hin
                have hdr := drop_cons (rs := rs) (i := i + 1) (by rw [HN.out.1]; exact hin)
                obtain ⟨x, hx⟩ : ∃ x, rs.getD (i + 1) 0 = x := ⟨_, rfl⟩
                rw [hx] at g1 hdr
                have hun := HU2.out
                rw [hdr, run_named _ _ _ _ hnm] at hun
                have HUN := Aside0.mk hun
                obtain ⟨b, hb⟩ : ∃ b, nameB x = b := ⟨_, rfl⟩
                have HNB := Aside0.mk hb
                rw [hb] at HUN
                have hin2 : ((i : Int) + 1) < (n : Int) := by omega
                have hin3 : decide ((n : Int) ≤ (i : Int) + 1) = false := decide_eq_false (by omega)
                have hit : ((i : Int) + 1).toNat = i + 1 := by omega
                have hw1 : wrap64 ((i : Int) + 1) = (i : Int) + 1 := IntWalk.wrap64_in _ (by omega)
                have L := Aside0.mk ((oneTok HB.out ⟨r, 0, x⟩).at2)
                have HIN := Aside0.mk hin
                clear g2 hdr hx hun hb hin hnm hq
                cases b with
                | false =>
                  rcases hnm2 with rfl | rfl
                  all_goals
                    go_wp2_with (go_at_call 26; refine (name_ x).mono ?_; rintro e w2 ⟨rfl, rfl⟩; rw [HNB.out])
                    go_ret2
                    rw [HUN.out]
                    exact ⟨by first | rfl | (simp; done), HB.out.tail.tail⟩
                | true =>
                  rcases hnm2 with rfl | rfl
                  all_goals
                    go_upto_region 23 with (go_at_call 26; refine (name_ x).mono ?_; rintro e w2 ⟨rfl, rfl⟩; rw [HNB.out])
                    go_wp2_with (first | (refine gate_builtin (b := .append) (xs := #[.tmp 102, .tmp 110]) rfl ?_; go_loud (refine L.out.appendRaw rfl (.tmp 102) (.tmp 110) 24 (.agg #[.int .i32 0, .int .i64 0, .int .i32 0]) 24 rfl Try.underlying24 infoTok rfl (by decide) (by decide) (some ⟨wr.heap.size, 0, none⟩) 1 1 rfl rfl (rowT_TC L.out.at2) (by rw [List.length_map]; have := HK.out; have := HI.out; simp; omega) ?_; intro v7 w7 hS7; have B7 := Aside0.mk hS7.at2.tail; clear hS7)))
                    go_roundg (G - 2)
                    case measure => have := AK.out; omega
                    case rel => exact ⟨i + 2, acc ++ [⟨_, 0, x⟩], by have := AK.out; have := HIN.out; omega, by go_num, by have h9 := HUN.out; rw [if_pos trivial] at h9; exact h9, by rw [List.length_append]; have := HK.out; simp; omega, by have h9 := B7.out; rw [← List.map_append] at h9; exact h9⟩
              · have hin1 : i + 1 = n := by omega
                have hun := HU2.out
                rw [List.drop_of_length_le (by rw [HN.out.1]; omega), run_namedE _ _ hnm] at hun
                have HUN := Aside0.mk hun
                have hin3 : decide ((n : Int) ≤ (i : Int) + 1) = true := decide_eq_true (by omega)
                have hw1 : wrap64 ((i : Int) + 1) = (i : Int) + 1 := IntWalk.wrap64_in _ (by omega)
                have HIN1 := Aside0.mk hin1
                clear hun hnm hin1 hq
                rcases hnm2 with rfl | rfl
                all_goals
                  go_wp2_with fail
                  go_ret2
                  rw [HUN.out]
                  exact ⟨by first | rfl | (simp; done), HB.out.tail.tail⟩
            · have hnf : namedB r = false := by simpa using hnm
              have h955 : ¬ r = 955 := fun hq => hnm (by rw [hq]; rfl)
              have h960 : ¬ r = 960 := fun hq => hnm (by rw [hq]; rfl)
              have hb955 : (r == 955) = false := by simp [h955]
              have hb960 : (r == 960) = false := by simp [h960]
              have hun := HU2.out
              rw [run_else _ _ _ h32 hdg hnf] at hun
              have HUN := Aside0.mk hun
              obtain ⟨b, hb⟩ : ∃ b, knownB r = b := ⟨_, rfl⟩
              have HNB := Aside0.mk hb
              rw [hb] at HUN
              clear hun hb hnm hnf hq
              by_cases hx1 : 48 ≤ r
              · have hx2 : ¬ r ≤ 57 := fun hq => hdg ⟨hx1, hq⟩
                have hq5 : decide (48 ≤ r) = true := decide_eq_true hx1
                have hq6 : decide (r ≤ 57) = false := decide_eq_false hx2
                cases b with
                | false =>
                  go_wp2_with (go_at_call 27; refine (known_ HB.out r).mono ?_; rintro e w2 ⟨rfl, hS2⟩; rw [HNB.out]; have B2 := Aside0.mk hS2; clear hS2)
                  go_ret2
                  rw [HUN.out]
                  exact ⟨by first | rfl | (simp; done), B2.out.tail.tail⟩
                | true =>
                  go_upto_region 26 with (go_at_call 27; refine (known_ HB.out r).mono ?_; rintro e w2 ⟨rfl, hS2⟩; rw [HNB.out]; have B2 := Aside0.mk hS2; clear hS2)
                  have L := Aside0.mk ((oneTok B2.out ⟨r, 0, 0⟩).at2)
                  go_wp2_with (first | (refine gate_builtin (b := .append) (xs := #[.tmp 117, .tmp 120]) rfl ?_; go_loud (refine L.out.appendRaw rfl (.tmp 117) (.tmp 120) 24 (.agg #[.int .i32 0, .int .i64 0, .int .i32 0]) 24 rfl Try.underlying24 infoTok rfl (by decide) (by decide) (some ⟨w2.heap.size, 0, none⟩) 1 1 rfl rfl (rowT_TC L.out.at2) (by rw [List.length_map]; have := HK.out; have := HI.out; simp; omega) ?_; intro v7 w7 hS7; have B7 := Aside0.mk hS7.at2.tail; clear hS7)))
                  go_roundg (G - 1)
                  case measure => have := AK.out; omega
                  case rel => exact ⟨i + 1, acc ++ [⟨r, 0, 0⟩], by have := AK.out; omega, by go_num, by have h9 := HUN.out; rw [if_pos trivial] at h9; exact h9, by rw [List.length_append]; have := HK.out; simp; omega, by have h9 := B7.out; rw [← List.map_append] at h9; exact h9⟩
              · have hq5 : decide (48 ≤ r) = false := decide_eq_false hx1
                cases b with
                | false =>
                  go_wp2_with (go_at_call 27; refine (known_ HB.out r).mono ?_; rintro e w2 ⟨rfl, hS2⟩; rw [HNB.out]; have B2 := Aside0.mk hS2; clear hS2)
                  go_ret2
                  rw [HUN.out]
                  exact ⟨by first | rfl | (simp; done), B2.out.tail.tail⟩
                | true =>
                  go_upto_region 26 with (go_at_call 27; refine (known_ HB.out r).mono ?_; rintro e w2 ⟨rfl, hS2⟩; rw [HNB.out]; have B2 := Aside0.mk hS2; clear hS2)
                  have L := Aside0.mk ((oneTok B2.out ⟨r, 0, 0⟩).at2)
                  go_wp2_with (first | (refine gate_builtin (b := .append) (xs := #[.tmp 117, .tmp 120]) rfl ?_; go_loud (refine L.out.appendRaw rfl (.tmp 117) (.tmp 120) 24 (.agg #[.int .i32 0, .int .i64 0, .int .i32 0]) 24 rfl Try.underlying24 infoTok rfl (by decide) (by decide) (some ⟨w2.heap.size, 0, none⟩) 1 1 rfl rfl (rowT_TC L.out.at2) (by rw [List.length_map]; have := HK.out; have := HI.out; simp; omega) ?_; intro v7 w7 hS7; have B7 := Aside0.mk hS7.at2.tail; clear hS7)))
                  go_roundg (G - 1)
                  case measure => have := AK.out; omega
                  case rel => exact ⟨i + 1, acc ++ [⟨r, 0, 0⟩], by have := AK.out; omega, by go_num, by have h9 := HUN.out; rw [if_pos trivial] at h9; exact h9, by rw [List.length_append]; have := HK.out; simp; omega, by have h9 := B7.out; rw [← List.map_append] at h9; exact h9⟩
      · have hin : i = n := by omega
        have hf : TokP.run acc .idle (rs.drop i) = some acc := by rw [List.drop_of_length_le (by rw [HN.out.1]; omega)]; rfl
        rw [hf] at hrun
        have HUN := Aside0.mk hrun
        have hjl2 : decide ((i : Int) < (n : Int)) = false := decide_eq_false (by omega)
        clear hf hrun hS him
        go_wp2_with fail
        go_ret2
        rw [HUN.out]
        exact ⟨_, by first | rfl | (simp; done), HB.out.drop2⟩
end
end Go.Proofs.Ytkkgfpdjlohojaa.RefT
namespace Go.Proofs.Ytkkgfpdjlohojaa.NestR
open Go.RowKit Go.Proofs.YtkkgfpdjlohojaaW.PrintWords Go.Proofs.YtkkgfpdjlohojaaW.PrintLast Go.Proofs.YtkkgfpdjlohojaaW.PrintMore Go.Proofs.Ytkkgfpdjlohojaa.Kit
open Go.Proofs.Ytkkgfpdjlohojaa.NestP Go.Proofs.Ytkkgfpdjlohojaa.TokP Go.Proofs.Ytkkgfpdjlohojaa.Tok
abbrev I64 : Kd Int := Kd.int .i64
theorem sgn_at {l : List Tok} {i : Nat} {t : Tok} (h : l[i]? = some t) : (sgn l).getD i 0 = t.sign := by
  unfold sgn
  rw [List.getD_eq_getElem?_getD, List.getElem?_map, h]
  rfl
set_option maxHeartbeats 1600000 in
set_option maxRecDepth 100000 in
theorem leaves_ {W : World} {A B : Option Addr} {n c c2 : Nat} {l : List Tok} {tt : List Int} (hT : TC W A n l) (hB : I64.C W B n tt) (at_ : Nat) (ha : at_ ≤ n) :
    Calls Try.prog 29 #[.slice A n c, .slice B n c2, .int .i64 (at_ : Int)] W fun e w' => e = .returned (.int .i64 (leavesF (sgn l) tt at_ (n - at_) at_)) ∧ W = w' := by
  have hnm : n ≤ 9223372036854775807 := hT.lt
  have HT := Aside0.mk hT
  have HB := Aside0.mk hB
  clear hT hB
  go_enter Try.func29, Try.ntmps29
  go_wp2_with fail
  go_loopg [7] (n - at_) (fun m q wr => ∃ i : Nat, q = .int .i64 (i : Int) ∧ i + m = n ∧ wr = W ∧ leavesF (sgn l) tt at_ (n - at_) at_ = leavesF (sgn l) tt at_ m i)
  case atStart => exact ⟨at_, rfl, by omega, rfl, rfl⟩
  case round =>
    obtain ⟨i, rfl, him, rfl, hl⟩ := hrel
    have AK := Aside0.mk him
    have HL := Aside0.mk hl
    by_cases hi : i < n
    · obtain ⟨ad, t, rfl, ht, d0, d1, d2⟩ := TC.at_ HT.out hi
      obtain ⟨ad2, hB2, hc⟩ := Kd.at_int HB.out (i : Int) (by omega) (by omega)
      subst hB2
      rw [Int.toNat_natCast] at hc
      obtain ⟨x, hx⟩ : ∃ x, rd tt (i : Int) = x := ⟨_, rfl⟩
      rw [hx] at hc
      have hxg : tt.getD i 0 = x := by rw [← hx]; unfold rd; rw [Int.toNat_natCast]
      obtain ⟨k, rfl⟩ : ∃ k, gk = k + 1 := ⟨gk - 1, by omega⟩
      have hst := sgn_at ht
      have hij : (i : Int) < (n : Int) := by omega
      have hw : wrap64 ((i : Int) + 1) = (i : Int) + 1 := IntWalk.wrap64_in _ (by omega)
      have HX := Aside0.mk hxg
      have HST := Aside0.mk hst
      obtain ⟨s, hs⟩ : ∃ s, t.sign = s := ⟨_, rfl⟩
      rw [hs] at d0 HST
      clear hl him ht hx hxg hst d1 d2 hs
      by_cases h93 : s = 93
      · subst h93
        by_cases hlt : x < (at_ : Int)
        · have hd : decide (x < (at_ : Int)) = true := decide_eq_true hlt
          have hr : leavesF (sgn l) tt at_ (k + 1) i = (i : Int) + 1 := by unfold leavesF; rw [if_pos ⟨HST.out, by rw [HX.out]; exact hlt⟩]
          have HR := Aside0.mk hr
          clear hr
          go_wp2_with fail
          go_ret
          exact ⟨by rw [HL.out, HR.out]; first | rfl | (simp; done), rfl⟩
        · have hd : decide (x < (at_ : Int)) = false := decide_eq_false hlt
          have hr : leavesF (sgn l) tt at_ (k + 1) i = leavesF (sgn l) tt at_ k (i + 1) := by rw [leavesF, if_neg (by rintro ⟨_, h⟩; rw [HX.out] at h; exact hlt h)]
          have HR := Aside0.mk hr
          clear hr
          go_wp2_with fail
          go_roundg k
          case measure => omega
          case rel => exact ⟨i + 1, by go_num, by have := AK.out; omega, rfl, by rw [HL.out, HR.out]⟩
      · have hr : leavesF (sgn l) tt at_ (k + 1) i = leavesF (sgn l) tt at_ k (i + 1) := by rw [leavesF, if_neg (by rintro ⟨h, _⟩; rw [HST.out] at h; exact h93 h)]
        have HR := Aside0.mk hr
        clear hr
        go_wp2_with fail
        go_roundg k
        case measure => omega
        case rel => exact ⟨i + 1, by go_num, by have := AK.out; omega, rfl, by rw [HL.out, HR.out]⟩
    · have hin : i = n := by omega
      obtain rfl : gk = 0 := by omega
      subst hin
      have hr : leavesF (sgn l) tt at_ 0 i = -1 := rfl
      have HR := Aside0.mk hr
      clear hr hl him
      go_wp2_with fail
      go_ret
      exact ⟨by rw [HL.out, HR.out]; first | rfl | (simp; done), rfl⟩
end Go.Proofs.Ytkkgfpdjlohojaa.NestR
