/- Func6, Func7, Keep2: what NestAdds needs. -/
import Derived.Test.YtkkgfpdjlohojaaTnestAdds9
set_option linter.unusedVariables false
set_option linter.unusedSimpArgs false
namespace Go.Proofs.Ytkkgfpdjlohojaa.Fn
open Go.RowKit Go.Proofs.YtkkgfpdjlohojaaW.PrintWords Go.Proofs.YtkkgfpdjlohojaaW.PrintLast Go.Proofs.YtkkgfpdjlohojaaW.PrintMore Go.Proofs.Ytkkgfpdjlohojaa.Kit
open Go.Proofs.Ytkkgfpdjlohojaa.TokP Go.Proofs.Ytkkgfpdjlohojaa.Tok
section
variable {w0 W : World} {F : List HP} {g : Nat} {h : Int} {vo : Value} {bs : List Bk} {pg mo : Int} {A : Option Addr} {n c : Nat} {fs : List Fnc}
theorem oneBk (h : Sep w0 W F) (b : Bk) : Sep w0 (W.alloc (.cells (cellB b).toArray 86)) (Row (Kd.raw 4) 86 (.slice (some ⟨W.heap.size, 0, none⟩) 1 1) [cellB b] :: F) :=
  h.newLit (d := Kd.raw 4) (xs := [cellB b]) (inner := cellB b) (e := 86) (one_raw rfl (by
    intro u hu
    simp only [cellB, List.mem_cons, List.not_mem_nil, or_false] at hu
    rcases hu with rfl | rfl | rfl | rfl <;> rfl)) (by simp)
theorem opened {v5 v6 : Value} {x : HP} {rs : List (List Value)} {u : Value} (h : Sep w0 W (Blk g 78 ((#[u, v5] : Array Value).setIfInBounds 1 v6) :: ([Row (Kd.raw 4) 86 v6 rs, x] ++ F))) : Sep w0 W (Blk g 78 #[u, v6] :: Row (Kd.raw 4) 86 v6 rs :: F) := (Sep.at3 h).tail
set_option maxHeartbeats 6400000 in
set_option maxRecDepth 100000 in
theorem tokenN_ (hC : ∀ W', Sep w0 W' F → FC W' A n fs) (hS : Sep w0 W (StL g h vo bs F)) (hbl : bs.length ≤ 1000000) (r N nm : Int) (hr1 : ¬ r = 58) (hr2 : ¬ r = 59) (hr3 : ¬ r = 93) :
    Calls Try.prog 33 #[.pointer (some ⟨g, 0, none⟩), uV pg mo A n c, .agg #[.int .i32 r, .int .i64 N, .int .i32 nm]] W fun e w' => TP w0 w' F g e r bs.length := by
  have H1 := Aside0.mk (st_box hS pg mo A n c r N nm)
  have HC := Aside0.mk hC
  have HBL := Aside0.mk hbl
  have b58 : (r == 58) = false := by simp [hr1]
  have b59 : (r == 59) = false := by simp [hr2]
  have b93 : (r == 93) = false := by simp [hr3]
  have HR := Aside0.mk (And.intro hr1 (And.intro hr2 hr3))
  clear hS hC hbl hr1 hr2 hr3
  obtain ⟨w1, hw1⟩ : ∃ x, (W.alloc (.cells #[.int .i64 pg, .int .i64 mo, .slice A n c] 30)).alloc (.cells #[.int .i32 r, .int .i64 N, .int .i32 nm] 42) = x := ⟨_, rfl⟩
  have H2 := H1
  rw [hw1] at H2
  have u0 : w1.cell? ⟨W.heap.size, 0, none⟩ = some (.int .i64 pg) := (Sep.cell (Sep.pull [_, _, _] H2.out) 0).trans rfl
  have u1 : w1.cell? ⟨W.heap.size, 1, none⟩ = some (.int .i64 mo) := (Sep.cell (Sep.pull [_, _, _] H2.out) 1).trans rfl
  have u2 : w1.cell? ⟨W.heap.size, 2, none⟩ = some (.slice A n c) := (Sep.cell (Sep.pull [_, _, _] H2.out) 2).trans rfl
  have t0 : w1.cell? ⟨W.heap.size + 1, 0, none⟩ = some (.int .i32 r) := (Sep.cell (Sep.pull [_, _] H2.out) 0).trans rfl
  have t1 : w1.cell? ⟨W.heap.size + 1, 1, none⟩ = some (.int .i64 N) := (Sep.cell (Sep.pull [_, _] H2.out) 1).trans rfl
  have t2 : w1.cell? ⟨W.heap.size + 1, 2, none⟩ = some (.int .i32 nm) := (Sep.cell (Sep.pull [_, _] H2.out) 2).trans rfl
  have s0 := st_h H2.out
  obtain ⟨gu, hgu⟩ : ∃ x, W.heap.size = x := ⟨_, rfl⟩
  rw [hgu] at H2 u0 u1 u2 t0 t1 t2
  have HW := Aside0.mk (And.intro hw1 hgu)
  clear H1 hw1 hgu
  have fin : ∀ {w' : World} {k : Nat} {er : Int}, StT w0 w' (tB (gu + 1) r N nm :: uB gu pg mo A n c :: F) g k → (er = 0 → k = nx r bs.length) → TP w0 w' F g (.returned (.int .i64 er)) r bs.length := fun hT he => ⟨_, _, rfl, stt_tail hT, he⟩
  by_cases hlt : h < 0
  · have hd : decide (h < 0) = true := decide_eq_true hlt
    go_enter Try.func33, Try.ntmps33
    go_upto_region 1 with fail
    rw [HW.out.1, HW.out.2]
    go_wp2_with fail
    go_ret
    exact fin ⟨_, _, _, rfl, H2.out⟩ (fun h => by omega)
  · have hd : decide (h < 0) = false := decide_eq_false hlt
    go_enter Try.func33, Try.ntmps33
    go_upto_region 1 with fail
    rw [HW.out.1, HW.out.2]
    go_wp2_with fail
    refine (takes_ (fun W' h' => HC.out W' h'.tail.tail.tail.tail) H2.out _ N nm).mono ?_
    rintro e w2 ⟨⟨a, b, ok, rfl⟩, hS2⟩
    have B2 := Aside0.mk hS2
    clear u0 u1 u2 t0 t1 t2 s0 hlt hd
    have t0 : w2.cell? ⟨gu + 1, 0, none⟩ = some (.int .i32 r) := (Sep.cell (Sep.pull [_, _] hS2) 0).trans rfl
    have s0 := st_h hS2
    clear hS2
    cases ok with
    | false =>
      go_wp2_with fail
      go_ret
      exact fin ⟨_, _, _, rfl, B2.out⟩ (fun h => by omega)
    | true =>
      obtain ⟨d1, hd1⟩ : ∃ d, wrap64 (h - bF bs) = d := ⟨_, rfl⟩
      obtain ⟨d2, hd2⟩ : ∃ d, wrap64 (h - a) = d := ⟨_, rfl⟩
      obtain ⟨d3, hd3⟩ : ∃ d, wrap64 (d2 + b) = d := ⟨_, rfl⟩
      have z0 : w2.drew.cell? ⟨g, 0, none⟩ = some (.int .i64 h) := st_h B2.out.drew
      by_cases hc1 : d1 < a
      · have hcd : decide (d1 < a) = true := decide_eq_true hc1
        go_wp2_with fail
        refine start_ (n := 20) (S := fun w' => w'.cell? ⟨g, 0, none⟩ = some (.int .i64 h)) (ds := []) #[Z,Z,Z,Z,Z,Z,Z,Z,Z,Z,Z,Z,Z,Z,Z,Z,Z,Z,Z,Z] (by kernel_rfl) rfl rfl (z0) (fun hHeld => ?_)
        refine pu_ 0 48 ?_ #[J,Z,Z,Z,Z,Z,Z,Z,Z,Z,Z,Z,Z,Z,Z,Z,Z,Z,Z,Z] rfl rfl ?_ ?_ ?_ ?_
        rotate_left
        · intro w'
          go_simp
          with_reducible rfl
        rotate_left
        · simp only [aP]
          rfl
        refine pu_ 1 49 ?_ #[J,J,Z,Z,Z,Z,Z,Z,Z,Z,Z,Z,Z,Z,Z,Z,Z,Z,Z,Z] rfl rfl ?_ ?_ ?_ ?_
        rotate_left
        · intro w'
          go_simp
          with_reducible rfl
        rotate_left
        · simp only [aP]
          rfl
        refine pu_ 2 50 ?_ #[J,J,J,Z,Z,Z,Z,Z,Z,Z,Z,Z,Z,Z,Z,Z,Z,Z,Z,Z] rfl rfl ?_ ?_ ?_ ?_
        rotate_left
        · intro w'
          go_simp
          with_reducible rfl
        rotate_left
        · simp only [aP]
          rfl
        refine pu_ 4 52 ?_ #[J,J,J,Z,J,Z,Z,Z,Z,Z,Z,Z,Z,Z,Z,Z,Z,Z,Z,Z] rfl rfl ?_ ?_ ?_ ?_
        rotate_left
        · intro w'
          go_simp
          with_reducible rfl
        rotate_left
        · simp only [aP]
          rfl
        refine pu_ 7 55 ?_ #[J,J,J,Z,J,Z,Z,J,Z,Z,Z,Z,Z,Z,Z,Z,Z,Z,Z,Z] rfl rfl ?_ ?_ ?_ ?_
        rotate_left
        · intro w'
          go_simp
          with_reducible rfl
        rotate_left
        · simp only [aP]
          rfl
        refine ta_ 3 51 ?_ #[J,J,J,J,J,Z,Z,J,Z,Z,Z,Z,Z,Z,Z,Z,Z,Z,Z,Z] rfl rfl ?_ hHeld ?_ ?_ ?_
        rotate_left
        · intro w' s0
          go_simp
          with_reducible rfl
        rotate_left
        · simp only [aP]
          rfl
        refine one_ (i := 5) (N := some 53) #[J,J,J,J,J,J,Z,J,Z,Z,Z,Z,Z,Z,Z,Z,Z,Z,Z,Z] rfl rfl (by kernel_rfl) (by decide) (fun K hK => ?_)
        refine goes_ Try.func38 (by kernel_rfl) rfl #[.pointer (some ⟨g, 0, none⟩)] (by rfl) rfl rfl (by simp only [List.map_toArray, List.map_cons, List.map_nil]; rfl) ?_
        with_reducible refine (base_ B2.out.drew).mono ?_
        rintro e w3 ⟨rfl, hS3⟩
        refine ⟨_, rfl, ?_⟩
        have B3 := Aside0.mk hS3
        clear hS3
        refine hK.out _ _ (st_h B3.out) (fun hHeld => ?_)
        clear hK K
        refine norm_ (a' := ?_) ?_ ?_
        rotate_left
        · show Act.put _ (some 53) _ = _
          simp only [aP]
          rfl
        refine pu_ 6 54 ?_ #[J,J,J,J,J,J,J,J,Z,Z,Z,Z,Z,Z,Z,Z,Z,Z,Z,Z] rfl rfl ?_ ?_ ?_ ?_
        rotate_left
        · intro w'
          go_simp
          with_reducible rfl
        rotate_left
        · simp only [aP]
          rfl
        refine pu_ 8 56 ?_ #[J,J,J,J,J,J,J,J,J,Z,Z,Z,Z,Z,Z,Z,Z,Z,Z,Z] rfl rfl ?_ ?_ ?_ ?_
        rotate_left
        · intro w'
          go_simp
          with_reducible rfl
        rotate_left
        · simp only [aP]
          rfl
        refine pu_ 9 57 ?_ #[J,J,J,J,J,J,J,J,J,J,Z,Z,Z,Z,Z,Z,Z,Z,Z,Z] rfl rfl ?_ ?_ ?_ ?_
        rotate_left
        · intro w'
          go_simp
          with_reducible rfl
        rotate_left
        · simp only [aP]
          rfl
        refine pure_ (i := 10) (N := some 58) (v := undef) (a' := ?_) #[J,J,J,J,J,J,J,J,J,J,J,Z,Z,Z,Z,Z,Z,Z,Z,Z] rfl rfl (by kernel_rfl) (fun _ _ _ h => h) (Or.inr ⟨by rfl, rfl⟩) ?_ ?_
        rotate_left
        · simp only [aP]
          rfl
        refine pure_ (i := 11) (N := some 59) (v := undef) (a' := ?_) #[J,J,J,J,J,J,J,J,J,J,J,J,Z,Z,Z,Z,Z,Z,Z,Z] rfl rfl (by kernel_rfl) (fun _ _ _ h => h) (Or.inr ⟨by rfl, rfl⟩) ?_ ?_
        rotate_left
        · simp only [aP]
          rfl
        refine pure_ (i := 12) (N := some 60) (v := undef) (a' := ?_) #[J,J,J,J,J,J,J,J,J,J,J,J,J,Z,Z,Z,Z,Z,Z,Z] rfl rfl (by kernel_rfl) (fun _ _ _ h => h) (Or.inr ⟨by rfl, rfl⟩) ?_ ?_
        rotate_left
        · simp only [aP]
          rfl
        refine pure_ (i := 13) (N := some 61) (v := undef) (a' := ?_) #[J,J,J,J,J,J,J,J,J,J,J,J,J,J,Z,Z,Z,Z,Z,Z] rfl rfl (by kernel_rfl) (fun _ _ _ h => h) (Or.inr ⟨by rfl, rfl⟩) ?_ ?_
        rotate_left
        · simp only [aP]
          rfl
        refine pure_ (i := 14) (N := some 62) (v := undef) (a' := ?_) #[J,J,J,J,J,J,J,J,J,J,J,J,J,J,J,Z,Z,Z,Z,Z] rfl rfl (by kernel_rfl) (fun _ _ _ h => h) (Or.inr ⟨by rfl, rfl⟩) ?_ ?_
        rotate_left
        · simp only [aP]
          rfl
        refine pure_ (i := 15) (N := some 63) (v := undef) (a' := ?_) #[J,J,J,J,J,J,J,J,J,J,J,J,J,J,J,J,Z,Z,Z,Z] rfl rfl (by kernel_rfl) (fun _ _ _ h => h) (Or.inr ⟨by rfl, rfl⟩) ?_ ?_
        rotate_left
        · simp only [aP]
          rfl
        refine pure_ (i := 16) (N := some 64) (v := undef) (a' := ?_) #[J,J,J,J,J,J,J,J,J,J,J,J,J,J,J,J,J,Z,Z,Z] rfl rfl (by kernel_rfl) (fun _ _ _ h => h) (Or.inr ⟨by rfl, rfl⟩) ?_ ?_
        rotate_left
        · simp only [aP]
          rfl
        refine pure_ (i := 17) (N := some 65) (v := undef) (a' := ?_) #[J,J,J,J,J,J,J,J,J,J,J,J,J,J,J,J,J,J,Z,Z] rfl rfl (by kernel_rfl) (fun _ _ _ h => h) (Or.inr ⟨by rfl, rfl⟩) ?_ ?_
        rotate_left
        · simp only [aP]
          rfl
        refine pure_ (i := 18) (N := some 66) (v := undef) (a' := ?_) #[J,J,J,J,J,J,J,J,J,J,J,J,J,J,J,J,J,J,J,Z] rfl rfl (by kernel_rfl) (fun _ _ _ h => h) (Or.inr ⟨by rfl, rfl⟩) ?_ ?_
        rotate_left
        · simp only [aP]
          rfl
        refine pu_ 19 67 ?_ #[J,J,J,J,J,J,J,J,J,J,J,J,J,J,J,J,J,J,J,J] rfl rfl ?_ ?_ ?_ ?_
        rotate_left
        · intro w'
          go_simp
          with_reducible rfl
        rotate_left
        · simp only [aP]
          rfl
        refine done_ (by kernel_rfl) ?_
        go_wp2_with fail
        go_ret
        exact fin ⟨_, _, _, rfl, B3.out⟩ (fun h => by omega)
      · have hcd : decide (d1 < a) = false := decide_eq_false hc1
        by_cases hc2 : 64 < d3
        · have hce : decide (64 < d3) = true := decide_eq_true hc2
          go_wp2_with fail
          refine start_ (n := 20) (S := fun w' => w'.cell? ⟨g, 0, none⟩ = some (.int .i64 h)) (ds := []) #[Z,Z,Z,Z,Z,Z,Z,Z,Z,Z,Z,Z,Z,Z,Z,Z,Z,Z,Z,Z] (by kernel_rfl) rfl rfl (z0) (fun hHeld => ?_)
          refine pu_ 0 48 ?_ #[J,Z,Z,Z,Z,Z,Z,Z,Z,Z,Z,Z,Z,Z,Z,Z,Z,Z,Z,Z] rfl rfl ?_ ?_ ?_ ?_
          rotate_left
          · intro w'
            go_simp
            with_reducible rfl
          rotate_left
          · simp only [aP]
            rfl
          refine pu_ 1 49 ?_ #[J,J,Z,Z,Z,Z,Z,Z,Z,Z,Z,Z,Z,Z,Z,Z,Z,Z,Z,Z] rfl rfl ?_ ?_ ?_ ?_
          rotate_left
          · intro w'
            go_simp
            with_reducible rfl
          rotate_left
          · simp only [aP]
            rfl
          refine pu_ 2 50 ?_ #[J,J,J,Z,Z,Z,Z,Z,Z,Z,Z,Z,Z,Z,Z,Z,Z,Z,Z,Z] rfl rfl ?_ ?_ ?_ ?_
          rotate_left
          · intro w'
            go_simp
            with_reducible rfl
          rotate_left
          · simp only [aP]
            rfl
          refine pu_ 4 52 ?_ #[J,J,J,Z,J,Z,Z,Z,Z,Z,Z,Z,Z,Z,Z,Z,Z,Z,Z,Z] rfl rfl ?_ ?_ ?_ ?_
          rotate_left
          · intro w'
            go_simp
            with_reducible rfl
          rotate_left
          · simp only [aP]
            rfl
          refine pu_ 7 55 ?_ #[J,J,J,Z,J,Z,Z,J,Z,Z,Z,Z,Z,Z,Z,Z,Z,Z,Z,Z] rfl rfl ?_ ?_ ?_ ?_
          rotate_left
          · intro w'
            go_simp
            with_reducible rfl
          rotate_left
          · simp only [aP]
            rfl
          refine ta_ 3 51 ?_ #[J,J,J,J,J,Z,Z,J,Z,Z,Z,Z,Z,Z,Z,Z,Z,Z,Z,Z] rfl rfl ?_ hHeld ?_ ?_ ?_
          rotate_left
          · intro w' s0
            go_simp
            with_reducible rfl
          rotate_left
          · simp only [aP]
            rfl
          refine one_ (i := 5) (N := some 53) #[J,J,J,J,J,J,Z,J,Z,Z,Z,Z,Z,Z,Z,Z,Z,Z,Z,Z] rfl rfl (by kernel_rfl) (by decide) (fun K hK => ?_)
          refine goes_ Try.func38 (by kernel_rfl) rfl #[.pointer (some ⟨g, 0, none⟩)] (by rfl) rfl rfl (by simp only [List.map_toArray, List.map_cons, List.map_nil]; rfl) ?_
          with_reducible refine (base_ B2.out.drew).mono ?_
          rintro e w3 ⟨rfl, hS3⟩
          refine ⟨_, rfl, ?_⟩
          have B3 := Aside0.mk hS3
          clear hS3
          refine hK.out _ _ (st_h B3.out) (fun hHeld => ?_)
          clear hK K
          refine norm_ (a' := ?_) ?_ ?_
          rotate_left
          · show Act.put _ (some 53) _ = _
            simp only [aP]
            rfl
          refine pu_ 6 54 ?_ #[J,J,J,J,J,J,J,J,Z,Z,Z,Z,Z,Z,Z,Z,Z,Z,Z,Z] rfl rfl ?_ ?_ ?_ ?_
          rotate_left
          · intro w'
            go_simp
            with_reducible rfl
          rotate_left
          · simp only [aP]
            rfl
          refine pu_ 8 56 ?_ #[J,J,J,J,J,J,J,J,J,Z,Z,Z,Z,Z,Z,Z,Z,Z,Z,Z] rfl rfl ?_ ?_ ?_ ?_
          rotate_left
          · intro w'
            go_simp
            with_reducible rfl
          rotate_left
          · simp only [aP]
            rfl
          refine pu_ 9 57 ?_ #[J,J,J,J,J,J,J,J,J,J,Z,Z,Z,Z,Z,Z,Z,Z,Z,Z] rfl rfl ?_ ?_ ?_ ?_
          rotate_left
          · intro w'
            go_simp
            with_reducible rfl
          rotate_left
          · simp only [aP]
            rfl
          refine pu_ 10 58 ?_ #[J,J,J,J,J,J,J,J,J,J,J,Z,Z,Z,Z,Z,Z,Z,Z,Z] rfl rfl ?_ ?_ ?_ ?_
          rotate_left
          · intro w'
            go_simp
            with_reducible rfl
          rotate_left
          · simp only [aP]
            rfl
          refine pu_ 11 59 ?_ #[J,J,J,J,J,J,J,J,J,J,J,J,Z,Z,Z,Z,Z,Z,Z,Z] rfl rfl ?_ ?_ ?_ ?_
          rotate_left
          · intro w'
            go_simp
            with_reducible rfl
          rotate_left
          · simp only [aP]
            rfl
          refine pu_ 12 60 ?_ #[J,J,J,J,J,J,J,J,J,J,J,J,J,Z,Z,Z,Z,Z,Z,Z] rfl rfl ?_ ?_ ?_ ?_
          rotate_left
          · intro w'
            go_simp
            with_reducible rfl
          rotate_left
          · simp only [aP]
            rfl
          refine pu_ 14 62 ?_ #[J,J,J,J,J,J,J,J,J,J,J,J,J,Z,J,Z,Z,Z,Z,Z] rfl rfl ?_ ?_ ?_ ?_
          rotate_left
          · intro w'
            go_simp
            with_reducible rfl
          rotate_left
          · simp only [aP]
            rfl
          refine pu_ 16 64 ?_ #[J,J,J,J,J,J,J,J,J,J,J,J,J,Z,J,Z,J,Z,Z,Z] rfl rfl ?_ ?_ ?_ ?_
          rotate_left
          · intro w'
            go_simp
            with_reducible rfl
          rotate_left
          · simp only [aP]
            rfl
          refine ta_ 13 61 ?_ #[J,J,J,J,J,J,J,J,J,J,J,J,J,J,J,Z,J,Z,Z,Z] rfl rfl ?_ hHeld ?_ ?_ ?_
          rotate_left
          · intro w' s0
            go_simp
            with_reducible rfl
          rotate_left
          · simp only [aP]
            rfl
          refine pu_ 15 63 ?_ #[J,J,J,J,J,J,J,J,J,J,J,J,J,J,J,J,J,Z,Z,Z] rfl rfl ?_ ?_ ?_ ?_
          rotate_left
          · intro w'
            go_simp
            with_reducible rfl
          rotate_left
          · simp only [aP]
            rfl
          refine pu_ 17 65 ?_ #[J,J,J,J,J,J,J,J,J,J,J,J,J,J,J,J,J,J,Z,Z] rfl rfl ?_ ?_ ?_ ?_
          rotate_left
          · intro w'
            go_simp
            with_reducible rfl
          rotate_left
          · simp only [aP]
            rfl
          refine pu_ 18 66 ?_ #[J,J,J,J,J,J,J,J,J,J,J,J,J,J,J,J,J,J,J,Z] rfl rfl ?_ ?_ ?_ ?_
          rotate_left
          · intro w'
            go_simp
            with_reducible rfl
          rotate_left
          · simp only [aP]
            rfl
          refine pu_ 19 67 ?_ #[J,J,J,J,J,J,J,J,J,J,J,J,J,J,J,J,J,J,J,J] rfl rfl ?_ ?_ ?_ ?_
          rotate_left
          · intro w'
            go_simp
            with_reducible rfl
          rotate_left
          · simp only [aP]
            rfl
          refine done_ (by kernel_rfl) ?_
          go_wp2_with fail
          go_ret
          exact fin ⟨_, _, _, rfl, B3.out⟩ (fun h => by omega)
        have hce : decide (64 < d3) = false := decide_eq_false hc2
        go_wp2_with fail
        refine start_ (n := 20) (S := fun w' => w'.cell? ⟨g, 0, none⟩ = some (.int .i64 h)) (ds := []) #[Z,Z,Z,Z,Z,Z,Z,Z,Z,Z,Z,Z,Z,Z,Z,Z,Z,Z,Z,Z] (by kernel_rfl) rfl rfl (z0) (fun hHeld => ?_)
        refine pu_ 0 48 ?_ #[J,Z,Z,Z,Z,Z,Z,Z,Z,Z,Z,Z,Z,Z,Z,Z,Z,Z,Z,Z] rfl rfl ?_ ?_ ?_ ?_
        rotate_left
        · intro w'
          go_simp
          with_reducible rfl
        rotate_left
        · simp only [aP]
          rfl
        refine pu_ 1 49 ?_ #[J,J,Z,Z,Z,Z,Z,Z,Z,Z,Z,Z,Z,Z,Z,Z,Z,Z,Z,Z] rfl rfl ?_ ?_ ?_ ?_
        rotate_left
        · intro w'
          go_simp
          with_reducible rfl
        rotate_left
        · simp only [aP]
          rfl
        refine pu_ 2 50 ?_ #[J,J,J,Z,Z,Z,Z,Z,Z,Z,Z,Z,Z,Z,Z,Z,Z,Z,Z,Z] rfl rfl ?_ ?_ ?_ ?_
        rotate_left
        · intro w'
          go_simp
          with_reducible rfl
        rotate_left
        · simp only [aP]
          rfl
        refine pu_ 4 52 ?_ #[J,J,J,Z,J,Z,Z,Z,Z,Z,Z,Z,Z,Z,Z,Z,Z,Z,Z,Z] rfl rfl ?_ ?_ ?_ ?_
        rotate_left
        · intro w'
          go_simp
          with_reducible rfl
        rotate_left
        · simp only [aP]
          rfl
        refine pu_ 7 55 ?_ #[J,J,J,Z,J,Z,Z,J,Z,Z,Z,Z,Z,Z,Z,Z,Z,Z,Z,Z] rfl rfl ?_ ?_ ?_ ?_
        rotate_left
        · intro w'
          go_simp
          with_reducible rfl
        rotate_left
        · simp only [aP]
          rfl
        refine ta_ 3 51 ?_ #[J,J,J,J,J,Z,Z,J,Z,Z,Z,Z,Z,Z,Z,Z,Z,Z,Z,Z] rfl rfl ?_ hHeld ?_ ?_ ?_
        rotate_left
        · intro w' s0
          go_simp
          with_reducible rfl
        rotate_left
        · simp only [aP]
          rfl
        refine one_ (i := 5) (N := some 53) #[J,J,J,J,J,J,Z,J,Z,Z,Z,Z,Z,Z,Z,Z,Z,Z,Z,Z] rfl rfl (by kernel_rfl) (by decide) (fun K hK => ?_)
        refine goes_ Try.func38 (by kernel_rfl) rfl #[.pointer (some ⟨g, 0, none⟩)] (by rfl) rfl rfl (by simp only [List.map_toArray, List.map_cons, List.map_nil]; rfl) ?_
        with_reducible refine (base_ B2.out.drew).mono ?_
        rintro e w3 ⟨rfl, hS3⟩
        refine ⟨_, rfl, ?_⟩
        have B3 := Aside0.mk hS3
        clear hS3
        refine hK.out _ _ (st_h B3.out) (fun hHeld => ?_)
        clear hK K
        refine norm_ (a' := ?_) ?_ ?_
        rotate_left
        · show Act.put _ (some 53) _ = _
          simp only [aP]
          rfl
        refine pu_ 6 54 ?_ #[J,J,J,J,J,J,J,J,Z,Z,Z,Z,Z,Z,Z,Z,Z,Z,Z,Z] rfl rfl ?_ ?_ ?_ ?_
        rotate_left
        · intro w'
          go_simp
          with_reducible rfl
        rotate_left
        · simp only [aP]
          rfl
        refine pu_ 8 56 ?_ #[J,J,J,J,J,J,J,J,J,Z,Z,Z,Z,Z,Z,Z,Z,Z,Z,Z] rfl rfl ?_ ?_ ?_ ?_
        rotate_left
        · intro w'
          go_simp
          with_reducible rfl
        rotate_left
        · simp only [aP]
          rfl
        refine pu_ 9 57 ?_ #[J,J,J,J,J,J,J,J,J,J,Z,Z,Z,Z,Z,Z,Z,Z,Z,Z] rfl rfl ?_ ?_ ?_ ?_
        rotate_left
        · intro w'
          go_simp
          with_reducible rfl
        rotate_left
        · simp only [aP]
          rfl
        refine pu_ 10 58 ?_ #[J,J,J,J,J,J,J,J,J,J,J,Z,Z,Z,Z,Z,Z,Z,Z,Z] rfl rfl ?_ ?_ ?_ ?_
        rotate_left
        · intro w'
          go_simp
          with_reducible rfl
        rotate_left
        · simp only [aP]
          rfl
        refine pu_ 11 59 ?_ #[J,J,J,J,J,J,J,J,J,J,J,J,Z,Z,Z,Z,Z,Z,Z,Z] rfl rfl ?_ ?_ ?_ ?_
        rotate_left
        · intro w'
          go_simp
          with_reducible rfl
        rotate_left
        · simp only [aP]
          rfl
        refine pu_ 12 60 ?_ #[J,J,J,J,J,J,J,J,J,J,J,J,J,Z,Z,Z,Z,Z,Z,Z] rfl rfl ?_ ?_ ?_ ?_
        rotate_left
        · intro w'
          go_simp
          with_reducible rfl
        rotate_left
        · simp only [aP]
          rfl
        refine pu_ 14 62 ?_ #[J,J,J,J,J,J,J,J,J,J,J,J,J,Z,J,Z,Z,Z,Z,Z] rfl rfl ?_ ?_ ?_ ?_
        rotate_left
        · intro w'
          go_simp
          with_reducible rfl
        rotate_left
        · simp only [aP]
          rfl
        refine pu_ 16 64 ?_ #[J,J,J,J,J,J,J,J,J,J,J,J,J,Z,J,Z,J,Z,Z,Z] rfl rfl ?_ ?_ ?_ ?_
        rotate_left
        · intro w'
          go_simp
          with_reducible rfl
        rotate_left
        · simp only [aP]
          rfl
        refine ta_ 13 61 ?_ #[J,J,J,J,J,J,J,J,J,J,J,J,J,J,J,Z,J,Z,Z,Z] rfl rfl ?_ hHeld ?_ ?_ ?_
        rotate_left
        · intro w' s0
          go_simp
          with_reducible rfl
        rotate_left
        · simp only [aP]
          rfl
        refine pu_ 15 63 ?_ #[J,J,J,J,J,J,J,J,J,J,J,J,J,J,J,J,J,Z,Z,Z] rfl rfl ?_ ?_ ?_ ?_
        rotate_left
        · intro w'
          go_simp
          with_reducible rfl
        rotate_left
        · simp only [aP]
          rfl
        refine pu_ 17 65 ?_ #[J,J,J,J,J,J,J,J,J,J,J,J,J,J,J,J,J,J,Z,Z] rfl rfl ?_ ?_ ?_ ?_
        rotate_left
        · intro w'
          go_simp
          with_reducible rfl
        rotate_left
        · simp only [aP]
          rfl
        refine pu_ 18 66 ?_ #[J,J,J,J,J,J,J,J,J,J,J,J,J,J,J,J,J,J,J,Z] rfl rfl ?_ ?_ ?_ ?_
        rotate_left
        · intro w'
          go_simp
          with_reducible rfl
        rotate_left
        · simp only [aP]
          rfl
        refine pu_ 19 67 ?_ #[J,J,J,J,J,J,J,J,J,J,J,J,J,J,J,J,J,J,J,J] rfl rfl ?_ ?_ ?_ ?_
        rotate_left
        · intro w'
          go_simp
          with_reducible rfl
        rotate_left
        · simp only [aP]
          rfl
        refine done_ (by kernel_rfl) ?_
        have y0 := st_h B3.out
        have yf := st_f B3.out 0
        have B4 := Aside0.mk (st_seth B3.out d3)
        go_upto_region 14 with fail
        obtain ⟨w4, hw4⟩ : ∃ x, w3.setCell ⟨g, 0, none⟩ (.int .i64 d3) = x := ⟨_, rfl⟩
        rw [hw4] at B4 ⊢
        have t4 : w4.cell? ⟨gu + 1, 0, none⟩ = some (.int .i32 r) := (Sep.cell (Sep.pull [_, _] B4.out) 0).trans rfl
        clear hw4 y0 yf t0 s0 z0 hHeld hd1 hd2 hd3 hc1 hc2 hcd hce
        by_cases h63 : r = 63
        · subst h63
          have v1 : w4.drew.cell? ⟨g, 1, none⟩ = some vo := st_o B4.out.drew
          have v0 : w4.drew.cell? ⟨g, 0, none⟩ = some (.int .i64 d3) := st_h B4.out.drew
          have vt : w4.drew.cell? ⟨gu + 1, 0, none⟩ = some (.int .i32 63) := t4
          go_wp2_with fail
          refine start_ (n := 17) (S := fun w' => w'.cell? ⟨g, 1, none⟩ = some vo ∧ w'.cell? ⟨g, 0, none⟩ = some (.int .i64 d3) ∧ w'.cell? ⟨gu + 1, 0, none⟩ = some (.int .i32 63)) (ds := [13, 16]) #[Z,Z,Z,Z,Z,Z,Z,Z,Z,Z,Z,Z,Z,Z,Z,Z,Z] (by kernel_rfl) rfl rfl ⟨v1, v0, vt⟩ (fun hHeld => ?_)
          refine pu_ 0 84 ?_ #[J,Z,Z,Z,Z,Z,Z,Z,Z,Z,Z,Z,Z,Z,Z,Z,Z] rfl rfl ?_ ?_ ?_ ?_
          rotate_left
          · intro w'
            go_simp
            with_reducible rfl
          rotate_left
          · simp only [aP]
            rfl
          refine pu_ 1 85 ?_ #[J,J,Z,Z,Z,Z,Z,Z,Z,Z,Z,Z,Z,Z,Z,Z,Z] rfl rfl ?_ ?_ ?_ ?_
          rotate_left
          · intro w'
            go_simp
            with_reducible rfl
          rotate_left
          · simp only [aP]
            rfl
          refine pu_ 2 86 ?_ #[J,J,J,Z,Z,Z,Z,Z,Z,Z,Z,Z,Z,Z,Z,Z,Z] rfl rfl ?_ ?_ ?_ ?_
          rotate_left
          · intro w'
            go_simp
            with_reducible rfl
          rotate_left
          · simp only [aP]
            rfl
          refine pu_ 3 87 ?_ #[J,J,J,J,Z,Z,Z,Z,Z,Z,Z,Z,Z,Z,Z,Z,Z] rfl rfl ?_ ?_ ?_ ?_
          rotate_left
          · intro w'
            go_simp
            with_reducible rfl
          rotate_left
          · simp only [aP]
            rfl
          refine pu_ 5 89 ?_ #[J,J,J,J,Z,J,Z,Z,Z,Z,Z,Z,Z,Z,Z,Z,Z] rfl rfl ?_ ?_ ?_ ?_
          rotate_left
          · intro w'
            go_simp
            with_reducible rfl
          rotate_left
          · simp only [aP]
            rfl
          refine pu_ 7 91 ?_ #[J,J,J,J,Z,J,Z,J,Z,Z,Z,Z,Z,Z,Z,Z,Z] rfl rfl ?_ ?_ ?_ ?_
          rotate_left
          · intro w'
            go_simp
            with_reducible rfl
          rotate_left
          · simp only [aP]
            rfl
          refine pu_ 8 92 ?_ #[J,J,J,J,Z,J,Z,J,J,Z,Z,Z,Z,Z,Z,Z,Z] rfl rfl ?_ ?_ ?_ ?_
          rotate_left
          · intro w'
            go_simp
            with_reducible rfl
          rotate_left
          · simp only [aP]
            rfl
          refine pu_ 9 93 ?_ #[J,J,J,J,Z,J,Z,J,J,J,Z,Z,Z,Z,Z,Z,Z] rfl rfl ?_ ?_ ?_ ?_
          rotate_left
          · intro w'
            go_simp
            with_reducible rfl
          rotate_left
          · simp only [aP]
            rfl
          refine ta_ 4 88 ?_ #[J,J,J,J,J,J,Z,J,J,J,Z,Z,Z,Z,Z,Z,Z] rfl rfl ?_ hHeld ?_ ?_ ?_
          rotate_left
          · rintro w' ⟨s0, s1, s2⟩
            go_simp
            with_reducible rfl
          rotate_left
          · simp only [aP]
            rfl
          refine ta_ 6 90 ?_ #[J,J,J,J,J,J,J,J,J,J,Z,Z,Z,Z,Z,Z,Z] rfl rfl ?_ hHeld ?_ ?_ ?_
          rotate_left
          · rintro w' ⟨s0, s1, s2⟩
            go_simp
            with_reducible rfl
          rotate_left
          · simp only [aP]
            rfl
          refine ta_ 10 94 ?_ #[J,J,J,J,J,J,J,J,J,J,J,Z,Z,Z,Z,Z,Z] rfl rfl ?_ hHeld ?_ ?_ ?_
          rotate_left
          · rintro w' ⟨s0, s1, s2⟩
            go_simp
            with_reducible rfl
          rotate_left
          · simp only [aP]
            rfl
          refine pu_ 11 95 ?_ #[J,J,J,J,J,J,J,J,J,J,J,J,Z,Z,Z,Z,Z] rfl rfl ?_ ?_ ?_ ?_
          rotate_left
          · intro w'
            go_simp
            with_reducible rfl
          rotate_left
          · simp only [aP]
            rfl
          refine one_ (i := 12) (N := some 96) #[J,J,J,J,J,J,J,J,J,J,J,J,J,Z,Z,Z,Z] rfl rfl (by kernel_rfl) (by decide) (fun K hK => ?_)
          have B5 := Aside0.mk (oneBk B4.out.drew ⟨63, d3, 0, false⟩)
          refine value_ (w1 := ?_) (v := ?_) (by rfl) rfl ?_ ?_
          rotate_left 2
          · go_simp
            constructor
            · rfl
            · rfl
          refine hK.out _ _ ⟨cell_later (below_alloc (Below.refl _ _) _) v1, cell_later (below_alloc (Below.refl _ _) _) v0, cell_later (below_alloc (Below.refl _ _) _) vt⟩ (fun hHeld => ?_)
          clear hK K
          refine norm_ (a' := ?_) ?_ ?_
          rotate_left
          · show Act.put _ (some 96) _ = _
            simp only [aP]
            rfl
          refine last_ (i := 13) (N := some 97) #[J,J,J,J,J,J,J,J,J,J,J,J,J,J,Z,Z,Z] rfl rfl (by kernel_rfl) (by decide) (fun K hK => ?_)
          refine (Sep.pull [_, _] B5.out).appendRawStep (by rfl) (.tmp 88) (.tmp 96) 76 (.agg #[.int .i32 0, .int .i64 0, .int .i64 0, .bool false]) 32 rfl Try.underlying76 infoBk rfl (by decide) (by decide) (some ⟨w4.drew.heap.size, 0, none⟩) 1 1 (by rfl) (by rfl) B5.out.rowC' (by have := HBL.out; rw [List.length_map]; simp; omega) ?_
          intro v6 w6 hS6
          obtain ⟨A6, c6, rfl⟩ := hS6.rowN (n := bs.length + 1) (by simp)
          have hf6 : w6.frozen? ⟨g, 1, none⟩ = false := Sep.frozen (Sep.pull [_, _] hS6) 1
          have hg6 : w6.cell? ⟨g, 1, none⟩ = some vo := (Sep.cell (Sep.pull [_, _] hS6) 1).trans rfl
          have B6 := Aside0.mk (Sep.setBlk (Sep.pull [_, _] hS6) 1 (.slice A6 (bs.length + 1) c6))
          clear hS6
          refine hK.out _ _ ?_
          clear hK K
          refine norm_ (a' := ?_) ?_ ?_
          rotate_left
          · show Act.put _ (some 97) _ = _
            simp only [aP]
            rfl
          refine pu_ 14 98 ?_ #[J,J,J,J,J,J,J,J,J,J,J,J,J,J,J,Z,Z] rfl rfl ?_ ?_ ?_ ?_
          rotate_left
          · intro w'
            go_simp
            with_reducible rfl
          rotate_left
          · simp only [aP]
            rfl
          refine pu_ 15 99 ?_ #[J,J,J,J,J,J,J,J,J,J,J,J,J,J,J,J,Z] rfl rfl ?_ ?_ ?_ ?_
          rotate_left
          · intro w'
            go_simp
            with_reducible rfl
          rotate_left
          · simp only [aP]
            rfl
          refine last_ (i := 16) (N := none) #[J,J,J,J,J,J,J,J,J,J,J,J,J,J,J,J,J] rfl rfl (by kernel_rfl) (by decide) (fun K hK => ?_)
          refine skip_ (w1 := ?_) (by rfl) rfl ?_ ?_
          rotate_left
          · go_simp
            rfl
          refine hK.out _ _ ?_
          clear hK K
          refine done_ (by kernel_rfl) ?_
          go_wp2_with fail
          go_ret
          exact fin (k := bs.length + 1) ⟨d3, .slice A6 (bs.length + 1) c6, bs ++ [⟨63, d3, 0, false⟩], by simp, by unfold StL; rw [List.map_append]; exact opened B6.out⟩ (fun _ => by simp [nx])
        have b63 : (r == 63) = false := by simp [h63]
        by_cases h91 : r = 91
        · subst h91
          have v1 : w4.drew.cell? ⟨g, 1, none⟩ = some vo := st_o B4.out.drew
          have v0 : w4.drew.cell? ⟨g, 0, none⟩ = some (.int .i64 d3) := st_h B4.out.drew
          have vt : w4.drew.cell? ⟨gu + 1, 0, none⟩ = some (.int .i32 91) := t4
          go_wp2_with fail
          refine start_ (n := 17) (S := fun w' => w'.cell? ⟨g, 1, none⟩ = some vo ∧ w'.cell? ⟨g, 0, none⟩ = some (.int .i64 d3) ∧ w'.cell? ⟨gu + 1, 0, none⟩ = some (.int .i32 91)) (ds := [13, 16]) #[Z,Z,Z,Z,Z,Z,Z,Z,Z,Z,Z,Z,Z,Z,Z,Z,Z] (by kernel_rfl) rfl rfl ⟨v1, v0, vt⟩ (fun hHeld => ?_)
          refine pu_ 0 84 ?_ #[J,Z,Z,Z,Z,Z,Z,Z,Z,Z,Z,Z,Z,Z,Z,Z,Z] rfl rfl ?_ ?_ ?_ ?_
          rotate_left
          · intro w'
            go_simp
            with_reducible rfl
          rotate_left
          · simp only [aP]
            rfl
          refine pu_ 1 85 ?_ #[J,J,Z,Z,Z,Z,Z,Z,Z,Z,Z,Z,Z,Z,Z,Z,Z] rfl rfl ?_ ?_ ?_ ?_
          rotate_left
          · intro w'
            go_simp
            with_reducible rfl
          rotate_left
          · simp only [aP]
            rfl
          refine pu_ 2 86 ?_ #[J,J,J,Z,Z,Z,Z,Z,Z,Z,Z,Z,Z,Z,Z,Z,Z] rfl rfl ?_ ?_ ?_ ?_
          rotate_left
          · intro w'
            go_simp
            with_reducible rfl
          rotate_left
          · simp only [aP]
            rfl
          refine pu_ 3 87 ?_ #[J,J,J,J,Z,Z,Z,Z,Z,Z,Z,Z,Z,Z,Z,Z,Z] rfl rfl ?_ ?_ ?_ ?_
          rotate_left
          · intro w'
            go_simp
            with_reducible rfl
          rotate_left
          · simp only [aP]
            rfl
          refine pu_ 5 89 ?_ #[J,J,J,J,Z,J,Z,Z,Z,Z,Z,Z,Z,Z,Z,Z,Z] rfl rfl ?_ ?_ ?_ ?_
          rotate_left
          · intro w'
            go_simp
            with_reducible rfl
          rotate_left
          · simp only [aP]
            rfl
          refine pu_ 7 91 ?_ #[J,J,J,J,Z,J,Z,J,Z,Z,Z,Z,Z,Z,Z,Z,Z] rfl rfl ?_ ?_ ?_ ?_
          rotate_left
          · intro w'
            go_simp
            with_reducible rfl
          rotate_left
          · simp only [aP]
            rfl
          refine pu_ 8 92 ?_ #[J,J,J,J,Z,J,Z,J,J,Z,Z,Z,Z,Z,Z,Z,Z] rfl rfl ?_ ?_ ?_ ?_
          rotate_left
          · intro w'
            go_simp
            with_reducible rfl
          rotate_left
          · simp only [aP]
            rfl
          refine pu_ 9 93 ?_ #[J,J,J,J,Z,J,Z,J,J,J,Z,Z,Z,Z,Z,Z,Z] rfl rfl ?_ ?_ ?_ ?_
          rotate_left
          · intro w'
            go_simp
            with_reducible rfl
          rotate_left
          · simp only [aP]
            rfl
          refine ta_ 4 88 ?_ #[J,J,J,J,J,J,Z,J,J,J,Z,Z,Z,Z,Z,Z,Z] rfl rfl ?_ hHeld ?_ ?_ ?_
          rotate_left
          · rintro w' ⟨s0, s1, s2⟩
            go_simp
            with_reducible rfl
          rotate_left
          · simp only [aP]
            rfl
          refine ta_ 6 90 ?_ #[J,J,J,J,J,J,J,J,J,J,Z,Z,Z,Z,Z,Z,Z] rfl rfl ?_ hHeld ?_ ?_ ?_
          rotate_left
          · rintro w' ⟨s0, s1, s2⟩
            go_simp
            with_reducible rfl
          rotate_left
          · simp only [aP]
            rfl
          refine ta_ 10 94 ?_ #[J,J,J,J,J,J,J,J,J,J,J,Z,Z,Z,Z,Z,Z] rfl rfl ?_ hHeld ?_ ?_ ?_
          rotate_left
          · rintro w' ⟨s0, s1, s2⟩
            go_simp
            with_reducible rfl
          rotate_left
          · simp only [aP]
            rfl
          refine pu_ 11 95 ?_ #[J,J,J,J,J,J,J,J,J,J,J,J,Z,Z,Z,Z,Z] rfl rfl ?_ ?_ ?_ ?_
          rotate_left
          · intro w'
            go_simp
            with_reducible rfl
          rotate_left
          · simp only [aP]
            rfl
          refine one_ (i := 12) (N := some 96) #[J,J,J,J,J,J,J,J,J,J,J,J,J,Z,Z,Z,Z] rfl rfl (by kernel_rfl) (by decide) (fun K hK => ?_)
          have B5 := Aside0.mk (oneBk B4.out.drew ⟨91, d3, 0, false⟩)
          refine value_ (w1 := ?_) (v := ?_) (by rfl) rfl ?_ ?_
          rotate_left 2
          · go_simp
            constructor
            · rfl
            · rfl
          refine hK.out _ _ ⟨cell_later (below_alloc (Below.refl _ _) _) v1, cell_later (below_alloc (Below.refl _ _) _) v0, cell_later (below_alloc (Below.refl _ _) _) vt⟩ (fun hHeld => ?_)
          clear hK K
          refine norm_ (a' := ?_) ?_ ?_
          rotate_left
          · show Act.put _ (some 96) _ = _
            simp only [aP]
            rfl
          refine last_ (i := 13) (N := some 97) #[J,J,J,J,J,J,J,J,J,J,J,J,J,J,Z,Z,Z] rfl rfl (by kernel_rfl) (by decide) (fun K hK => ?_)
          refine (Sep.pull [_, _] B5.out).appendRawStep (by rfl) (.tmp 88) (.tmp 96) 76 (.agg #[.int .i32 0, .int .i64 0, .int .i64 0, .bool false]) 32 rfl Try.underlying76 infoBk rfl (by decide) (by decide) (some ⟨w4.drew.heap.size, 0, none⟩) 1 1 (by rfl) (by rfl) B5.out.rowC' (by have := HBL.out; rw [List.length_map]; simp; omega) ?_
          intro v6 w6 hS6
          obtain ⟨A6, c6, rfl⟩ := hS6.rowN (n := bs.length + 1) (by simp)
          have hf6 : w6.frozen? ⟨g, 1, none⟩ = false := Sep.frozen (Sep.pull [_, _] hS6) 1
          have hg6 : w6.cell? ⟨g, 1, none⟩ = some vo := (Sep.cell (Sep.pull [_, _] hS6) 1).trans rfl
          have B6 := Aside0.mk (Sep.setBlk (Sep.pull [_, _] hS6) 1 (.slice A6 (bs.length + 1) c6))
          clear hS6
          refine hK.out _ _ ?_
          clear hK K
          refine norm_ (a' := ?_) ?_ ?_
          rotate_left
          · show Act.put _ (some 97) _ = _
            simp only [aP]
            rfl
          refine pu_ 14 98 ?_ #[J,J,J,J,J,J,J,J,J,J,J,J,J,J,J,Z,Z] rfl rfl ?_ ?_ ?_ ?_
          rotate_left
          · intro w'
            go_simp
            with_reducible rfl
          rotate_left
          · simp only [aP]
            rfl
          refine pu_ 15 99 ?_ #[J,J,J,J,J,J,J,J,J,J,J,J,J,J,J,J,Z] rfl rfl ?_ ?_ ?_ ?_
          rotate_left
          · intro w'
            go_simp
            with_reducible rfl
          rotate_left
          · simp only [aP]
            rfl
          refine last_ (i := 16) (N := none) #[J,J,J,J,J,J,J,J,J,J,J,J,J,J,J,J,J] rfl rfl (by kernel_rfl) (by decide) (fun K hK => ?_)
          refine skip_ (w1 := ?_) (by rfl) rfl ?_ ?_
          rotate_left
          · go_simp
            rfl
          refine hK.out _ _ ?_
          clear hK K
          refine done_ (by kernel_rfl) ?_
          go_wp2_with fail
          go_ret
          exact fin (k := bs.length + 1) ⟨d3, .slice A6 (bs.length + 1) c6, bs ++ [⟨91, d3, 0, false⟩], by simp, by unfold StL; rw [List.map_append]; exact opened B6.out⟩ (fun _ => by simp [nx])
        have b91 : (r == 91) = false := by simp [h91]
        have hnx : nx r bs.length = bs.length := by have := HR.out; unfold nx; rw [if_neg (by omega), if_neg (by omega)]
        have HNX := Aside0.mk hnx
        clear hnx
        by_cases h126 : r = 126
        · have b126 : (r == 126) = true := by simp [h126]
          clear h126
          go_wp2_with fail
          refine (leave_ B4.out).mono ?_
          rintro e w5 ⟨⟨b5, rfl⟩, hT⟩
          have BT := Aside0.mk hT
          clear hT
          cases b5 with
          | false =>
            go_wp2_with fail
            go_ret
            exact fin BT.out (fun h => by omega)
          | true =>
            go_wp2_with fail
            go_ret
            exact fin BT.out (fun _ => HNX.out.symm)
        have b126 : (r == 126) = false := by simp [h126]
        by_cases h161 : r = 161
        · have b161 : (r == 161) = true := by simp [h161]
          clear h161
          have x0 := st_h B4.out
          have xf := st_f B4.out 0
          go_wp2_with fail
          go_ret
          exact fin ⟨_, _, _, rfl, st_seth B4.out (-1)⟩ (fun _ => HNX.out.symm)
        · have b161 : (r == 161) = false := by simp [h161]
          go_wp2_with fail
          go_ret
          exact fin ⟨_, _, _, rfl, B4.out⟩ (fun _ => HNX.out.symm)
end
end Go.Proofs.Ytkkgfpdjlohojaa.Fn
namespace Go.Proofs.Ytkkgfpdjlohojaa.Fn
open Go.RowKit Go.Proofs.YtkkgfpdjlohojaaW.PrintWords Go.Proofs.YtkkgfpdjlohojaaW.PrintLast Go.Proofs.YtkkgfpdjlohojaaW.PrintMore Go.Proofs.Ytkkgfpdjlohojaa.Kit
open Go.Proofs.Ytkkgfpdjlohojaa.TokP Go.Proofs.Ytkkgfpdjlohojaa.Tok Go.Proofs.Ytkkgfpdjlohojaa.NestP
abbrev I64 : Kd Int := Kd.int .i64
theorem tokR_nx {sg : List Int} {i : Nat} {s : Int} {R R2 : RS} (e : tokR sg i s R = some R2) : R2.opn.length = nx s R.opn.length ∧ ((s = 58 ∨ s = 59 ∨ s = 93) → 0 < R.opn.length) := by
  unfold tokR at e
  unfold nx
  split at e
  · rename_i h1
    split at e
    · cases e
      exact ⟨by rw [if_pos h1]; rfl, fun h => by omega⟩
    · cases e
  · rename_i h1
    split at e
    · rename_i h2
      cases ho : R.opn with
      | nil => rw [ho] at e; cases e
      | cons o r =>
        rw [ho] at e
        dsimp only at e
        split at e
        · cases e
          exact ⟨by rw [if_neg (by omega), if_neg (by omega)]; rfl, fun _ => by simp⟩
        · cases e
    · rename_i h2
      split at e
      · rename_i h3
        cases ho : R.opn with
        | nil => rw [ho] at e; cases e
        | cons o r =>
          rw [ho] at e
          dsimp only at e
          split at e
          · cases e
          · cases e
            exact ⟨by rw [if_neg (by omega), if_pos (by omega)]; rfl, fun _ => by simp⟩
      · rename_i h3
        split at e
        · rename_i h4
          cases ho : R.opn with
          | nil => rw [ho] at e; cases e
          | cons o r =>
            rw [ho] at e
            dsimp only at e
            split at e
            · cases e
              exact ⟨by rw [if_neg (by omega), if_pos (by omega)]; rfl, fun _ => by simp⟩
            · cases e
        · cases e
          exact ⟨by rw [if_neg (by omega), if_neg (by omega)], fun h => by omega⟩
def OkF (fs : List Fnc) (k : Int) : Prop := ∃ f l, fs[k.toNat]? = some f ∧ RefT.tokO f.code = some l ∧ (matchN (sgn l)).isSome = true
def FnP (w0 w' : World) (F : List HP) (e : Ending) (fs : List Fnc) (k : Int) : Prop := ∃ (v : Value) (er : Int), e = .returned (.tuple #[v, .int .i64 er]) ∧ (er = 0 → OkF fs k) ∧ Sep w0 w' F
theorem tokO_len {s : ByteArray} {l : List Tok} (h : RefT.tokO s = some l) : l.length ≤ 512 := by
  unfold RefT.tokO at h
  split at h
  · cases h
  · have h1 := tokens_len h
    have h2 := runesS_len s
    omega
section
variable {w0 W : World} {F : List HP} {pg mo : Int} {A : Option Addr} {n c : Nat} {fs : List Fnc}
set_option maxHeartbeats 6400000 in
set_option maxRecDepth 100000 in
theorem func_ (hC : ∀ W', Sep w0 W' F → FC W' A n fs) (h : Sep w0 W F) (k : Int) :
    Calls Try.prog 24 #[uV pg mo A n c, .int .i64 k] W fun e w' => FnP w0 w' F e fs k := by
  have hnm : n ≤ 9223372036854775807 := (hC W h).lt
  have H1 := Aside0.mk (h.newBlk 30 #[.int .i64 pg, .int .i64 mo, .slice A n c])
  have HC := Aside0.mk hC
  clear h hC
  go_enter Try.func24, Try.ntmps24
  go_upto_region 1 with fail
  obtain ⟨w1, hw1⟩ : ∃ x, W.alloc (.cells #[.int .i64 pg, .int .i64 mo, .slice A n c] 30) = x := ⟨_, rfl⟩
  obtain ⟨gu, hgu⟩ : ∃ x, W.heap.size = x := ⟨_, rfl⟩
  rw [hw1, hgu] at H1
  rw [hw1, hgu]
  clear hw1 hgu
  have u2 : w1.cell? ⟨gu, 2, none⟩ = some (.slice A n c) := (H1.out.cell 2).trans rfl
  by_cases hk0 : k < 0
  · have hd : decide (k < 0) = true := decide_eq_true hk0
    go_wp2_with fail
    go_ret2
    exact ⟨_, _, rfl, fun h => by omega, H1.out.tail⟩
  have hd : decide (k < 0) = false := decide_eq_false hk0
  obtain ⟨i, rfl⟩ := Int.eq_ofNat_of_zero_le (a := k) (by omega)
  by_cases hkn : (n : Int) ≤ (i : Int)
  · have hd2 : decide ((n : Int) ≤ (i : Int)) = true := decide_eq_true hkn
    go_wp2_with fail
    go_ret2
    exact ⟨_, _, rfl, fun h => by omega, H1.out.tail⟩
  have hd2 : decide ((n : Int) ≤ (i : Int)) = false := decide_eq_false hkn
  obtain ⟨ad, f, rfl, hf, d0, d1, d2⟩ := (HC.out _ H1.out.tail).at_ (i := i) (by omega)
  have HF := Aside0.mk hf
  have hin : (i : Int) < (n : Int) := by omega
  clear hf d0 d1 hk0
  obtain ⟨s, hs⟩ : ∃ s, f.code = s := ⟨_, rfl⟩
  rw [hs] at d2
  have HS := Aside0.mk hs
  clear hs
  obtain ⟨o, ho⟩ : ∃ o, RefT.tokO s = o := ⟨_, rfl⟩
  obtain ⟨er, her⟩ : ∃ o, RefT.tokErr s = o := ⟨_, rfl⟩
  have her0 : er ≠ 0 := by rw [← her]; unfold RefT.tokErr; split <;> omega
  have HO := Aside0.mk (And.intro ho her)
  clear ho her
  cases o with
  | none =>
    have herb : (er != 0) = true := by simp [her0]
    have HE0 := Aside0.mk her0
    clear her0
    go_wp2_with (go_at_call 12; refine (RefT.tokens_ H1.out s).mono ?_; intro e w2 hA; rw [HO.out.1, HO.out.2] at hA; obtain ⟨rfl, hA⟩ := hA; have H2 := Aside0.mk hA; clear hA)
    go_ret2
    exact ⟨_, er, rfl, fun h => absurd h HE0.out, H2.out.tail⟩
  | some l =>
    clear her0
    obtain ⟨m, hm⟩ : ∃ m, l.length = m := ⟨_, rfl⟩
    have HM := Aside0.mk hm
    clear hm
    have hml : m ≤ 1000000 := by
      have h1 := tokO_len HO.out.1
      have h2 := HM.out
      omega
    obtain ⟨q, hq⟩ : ∃ q, nestR (sgn l) = q := ⟨_, rfl⟩
    have HQ := Aside0.mk hq
    clear hq
    cases q with
    | none =>
      go_wp2_with (first
        | (go_at_call 12; refine (RefT.tokens_ H1.out s).mono ?_; intro e w2 hA; rw [HO.out.1] at hA; obtain ⟨v2, rfl, hA⟩ := hA; obtain ⟨A2, c2, rfl⟩ := hA.rowN (n := m) (by rw [List.length_map]; exact HM.out); have H2 := Aside0.mk hA; clear hA)
        | (go_at_call 15; go_loud (refine (NestR.nest_ (fun W' h' => rowT_TC h') H2.out hml).mono ?_; intro e w3 hA; rw [HQ.out] at hA; obtain ⟨rfl, hA⟩ := hA; have H3 := Aside0.mk hA; clear hA)))
      go_ret2
      exact ⟨_, _, rfl, fun h => by omega, H3.out.tail.tail⟩
    | some q =>
      have hrun : ∃ Rf, NestP.runR (sgn l) 0 (sgn l) ⟨List.replicate m 0, [], 0⟩ = some Rf := by
        have h1 := HQ.out
        have hsl : (sgn l).length = m := by unfold sgn; rw [List.length_map]; exact HM.out
        rw [NestR.nestR_def, hsl] at h1
        cases hr : NestP.runR (sgn l) 0 (sgn l) ⟨List.replicate m 0, [], 0⟩ with
        | none => rw [hr] at h1; cases h1
        | some Rf => exact ⟨Rf, rfl⟩
      have hok : OkF fs (i : Int) := by
        refine ⟨f, l, by rw [Int.toNat_natCast]; exact HF.out, by rw [HS.out]; exact HO.out.1, ?_⟩
        have h1 := HQ.out
        rw [nest_eq] at h1
        cases hm2 : matchN (sgn l) with
        | none => rw [hm2] at h1; cases h1
        | some m2 => rfl
      have HOK := Aside0.mk hok
      obtain ⟨Rf, hrun⟩ := hrun
      have HRUN := Aside0.mk hrun
      clear hok hrun
      go_upto_region 9 with (first
        | (go_at_call 12; refine (RefT.tokens_ H1.out s).mono ?_; intro e w2 hA; rw [HO.out.1] at hA; obtain ⟨v2, rfl, hA⟩ := hA; obtain ⟨A2, c2, rfl⟩ := hA.rowN (n := m) (by rw [List.length_map]; exact HM.out); have H2 := Aside0.mk hA; clear hA)
        | (go_at_call 15; go_loud (refine (NestR.nest_ (fun W' h' => rowT_TC h') H2.out hml).mono ?_; intro e w3 hA; rw [HQ.out] at hA; obtain ⟨v3, rfl, hA⟩ := hA; have H3 := Aside0.mk hA.tail; clear hA)))
      clear u2 d2 hd hd2 hin hkn
      have H4 : Aside0 (Sep w0 (w3.alloc (.cells #[.int .i64 0, .slice none 0 0] 78)) (StL w3.heap.size 0 (.slice none 0 0) [] (Row I64 3 (.slice none 0 0) [] :: RowT (.slice A2 m c2) l :: uB gu pg mo (some ad) n c :: F))) := ⟨((((H3.out.nilRow I64 3).nilRow (Kd.raw 4) 86).newBlk 78 #[.int .i64 0, .slice none 0 0]))⟩
      go_wp2_with fail
      obtain ⟨w4, hw4⟩ : ∃ x, w3.alloc (.cells #[.int .i64 0, .slice none 0 0] 78) = x := ⟨_, rfl⟩
      obtain ⟨g, hg⟩ : ∃ x, w3.heap.size = x := ⟨_, rfl⟩
      rw [hw4, hg] at H4
      rw [hw4, hg]
      clear hw4 hg
      go_loopg [12, 51] m (fun mm v q wr => ∃ (j : Nat) (R : RS) (hh : Int) (vo : Value) (bs : List Bk) (outs : List Int), j + mm = m ∧ q = .int .i64 (j : Int) ∧ NestP.runR (sgn l) j ((sgn l).drop j) R = some Rf ∧ NestR.RB j m R ∧ bs.length = R.opn.length ∧ outs.length = j ∧ Sep w0 wr (StL g hh vo bs (Row I64 3 v outs :: RowT (.slice A2 m c2) l :: uB gu pg mo (some ad) n c :: F)))
      case atStart => exact ⟨0, ⟨List.replicate m 0, [], 0⟩, 0, _, [], [], by omega, rfl, HRUN.out, ⟨by simp, Nat.zero_le _, fun p hp => by cases hp⟩, rfl, rfl, H4.out⟩
      case round =>
        obtain ⟨j, R, hh, vo, bs, outs, hjm, rfl, hrun, hrb, hbs, hol, hS⟩ := hrel
        have AJ := Aside0.mk hjm
        have HR := Aside0.mk (And.intro hrun (And.intro hrb (And.intro hbs hol)))
        have B1 := Aside0.mk hS
        clear hjm hrun hrb hbs hol
        by_cases hj : j < m
        · have hT : TC wr A2 m l := rowT_TC (Sep.pull [_, _, _] hS)
          obtain ⟨ad2, t, rfl, ht, d0, d1, d2⟩ := hT.at_ hj
          obtain ⟨R2, hR2, hrun2⟩ : ∃ R2, tokR (sgn l) j t.sign R = some R2 ∧ NestP.runR (sgn l) (j + 1) ((sgn l).drop (j + 1)) R2 = some Rf := by
            have h1 := HR.out.1
            have hil : j < (sgn l).length := by unfold sgn; rw [List.length_map, HM.out]; exact hj
            have hdrop : (sgn l).drop j = t.sign :: (sgn l).drop (j + 1) := by
              rw [List.drop_eq_getElem_cons hil]
              congr 1
              have h8 : (sgn l)[j]? = some t.sign := by unfold sgn; rw [List.getElem?_map, ht]; rfl
              rw [List.getElem?_eq_getElem hil] at h8
              exact Option.some.inj h8
            rw [hdrop, NestR.runR_step] at h1
            cases hq : tokR (sgn l) j t.sign R with
            | none => rw [hq] at h1; cases h1
            | some R2 => rw [hq] at h1; exact ⟨R2, rfl, h1⟩
          have HR2 := Aside0.mk (And.intro hR2 hrun2)
          have HNX := Aside0.mk (tokR_nx hR2)
          have hij : (j : Int) < (m : Int) := by omega
          obtain ⟨s1, hs1⟩ : ∃ x, t.sign = x := ⟨_, rfl⟩
          obtain ⟨N1, hN1⟩ : ∃ x, t.num = x := ⟨_, rfl⟩
          obtain ⟨nm1, hnm1⟩ : ∃ x, t.name = x := ⟨_, rfl⟩
          rw [hs1] at d0 HR2 HNX
          rw [hN1] at d1
          rw [hnm1] at d2
          have B2 := Aside0.mk (hS.newBlk 42 #[.int .i32 s1, .int .i64 N1, .int .i32 nm1])
          have HJ := Aside0.mk hj
          clear hS hT ht hR2 hrun2 hs1 hN1 hnm1
          go_upto_region 14 with fail
          obtain ⟨w5, hw5⟩ : ∃ x, wr.alloc (.cells #[.int .i32 s1, .int .i64 N1, .int .i32 nm1] 42) = x := ⟨_, rfl⟩
          obtain ⟨gt, hgt⟩ : ∃ x, wr.heap.size = x := ⟨_, rfl⟩
          rw [hw5, hgt] at B2
          rw [hw5, hgt]
          clear hw5 hgt d0 d1 d2
          have s0 := st_h (show Sep w0 w5 (StL g hh vo bs _) from B2.out.tail)
          have L := Aside0.mk (Sep.pull [_, _, _, _] (B2.out.litRow (enc := Value.int .i64) (h1 := fun _ => rfl) (e := 3) [hh] (by simp)))
          go_upto_region 15 with (first | (refine gate_builtin (b := .append) (xs := #[.tmp 55, .tmp 60]) rfl ?_; go_loud (refine L.out.appendRow rfl (.tmp 55) (.tmp 60) 22 (.int .i64 0) 8 rfl Try.underlying22 NestR.infoInt rfl (by decide) (some ⟨w5.heap.size, 0, none⟩) 1 1 rfl rfl L.out.at2.rowC' (by have h1_ := HR.out.2.2.2; have h2_ := HJ.out; rw [h1_]; simp; omega) ?_; intro v7 w7 hS7; have B7 := Aside0.mk (Sep.pull [_, _, _] (Sep.pull [_, _, _] hS7.at2.tail)); clear hS7)))
          have g0 : w7.cell? ⟨gu, 0, none⟩ = some (.int .i64 pg) := (Sep.cell (Sep.pull [_, _, _, _, _] B7.out) 0).trans rfl
          have g1 : w7.cell? ⟨gu, 1, none⟩ = some (.int .i64 mo) := (Sep.cell (Sep.pull [_, _, _, _, _] B7.out) 1).trans rfl
          have g2 : w7.cell? ⟨gu, 2, none⟩ = some (.slice (some ad) n c) := (Sep.cell (Sep.pull [_, _, _, _, _] B7.out) 2).trans rfl
          have t0 : w7.cell? ⟨gt, 0, none⟩ = some (.int .i32 s1) := (Sep.cell (Sep.pull [_, _, _] B7.out) 0).trans rfl
          have t1 : w7.cell? ⟨gt, 1, none⟩ = some (.int .i64 N1) := (Sep.cell (Sep.pull [_, _, _] B7.out) 1).trans rfl
          have t2 : w7.cell? ⟨gt, 2, none⟩ = some (.int .i32 nm1) := (Sep.cell (Sep.pull [_, _, _] B7.out) 2).trans rfl
          clear s0
          have BS : Aside0 (Sep w0 w7 (StL g hh vo bs (Row I64 3 v7 (outs ++ [hh]) :: tB gt s1 N1 nm1 :: RowT (.slice (some ad2) m c2) l :: uB gu pg mo (some ad) n c :: F))) := ⟨B7.out⟩
          clear B7 L B2 B1
          by_cases hse : s1 = 58 ∨ s1 = 59 ∨ s1 = 93
          · have HSE := Aside0.mk hse
            have hbp : 0 < bs.length := by rw [HR.out.2.2.1]; exact HNX.out.2 hse
            clear hse
            go_wp2_with fail
            refine (tokenE_ (fun W' h' => HC.out W' h'.tail.tail.tail.tail) BS.out hbp s1 N1 nm1 HSE.out).mono ?_
            rintro e w8 ⟨er, k, rfl, hT, hk⟩
            have BT := Aside0.mk (And.intro hT hk)
            clear hT hk
            by_cases her : er = 0
            · subst her
              go_wp2_with fail
              obtain ⟨h', vo', bs', hl, hS'⟩ := BT.out.1
              have hk := BT.out.2 (by trivial)
              go_roundg (gk - 1)
              case measure => have := AJ.out; omega
              case rel => exact ⟨j + 1, R2, h', vo', bs', outs ++ [hh], by have := AJ.out; omega, by go_num, HR2.out.2, HR.out.2.1.tok HR2.out.1, by rw [hl, hk, HNX.out.1, HR.out.2.2.1], by rw [List.length_append, HR.out.2.2.2]; rfl, (Sep.pull [_, _, _] hS').tail⟩
            · have herb : (er != 0) = true := by simp [her]
              obtain ⟨h', vo', bs', hl, hS'⟩ := BT.out.1
              have BF := Aside0.mk hS'.tail.tail.tail.tail.tail.tail
              have HER := Aside0.mk her
              clear hS' hl her
              go_wp2_with fail
              go_ret2
              exact ⟨_, er, rfl, fun h => absurd h HER.out, BF.out⟩
          · have HSE := Aside0.mk hse
            have hbl : bs.length ≤ 1000000 := by rw [HR.out.2.2.1]; have := HR.out.2.1.op; omega
            clear hse
            go_wp2_with fail
            refine (tokenN_ (fun W' h' => HC.out W' h'.tail.tail.tail.tail) BS.out hbl s1 N1 nm1 (fun hq => HSE.out (.inl hq)) (fun hq => HSE.out (.inr (.inl hq))) (fun hq => HSE.out (.inr (.inr hq)))).mono ?_
            rintro e w8 ⟨er, k, rfl, hT, hk⟩
            have BT := Aside0.mk (And.intro hT hk)
            clear hT hk
            by_cases her : er = 0
            · subst her
              go_wp2_with fail
              obtain ⟨h', vo', bs', hl, hS'⟩ := BT.out.1
              have hk := BT.out.2 (by trivial)
              go_roundg (gk - 1)
              case measure => have := AJ.out; omega
              case rel => exact ⟨j + 1, R2, h', vo', bs', outs ++ [hh], by have := AJ.out; omega, by go_num, HR2.out.2, HR.out.2.1.tok HR2.out.1, by rw [hl, hk, HNX.out.1, HR.out.2.2.1], by rw [List.length_append, HR.out.2.2.2]; rfl, (Sep.pull [_, _, _] hS').tail⟩
            · have herb : (er != 0) = true := by simp [her]
              obtain ⟨h', vo', bs', hl, hS'⟩ := BT.out.1
              have BF := Aside0.mk hS'.tail.tail.tail.tail.tail.tail
              have HER := Aside0.mk her
              clear hS' hl her
              go_wp2_with fail
              go_ret2
              exact ⟨_, er, rfl, fun h => absurd h HER.out, BF.out⟩
        · have hjm : ¬ (j : Int) < (m : Int) := by omega
          have s0 := st_h hS
          obtain ⟨A9, c9, rfl⟩ := Sep.rowV (show Sep w0 wr (Row I64 3 _ outs :: _) from Sep.pull [_, _] hS)
          have T1 := Aside0.mk (Sep.tail (Sep.tail (Sep.tail (Sep.tail (Sep.tail hS)))))
          clear hS
          by_cases h1 : hh = 1
          · have hb1 : (hh != 1) = false := by simp [h1]
            clear h1
            go_wp2_with fail
            go_ret2
            exact ⟨_, _, rfl, fun _ => HOK.out, T1.out⟩
          · have hb1 : (hh != 1) = true := by simp [h1]
            by_cases h0 : 0 ≤ hh
            · have hb0 : decide (0 ≤ hh) = true := decide_eq_true h0
              go_wp2_with fail
              go_ret2
              exact ⟨_, _, rfl, fun h => by omega, T1.out⟩
            · have hb0 : decide (0 ≤ hh) = false := decide_eq_false h0
              go_wp2_with fail
              go_ret2
              exact ⟨_, _, rfl, fun _ => HOK.out, T1.out⟩
end
end Go.Proofs.Ytkkgfpdjlohojaa.Fn
namespace Go.Proofs.Ytkkgfpdjlohojaa.Keep
open Go.RowKit Go.Proofs.YtkkgfpdjlohojaaW.PrintWords Go.Proofs.YtkkgfpdjlohojaaW.PrintLast Go.Proofs.YtkkgfpdjlohojaaW.PrintMore Go.Proofs.Ytkkgfpdjlohojaa.Kit
open Go.Proofs.Ytkkgfpdjlohojaa.Fn (RetB FC Fnc)
open Go.Proofs.Ytkkgfpdjlohojaa.Tape
def TpT (w0 w' : World) (F : List HP) (g : Nat) (At : Option Addr) (nt ct : Nat) : Prop := ∃ p' : Int, 0 ≤ p' ∧ Sep w0 w' (Tp g At nt ct p' :: F)
theorem szA (a : Array UInt8) : (ByteArray.mk a).size = a.size := rfl
def V : Nat → Nat
  | 0 => 40
  | d + 1 => 3 * V d + 40
def Ds : List Int := [0, 1, 2, 3, 8, 60, 64, 255, 1000, 7]
theorem Ds_at {r : Int} (h0 : 0 ≤ r) (h1 : r < 10) : ∃ (q m : Nat), r = (q : Int) ∧ q < 10 ∧ Ds.getD q 0 = (m : Int) ∧ m < 10 ^ 4 := by
  obtain ⟨q, rfl⟩ := Int.eq_ofNat_of_zero_le h0
  have hq : q < 10 := by omega
  refine ⟨q, (Ds.getD q 0).toNat, rfl, hq, ?_⟩
  match q, hq with
  | 0, _ => decide
  | 1, _ => decide
  | 2, _ => decide
  | 3, _ => decide
  | 4, _ => decide
  | 5, _ => decide
  | 6, _ => decide
  | 7, _ => decide
  | 8, _ => decide
  | 9, _ => decide
section
variable {w0 W : World} {F : List HP} {g : Nat} {At : Option Addr} {nt ct : Nat} {L : List Int} {p : Int}
set_option maxHeartbeats 3200000 in
set_option maxRecDepth 100000 in
theorem value_lit (ht : I64.C w0 At nt L) (hp : 0 ≤ p) (h : Sep w0 W (Tp g At nt ct p :: F)) (deep : Int) (U : Value) (hd : deep ≤ 0) :
    Calls Try.prog 23 #[.pointer (some ⟨g, 0, none⟩), .int .i64 deep, U] W fun e w' => StrR 40 e ∧ TpT w0 w' F g At nt ct := by
  have HT := Aside0.mk ht
  have hdd : decide (deep ≤ 0) = true := decide_eq_true hd
  clear ht
  go_enter Try.func23, Try.ntmps23
  go_wp2_with fail
  refine (next_ HT.out hp h 14).mono ?_
  rintro e w1 ⟨k, p1, rfl, hk, hp1, hS⟩
  have B1 := Aside0.mk hS
  have L1 := Aside0.mk (B1.out.litRow (enc := Value.int .i64) (h1 := fun _ => rfl) (e := 3) Ds (by decide)).at2
  have HK := Aside0.mk (And.intro hk hp1)
  clear hS hk hp h hp1
  go_wp2_with fail
  refine (next_ HT.out HK.out.2 L1.out 10).mono ?_
  rintro e w2 ⟨r, p2, rfl, hr, hp2, hS⟩
  obtain ⟨q, m, rfl, hq, hm, hm4⟩ := Ds_at hr.1 (hr.2.1 (by decide))
  obtain ⟨f1, f2⟩ := hS.at2.rowCell (0 : Int) q hq
  have f1' : w2.cell? ⟨w1.heap.size, q, none⟩ = some (.int .i64 (Ds.getD q 0)) := f1
  rw [hm] at f1'
  have hq10 : (q : Int) < 10 := by omega
  have B2 := Aside0.mk (And.intro hp2 hS.drop2)
  have HM := Aside0.mk hm4
  clear hS hr hp2 hm f1 f2 hm4
  go_wp2_with fail
  refine (digits_ 3 m _ HM.out (by have := HM.out; omega) (by decide)).mono ?_
  rintro e w3 ⟨⟨s, rfl, hs⟩, rfl⟩
  have hsz : ¬ 9223372036854775807 < 1 + s.size := by omega
  go_wp2_with fail
  go_ret
  exact ⟨⟨_, rfl, by simp [szA]; omega⟩, _, B2.out.1, B2.out.2⟩
end
end Go.Proofs.Ytkkgfpdjlohojaa.Keep
