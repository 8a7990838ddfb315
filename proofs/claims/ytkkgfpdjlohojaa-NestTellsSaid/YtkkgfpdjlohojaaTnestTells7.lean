/- Func5, Func6, NestQ: what NestTells needs. -/
import Derived.Test.YtkkgfpdjlohojaaTnestTells6
set_option linter.unusedVariables false
set_option linter.unusedSimpArgs false
namespace Go.Proofs.Ytkkgfpdjlohojaa.Fn
open Go.RowKit Go.Proofs.YtkkgfpdjlohojaaW.PrintWords Go.Proofs.YtkkgfpdjlohojaaW.PrintLast Go.Proofs.YtkkgfpdjlohojaaW.PrintMore Go.Proofs.Ytkkgfpdjlohojaa.Kit
open Go.Proofs.Ytkkgfpdjlohojaa.TokP Go.Proofs.Ytkkgfpdjlohojaa.Tok
def nx (r : Int) (n : Nat) : Nat := if r = 63 ∨ r = 91 then n + 1 else if r = 59 ∨ r = 93 then n - 1 else n
def TP (w0 w' : World) (F : List HP) (g : Nat) (e : Ending) (r : Int) (n : Nat) : Prop := ∃ (er : Int) (k : Nat), e = .returned (.int .i64 er) ∧ StT w0 w' F g k ∧ (er = 0 → k = nx r n)
abbrev tB (gt : Nat) (r N nm : Int) : HP := Blk gt 42 #[.int .i32 r, .int .i64 N, .int .i32 nm]
section
variable {w0 W : World} {F : List HP} {g : Nat} {h : Int} {vo : Value} {bs : List Bk} {pg mo : Int} {A : Option Addr} {n c : Nat} {fs : List Fnc}
theorem stt_tail {p q : HP} {k : Nat} (h : StT w0 W (p :: q :: F) g k) : StT w0 W F g k := by
  obtain ⟨h', vo', bs', hl, hS⟩ := h
  have h2 : Sep w0 W (p :: q :: Blk g 78 #[.int .i64 h', vo'] :: Row (Kd.raw 4) 86 vo' (bs'.map cellB) :: F) := hS.perm (by
    refine List.Perm.trans (List.Perm.cons _ (List.Perm.swap _ _ _)) ?_
    refine List.Perm.trans (List.Perm.swap _ _ _) (List.Perm.cons _ ?_)
    refine List.Perm.trans (List.Perm.cons _ (List.Perm.swap _ _ _)) ?_
    exact List.Perm.swap _ _ _)
  exact ⟨h', vo', bs', hl, h2.tail.tail⟩
theorem st_box (hS : Sep w0 W (StL g h vo bs F)) (pg mo : Int) (A : Option Addr) (n c : Nat) (r N nm : Int) :
    Sep w0 ((W.alloc (.cells #[.int .i64 pg, .int .i64 mo, .slice A n c] 30)).alloc (.cells #[.int .i32 r, .int .i64 N, .int .i32 nm] 42)) (StL g h vo bs (tB (W.heap.size + 1) r N nm :: uB W.heap.size pg mo A n c :: F)) := by
  have h1 := ((hS.newBlk 30 #[.int .i64 pg, .int .i64 mo, .slice A n c]).newBlk 42 #[.int .i32 r, .int .i64 N, .int .i32 nm])
  rw [NestR.alloc_size] at h1
  exact (Sep.pull [_, _, _] (Sep.pull [_, _] h1)).at2
set_option maxHeartbeats 6400000 in
set_option maxRecDepth 100000 in
theorem tokenE_ (hC : ∀ W', Sep w0 W' F → FC W' A n fs) (hS : Sep w0 W (StL g h vo bs F)) (hp : 0 < bs.length) (r N nm : Int) (hr : r = 58 ∨ r = 59 ∨ r = 93) :
    Calls Try.prog 33 #[.pointer (some ⟨g, 0, none⟩), uV pg mo A n c, .agg #[.int .i32 r, .int .i64 N, .int .i32 nm]] W fun e w' => TP w0 w' F g e r bs.length := by
  have H1 := Aside0.mk (st_box hS pg mo A n c r N nm)
  have HC := Aside0.mk hC
  have HP := Aside0.mk hp
  clear hS hC hp
  obtain ⟨w1, hw1⟩ : ∃ x, (W.alloc (.cells #[.int .i64 pg, .int .i64 mo, .slice A n c] 30)).alloc (.cells #[.int .i32 r, .int .i64 N, .int .i32 nm] 42) = x := ⟨_, rfl⟩
  have H2 := H1
  rw [hw1] at H2
  have u0 : w1.cell? ⟨W.heap.size, 0, none⟩ = some (.int .i64 pg) := (Sep.cell (Sep.pull [_, _, _] H2.out) 0).trans rfl
  have u1 : w1.cell? ⟨W.heap.size, 1, none⟩ = some (.int .i64 mo) := (Sep.cell (Sep.pull [_, _, _] H2.out) 1).trans rfl
  have u2 : w1.cell? ⟨W.heap.size, 2, none⟩ = some (.slice A n c) := (Sep.cell (Sep.pull [_, _, _] H2.out) 2).trans rfl
  have t0 : w1.cell? ⟨W.heap.size + 1, 0, none⟩ = some (.int .i32 r) := (Sep.cell (Sep.pull [_, _] H2.out) 0).trans rfl
  have t1 : w1.cell? ⟨W.heap.size + 1, 1, none⟩ = some (.int .i64 N) := (Sep.cell (Sep.pull [_, _] H2.out) 1).trans rfl
  have t2 : w1.cell? ⟨W.heap.size + 1, 2, none⟩ = some (.int .i32 nm) := (Sep.cell (Sep.pull [_, _] H2.out) 2).trans rfl
  have s0 := st_h H2.out
  obtain ⟨gu, hgu⟩ : ∃ x, W.heap.size = x := ⟨_, rfl⟩
  rw [hgu] at H2 u0 u1 u2 t0 t1 t2
  have HW := Aside0.mk (And.intro hw1 hgu)
  clear H1 hw1 hgu
  have fin : ∀ {w' : World} {k : Nat} {er : Int}, StT w0 w' (tB (gu + 1) r N nm :: uB gu pg mo A n c :: F) g k → (er = 0 → k = nx r bs.length) → TP w0 w' F g (.returned (.int .i64 er)) r bs.length := fun hT he => ⟨_, _, rfl, stt_tail hT, he⟩
  by_cases hlt : h < 0
  · have hd : decide (h < 0) = true := decide_eq_true hlt
    rcases hr with rfl | rfl | rfl
    · go_enter Try.func33, Try.ntmps33
      go_upto_region 1 with fail
      rw [HW.out.1, HW.out.2]
      go_wp2_with fail
      refine (takes_ (fun W' h' => HC.out W' h'.tail.tail.tail.tail) H2.out _ N nm).mono ?_
      rintro e w2 ⟨⟨a, b, ok, rfl⟩, hS2⟩
      have B2 := Aside0.mk hS2
      have t0' : w2.cell? ⟨gu + 1, 0, none⟩ = some _ := (Sep.cell (Sep.pull [_, _] hS2) 0).trans rfl
      clear hS2
      cases ok with
      | false =>
        go_wp2_with fail
        go_ret
        exact fin ⟨_, _, _, rfl, B2.out⟩ (fun h => by omega)
      | true =>
        go_wp2_with fail
        refine (ends_c B2.out HP.out).mono ?_
        rintro e w3 ⟨⟨b3, rfl⟩, hT⟩
        have BT := Aside0.mk hT
        clear hT
        cases b3 with
        | false =>
          go_wp2_with fail
          go_ret
          exact fin BT.out (fun h => by omega)
        | true =>
          go_wp2_with fail
          go_ret
          exact fin BT.out (fun _ => by simp [nx])
    · go_enter Try.func33, Try.ntmps33
      go_upto_region 1 with fail
      rw [HW.out.1, HW.out.2]
      go_wp2_with fail
      refine (takes_ (fun W' h' => HC.out W' h'.tail.tail.tail.tail) H2.out _ N nm).mono ?_
      rintro e w2 ⟨⟨a, b, ok, rfl⟩, hS2⟩
      have B2 := Aside0.mk hS2
      have t0' : w2.cell? ⟨gu + 1, 0, none⟩ = some _ := (Sep.cell (Sep.pull [_, _] hS2) 0).trans rfl
      clear hS2
      cases ok with
      | false =>
        go_wp2_with fail
        go_ret
        exact fin ⟨_, _, _, rfl, B2.out⟩ (fun h => by omega)
      | true =>
        go_wp2_with fail
        refine (ends_x B2.out HP.out 59 (by decide)).mono ?_
        rintro e w3 ⟨⟨b3, rfl⟩, hT⟩
        have BT := Aside0.mk hT
        clear hT
        cases b3 with
        | false =>
          go_wp2_with fail
          go_ret
          exact fin BT.out (fun h => by omega)
        | true =>
          go_wp2_with fail
          go_ret
          exact fin BT.out (fun _ => by simp [nx])
    · go_enter Try.func33, Try.ntmps33
      go_upto_region 1 with fail
      rw [HW.out.1, HW.out.2]
      go_wp2_with fail
      refine (takes_ (fun W' h' => HC.out W' h'.tail.tail.tail.tail) H2.out _ N nm).mono ?_
      rintro e w2 ⟨⟨a, b, ok, rfl⟩, hS2⟩
      have B2 := Aside0.mk hS2
      have t0' : w2.cell? ⟨gu + 1, 0, none⟩ = some _ := (Sep.cell (Sep.pull [_, _] hS2) 0).trans rfl
      clear hS2
      cases ok with
      | false =>
        go_wp2_with fail
        go_ret
        exact fin ⟨_, _, _, rfl, B2.out⟩ (fun h => by omega)
      | true =>
        go_wp2_with fail
        refine (ends_x B2.out HP.out 93 (by decide)).mono ?_
        rintro e w3 ⟨⟨b3, rfl⟩, hT⟩
        have BT := Aside0.mk hT
        clear hT
        cases b3 with
        | false =>
          go_wp2_with fail
          go_ret
          exact fin BT.out (fun h => by omega)
        | true =>
          go_wp2_with fail
          go_ret
          exact fin BT.out (fun _ => by simp [nx])
  · have hd : decide (h < 0) = false := decide_eq_false hlt
    rcases hr with rfl | rfl | rfl
    · go_enter Try.func33, Try.ntmps33
      go_upto_region 1 with fail
      rw [HW.out.1, HW.out.2]
      go_wp2_with fail
      refine (takes_ (fun W' h' => HC.out W' h'.tail.tail.tail.tail) H2.out _ N nm).mono ?_
      rintro e w2 ⟨⟨a, b, ok, rfl⟩, hS2⟩
      have B2 := Aside0.mk hS2
      have t0' : w2.cell? ⟨gu + 1, 0, none⟩ = some _ := (Sep.cell (Sep.pull [_, _] hS2) 0).trans rfl
      clear hS2
      cases ok with
      | false =>
        go_wp2_with fail
        go_ret
        exact fin ⟨_, _, _, rfl, B2.out⟩ (fun h => by omega)
      | true =>
        go_wp2_with fail
        refine (ends_c B2.out HP.out).mono ?_
        rintro e w3 ⟨⟨b3, rfl⟩, hT⟩
        have BT := Aside0.mk hT
        clear hT
        cases b3 with
        | false =>
          go_wp2_with fail
          go_ret
          exact fin BT.out (fun h => by omega)
        | true =>
          go_wp2_with fail
          go_ret
          exact fin BT.out (fun _ => by simp [nx])
    · go_enter Try.func33, Try.ntmps33
      go_upto_region 1 with fail
      rw [HW.out.1, HW.out.2]
      go_wp2_with fail
      refine (takes_ (fun W' h' => HC.out W' h'.tail.tail.tail.tail) H2.out _ N nm).mono ?_
      rintro e w2 ⟨⟨a, b, ok, rfl⟩, hS2⟩
      have B2 := Aside0.mk hS2
      have t0' : w2.cell? ⟨gu + 1, 0, none⟩ = some _ := (Sep.cell (Sep.pull [_, _] hS2) 0).trans rfl
      clear hS2
      cases ok with
      | false =>
        go_wp2_with fail
        go_ret
        exact fin ⟨_, _, _, rfl, B2.out⟩ (fun h => by omega)
      | true =>
        go_wp2_with fail
        refine (ends_x B2.out HP.out 59 (by decide)).mono ?_
        rintro e w3 ⟨⟨b3, rfl⟩, hT⟩
        have BT := Aside0.mk hT
        clear hT
        cases b3 with
        | false =>
          go_wp2_with fail
          go_ret
          exact fin BT.out (fun h => by omega)
        | true =>
          go_wp2_with fail
          go_ret
          exact fin BT.out (fun _ => by simp [nx])
    · go_enter Try.func33, Try.ntmps33
      go_upto_region 1 with fail
      rw [HW.out.1, HW.out.2]
      go_wp2_with fail
      refine (takes_ (fun W' h' => HC.out W' h'.tail.tail.tail.tail) H2.out _ N nm).mono ?_
      rintro e w2 ⟨⟨a, b, ok, rfl⟩, hS2⟩
      have B2 := Aside0.mk hS2
      have t0' : w2.cell? ⟨gu + 1, 0, none⟩ = some _ := (Sep.cell (Sep.pull [_, _] hS2) 0).trans rfl
      clear hS2
      cases ok with
      | false =>
        go_wp2_with fail
        go_ret
        exact fin ⟨_, _, _, rfl, B2.out⟩ (fun h => by omega)
      | true =>
        go_wp2_with fail
        refine (ends_x B2.out HP.out 93 (by decide)).mono ?_
        rintro e w3 ⟨⟨b3, rfl⟩, hT⟩
        have BT := Aside0.mk hT
        clear hT
        cases b3 with
        | false =>
          go_wp2_with fail
          go_ret
          exact fin BT.out (fun h => by omega)
        | true =>
          go_wp2_with fail
          go_ret
          exact fin BT.out (fun _ => by simp [nx])
end
end Go.Proofs.Ytkkgfpdjlohojaa.Fn
namespace Go.Proofs.Ytkkgfpdjlohojaa.Fn
open Go.RowKit Go.Proofs.YtkkgfpdjlohojaaW.PrintWords Go.Proofs.YtkkgfpdjlohojaaW.PrintLast Go.Proofs.YtkkgfpdjlohojaaW.PrintMore Go.Proofs.Ytkkgfpdjlohojaa.Kit
open Go.Proofs.Ytkkgfpdjlohojaa.TokP Go.Proofs.Ytkkgfpdjlohojaa.Tok
section
variable {w0 W : World} {F : List HP} {g : Nat} {h : Int} {vo : Value} {bs : List Bk} {pg mo : Int} {A : Option Addr} {n c : Nat} {fs : List Fnc}
theorem oneBk (h : Sep w0 W F) (b : Bk) : Sep w0 (W.alloc (.cells (cellB b).toArray 86)) (Row (Kd.raw 4) 86 (.slice (some ⟨W.heap.size, 0, none⟩) 1 1) [cellB b] :: F) :=
  h.newLit (d := Kd.raw 4) (xs := [cellB b]) (inner := cellB b) (e := 86) (one_raw rfl (by
    intro u hu
    simp only [cellB, List.mem_cons, List.not_mem_nil, or_false] at hu
    rcases hu with rfl | rfl | rfl | rfl <;> rfl)) (by simp)
theorem opened {v5 v6 : Value} {x : HP} {rs : List (List Value)} {u : Value} (h : Sep w0 W (Blk g 78 ((#[u, v5] : Array Value).setIfInBounds 1 v6) :: ([Row (Kd.raw 4) 86 v6 rs, x] ++ F))) : Sep w0 W (Blk g 78 #[u, v6] :: Row (Kd.raw 4) 86 v6 rs :: F) := (Sep.at3 h).tail
set_option maxHeartbeats 6400000 in
set_option maxRecDepth 100000 in
theorem tokenN_ (hC : ∀ W', Sep w0 W' F → FC W' A n fs) (hS : Sep w0 W (StL g h vo bs F)) (hbl : bs.length ≤ 1000000) (r N nm : Int) (hr1 : ¬ r = 58) (hr2 : ¬ r = 59) (hr3 : ¬ r = 93) :
    Calls Try.prog 33 #[.pointer (some ⟨g, 0, none⟩), uV pg mo A n c, .agg #[.int .i32 r, .int .i64 N, .int .i32 nm]] W fun e w' => TP w0 w' F g e r bs.length := by
  have H1 := Aside0.mk (st_box hS pg mo A n c r N nm)
  have HC := Aside0.mk hC
  have HBL := Aside0.mk hbl
  have b58 : (r == 58) = false := by simp [hr1]
  have b59 : (r == 59) = false := by simp [hr2]
  have b93 : (r == 93) = false := by simp [hr3]
  have HR := Aside0.mk (And.intro hr1 (And.intro hr2 hr3))
  clear hS hC hbl hr1 hr2 hr3
  obtain ⟨w1, hw1⟩ : ∃ x, (W.alloc (.cells #[.int .i64 pg, .int .i64 mo, .slice A n c] 30)).alloc (.cells #[.int .i32 r, .int .i64 N, .int .i32 nm] 42) = x := ⟨_, rfl⟩
  have H2 := H1
  rw [hw1] at H2
  have u0 : w1.cell? ⟨W.heap.size, 0, none⟩ = some (.int .i64 pg) := (Sep.cell (Sep.pull [_, _, _] H2.out) 0).trans rfl
  have u1 : w1.cell? ⟨W.heap.size, 1, none⟩ = some (.int .i64 mo) := (Sep.cell (Sep.pull [_, _, _] H2.out) 1).trans rfl
  have u2 : w1.cell? ⟨W.heap.size, 2, none⟩ = some (.slice A n c) := (Sep.cell (Sep.pull [_, _, _] H2.out) 2).trans rfl
  have t0 : w1.cell? ⟨W.heap.size + 1, 0, none⟩ = some (.int .i32 r) := (Sep.cell (Sep.pull [_, _] H2.out) 0).trans rfl
  have t1 : w1.cell? ⟨W.heap.size + 1, 1, none⟩ = some (.int .i64 N) := (Sep.cell (Sep.pull [_, _] H2.out) 1).trans rfl
  have t2 : w1.cell? ⟨W.heap.size + 1, 2, none⟩ = some (.int .i32 nm) := (Sep.cell (Sep.pull [_, _] H2.out) 2).trans rfl
  have s0 := st_h H2.out
  obtain ⟨gu, hgu⟩ : ∃ x, W.heap.size = x := ⟨_, rfl⟩
  rw [hgu] at H2 u0 u1 u2 t0 t1 t2
  have HW := Aside0.mk (And.intro hw1 hgu)
  clear H1 hw1 hgu
  have fin : ∀ {w' : World} {k : Nat} {er : Int}, StT w0 w' (tB (gu + 1) r N nm :: uB gu pg mo A n c :: F) g k → (er = 0 → k = nx r bs.length) → TP w0 w' F g (.returned (.int .i64 er)) r bs.length := fun hT he => ⟨_, _, rfl, stt_tail hT, he⟩
  by_cases hlt : h < 0
  · have hd : decide (h < 0) = true := decide_eq_true hlt
    go_enter Try.func33, Try.ntmps33
    go_upto_region 1 with fail
    rw [HW.out.1, HW.out.2]
    go_wp2_with fail
    go_ret
    exact fin ⟨_, _, _, rfl, H2.out⟩ (fun h => by omega)
  · have hd : decide (h < 0) = false := decide_eq_false hlt
    go_enter Try.func33, Try.ntmps33
    go_upto_region 1 with fail
    rw [HW.out.1, HW.out.2]
    go_wp2_with fail
    refine (takes_ (fun W' h' => HC.out W' h'.tail.tail.tail.tail) H2.out _ N nm).mono ?_
    rintro e w2 ⟨⟨a, b, ok, rfl⟩, hS2⟩
    have B2 := Aside0.mk hS2
    clear u0 u1 u2 t0 t1 t2 s0 hlt hd
    have t0 : w2.cell? ⟨gu + 1, 0, none⟩ = some (.int .i32 r) := (Sep.cell (Sep.pull [_, _] hS2) 0).trans rfl
    have s0 := st_h hS2
    clear hS2
    cases ok with
    | false =>
      go_wp2_with fail
      go_ret
      exact fin ⟨_, _, _, rfl, B2.out⟩ (fun h => by omega)
    | true =>
      obtain ⟨d1, hd1⟩ : ∃ d, wrap64 (h - bF bs) = d := ⟨_, rfl⟩
      obtain ⟨d2, hd2⟩ : ∃ d, wrap64 (h - a) = d := ⟨_, rfl⟩
      obtain ⟨d3, hd3⟩ : ∃ d, wrap64 (d2 + b) = d := ⟨_, rfl⟩
      have z0 : w2.drew.cell? ⟨g, 0, none⟩ = some (.int .i64 h) := st_h B2.out.drew
      by_cases hc1 : d1 < a
      · have hcd : decide (d1 < a) = true := decide_eq_true hc1
        go_wp2_with fail
        refine start_ (n := 20) (S := fun w' => w'.cell? ⟨g, 0, none⟩ = some (.int .i64 h)) (ds := []) #[Z,Z,Z,Z,Z,Z,Z,Z,Z,Z,Z,Z,Z,Z,Z,Z,Z,Z,Z,Z] (by kernel_rfl) rfl rfl (z0) (fun hHeld => ?_)
        refine pu_ 0 48 ?_ #[J,Z,Z,Z,Z,Z,Z,Z,Z,Z,Z,Z,Z,Z,Z,Z,Z,Z,Z,Z] rfl rfl ?_ ?_ ?_ ?_
        rotate_left
        · intro w'
          go_simp
          with_reducible rfl
        rotate_left
        · simp only [aP]
          rfl
        refine pu_ 1 49 ?_ #[J,J,Z,Z,Z,Z,Z,Z,Z,Z,Z,Z,Z,Z,Z,Z,Z,Z,Z,Z] rfl rfl ?_ ?_ ?_ ?_
        rotate_left
        · intro w'
          go_simp
          with_reducible rfl
        rotate_left
        · simp only [aP]
          rfl
        refine pu_ 2 50 ?_ #[J,J,J,Z,Z,Z,Z,Z,Z,Z,Z,Z,Z,Z,Z,Z,Z,Z,Z,Z] rfl rfl ?_ ?_ ?_ ?_
        rotate_left
        · intro w'
          go_simp
          with_reducible rfl
        rotate_left
        · simp only [aP]
          rfl
        refine pu_ 4 52 ?_ #[J,J,J,Z,J,Z,Z,Z,Z,Z,Z,Z,Z,Z,Z,Z,Z,Z,Z,Z] rfl rfl ?_ ?_ ?_ ?_
        rotate_left
        · intro w'
          go_simp
          with_reducible rfl
        rotate_left
        · simp only [aP]
          rfl
        refine pu_ 7 55 ?_ #[J,J,J,Z,J,Z,Z,J,Z,Z,Z,Z,Z,Z,Z,Z,Z,Z,Z,Z] rfl rfl ?_ ?_ ?_ ?_
        rotate_left
        · intro w'
          go_simp
          with_reducible rfl
        rotate_left
        · simp only [aP]
          rfl
        refine ta_ 3 51 ?_ #[J,J,J,J,J,Z,Z,J,Z,Z,Z,Z,Z,Z,Z,Z,Z,Z,Z,Z] rfl rfl ?_ hHeld ?_ ?_ ?_
        rotate_left
        · intro w' s0
          go_simp
          with_reducible rfl
        rotate_left
        · simp only [aP]
          rfl
        refine one_ (i := 5) (N := some 53) #[J,J,J,J,J,J,Z,J,Z,Z,Z,Z,Z,Z,Z,Z,Z,Z,Z,Z] rfl rfl (by kernel_rfl) (by decide) (fun K hK => ?_)
        refine goes_ Try.func38 (by kernel_rfl) rfl #[.pointer (some ⟨g, 0, none⟩)] (by rfl) rfl rfl (by simp only [List.map_toArray, List.map_cons, List.map_nil]; rfl) ?_
        with_reducible refine (base_ B2.out.drew).mono ?_
        rintro e w3 ⟨rfl, hS3⟩
        refine ⟨_, rfl, ?_⟩
        have B3 := Aside0.mk hS3
        clear hS3
        refine hK.out _ _ (st_h B3.out) (fun hHeld => ?_)
        clear hK K
        refine norm_ (a' := ?_) ?_ ?_
        rotate_left
        · show Act.put _ (some 53) _ = _
          simp only [aP]
          rfl
        refine pu_ 6 54 ?_ #[J,J,J,J,J,J,J,J,Z,Z,Z,Z,Z,Z,Z,Z,Z,Z,Z,Z] rfl rfl ?_ ?_ ?_ ?_
        rotate_left
        · intro w'
          go_simp
          with_reducible rfl
        rotate_left
        · simp only [aP]
          rfl
        refine pu_ 8 56 ?_ #[J,J,J,J,J,J,J,J,J,Z,Z,Z,Z,Z,Z,Z,Z,Z,Z,Z] rfl rfl ?_ ?_ ?_ ?_
        rotate_left
        · intro w'
          go_simp
          with_reducible rfl
        rotate_left
        · simp only [aP]
          rfl
        refine pu_ 9 57 ?_ #[J,J,J,J,J,J,J,J,J,J,Z,Z,Z,Z,Z,Z,Z,Z,Z,Z] rfl rfl ?_ ?_ ?_ ?_
        rotate_left
        · intro w'
          go_simp
          with_reducible rfl
        rotate_left
        · simp only [aP]
          rfl
        refine pure_ (i := 10) (N := some 58) (v := undef) (a' := ?_) #[J,J,J,J,J,J,J,J,J,J,J,Z,Z,Z,Z,Z,Z,Z,Z,Z] rfl rfl (by kernel_rfl) (fun _ _ _ h => h) (Or.inr ⟨by rfl, rfl⟩) ?_ ?_
        rotate_left
        · simp only [aP]
          rfl
        refine pure_ (i := 11) (N := some 59) (v := undef) (a' := ?_) #[J,J,J,J,J,J,J,J,J,J,J,J,Z,Z,Z,Z,Z,Z,Z,Z] rfl rfl (by kernel_rfl) (fun _ _ _ h => h) (Or.inr ⟨by rfl, rfl⟩) ?_ ?_
        rotate_left
        · simp only [aP]
          rfl
        refine pure_ (i := 12) (N := some 60) (v := undef) (a' := ?_) #[J,J,J,J,J,J,J,J,J,J,J,J,J,Z,Z,Z,Z,Z,Z,Z] rfl rfl (by kernel_rfl) (fun _ _ _ h => h) (Or.inr ⟨by rfl, rfl⟩) ?_ ?_
        rotate_left
        · simp only [aP]
          rfl
        refine pure_ (i := 13) (N := some 61) (v := undef) (a' := ?_) #[J,J,J,J,J,J,J,J,J,J,J,J,J,J,Z,Z,Z,Z,Z,Z] rfl rfl (by kernel_rfl) (fun _ _ _ h => h) (Or.inr ⟨by rfl, rfl⟩) ?_ ?_
        rotate_left
        · simp only [aP]
          rfl
        refine pure_ (i := 14) (N := some 62) (v := undef) (a' := ?_) #[J,J,J,J,J,J,J,J,J,J,J,J,J,J,J,Z,Z,Z,Z,Z] rfl rfl (by kernel_rfl) (fun _ _ _ h => h) (Or.inr ⟨by rfl, rfl⟩) ?_ ?_
        rotate_left
        · simp only [aP]
          rfl
        refine pure_ (i := 15) (N := some 63) (v := undef) (a' := ?_) #[J,J,J,J,J,J,J,J,J,J,J,J,J,J,J,J,Z,Z,Z,Z] rfl rfl (by kernel_rfl) (fun _ _ _ h => h) (Or.inr ⟨by rfl, rfl⟩) ?_ ?_
        rotate_left
        · simp only [aP]
          rfl
        refine pure_ (i := 16) (N := some 64) (v := undef) (a' := ?_) #[J,J,J,J,J,J,J,J,J,J,J,J,J,J,J,J,J,Z,Z,Z] rfl rfl (by kernel_rfl) (fun _ _ _ h => h) (Or.inr ⟨by rfl, rfl⟩) ?_ ?_
        rotate_left
        · simp only [aP]
          rfl
        refine pure_ (i := 17) (N := some 65) (v := undef) (a' := ?_) #[J,J,J,J,J,J,J,J,J,J,J,J,J,J,J,J,J,J,Z,Z] rfl rfl (by kernel_rfl) (fun _ _ _ h => h) (Or.inr ⟨by rfl, rfl⟩) ?_ ?_
        rotate_left
        · simp only [aP]
          rfl
        refine pure_ (i := 18) (N := some 66) (v := undef) (a' := ?_) #[J,J,J,J,J,J,J,J,J,J,J,J,J,J,J,J,J,J,J,Z] rfl rfl (by kernel_rfl) (fun _ _ _ h => h) (Or.inr ⟨by rfl, rfl⟩) ?_ ?_
        rotate_left
        · simp only [aP]
          rfl
        refine pu_ 19 67 ?_ #[J,J,J,J,J,J,J,J,J,J,J,J,J,J,J,J,J,J,J,J] rfl rfl ?_ ?_ ?_ ?_
        rotate_left
        · intro w'
          go_simp
          with_reducible rfl
        rotate_left
        · simp only [aP]
          rfl
        refine done_ (by kernel_rfl) ?_
        go_wp2_with fail
        go_ret
        exact fin ⟨_, _, _, rfl, B3.out⟩ (fun h => by omega)
      · have hcd : decide (d1 < a) = false := decide_eq_false hc1
        by_cases hc2 : 64 < d3
        · have hce : decide (64 < d3) = true := decide_eq_true hc2
          go_wp2_with fail
          refine start_ (n := 20) (S := fun w' => w'.cell? ⟨g, 0, none⟩ = some (.int .i64 h)) (ds := []) #[Z,Z,Z,Z,Z,Z,Z,Z,Z,Z,Z,Z,Z,Z,Z,Z,Z,Z,Z,Z] (by kernel_rfl) rfl rfl (z0) (fun hHeld => ?_)
          refine pu_ 0 48 ?_ #[J,Z,Z,Z,Z,Z,Z,Z,Z,Z,Z,Z,Z,Z,Z,Z,Z,Z,Z,Z] rfl rfl ?_ ?_ ?_ ?_
          rotate_left
          · intro w'
            go_simp
            with_reducible rfl
          rotate_left
          · simp only [aP]
            rfl
          refine pu_ 1 49 ?_ #[J,J,Z,Z,Z,Z,Z,Z,Z,Z,Z,Z,Z,Z,Z,Z,Z,Z,Z,Z] rfl rfl ?_ ?_ ?_ ?_
          rotate_left
          · intro w'
            go_simp
            with_reducible rfl
          rotate_left
          · simp only [aP]
            rfl
          refine pu_ 2 50 ?_ #[J,J,J,Z,Z,Z,Z,Z,Z,Z,Z,Z,Z,Z,Z,Z,Z,Z,Z,Z] rfl rfl ?_ ?_ ?_ ?_
          rotate_left
          · intro w'
            go_simp
            with_reducible rfl
          rotate_left
          · simp only [aP]
            rfl
          refine pu_ 4 52 ?_ #[J,J,J,Z,J,Z,Z,Z,Z,Z,Z,Z,Z,Z,Z,Z,Z,Z,Z,Z] rfl rfl ?_ ?_ ?_ ?_
          rotate_left
          · intro w'
            go_simp
            with_reducible rfl
          rotate_left
          · simp only [aP]
            rfl
          refine pu_ 7 55 ?_ #[J,J,J,Z,J,Z,Z,J,Z,Z,Z,Z,Z,Z,Z,Z,Z,Z,Z,Z] rfl rfl ?_ ?_ ?_ ?_
          rotate_left
          · intro w'
            go_simp
            with_reducible rfl
          rotate_left
          · simp only [aP]
            rfl
          refine ta_ 3 51 ?_ #[J,J,J,J,J,Z,Z,J,Z,Z,Z,Z,Z,Z,Z,Z,Z,Z,Z,Z] rfl rfl ?_ hHeld ?_ ?_ ?_
          rotate_left
          · intro w' s0
            go_simp
            with_reducible rfl
          rotate_left
          · simp only [aP]
            rfl
          refine one_ (i := 5) (N := some 53) #[J,J,J,J,J,J,Z,J,Z,Z,Z,Z,Z,Z,Z,Z,Z,Z,Z,Z] rfl rfl (by kernel_rfl) (by decide) (fun K hK => ?_)
          refine goes_ Try.func38 (by kernel_rfl) rfl #[.pointer (some ⟨g, 0, none⟩)] (by rfl) rfl rfl (by simp only [List.map_toArray, List.map_cons, List.map_nil]; rfl) ?_
          with_reducible refine (base_ B2.out.drew).mono ?_
          rintro e w3 ⟨rfl, hS3⟩
          refine ⟨_, rfl, ?_⟩
          have B3 := Aside0.mk hS3
          clear hS3
          refine hK.out _ _ (st_h B3.out) (fun hHeld => ?_)
          clear hK K
          refine norm_ (a' := ?_) ?_ ?_
          rotate_left
          · show Act.put _ (some 53) _ = _
            simp only [aP]
            rfl
          refine pu_ 6 54 ?_ #[J,J,J,J,J,J,J,J,Z,Z,Z,Z,Z,Z,Z,Z,Z,Z,Z,Z] rfl rfl ?_ ?_ ?_ ?_
          rotate_left
          · intro w'
            go_simp
            with_reducible rfl
          rotate_left
          · simp only [aP]
            rfl
          refine pu_ 8 56 ?_ #[J,J,J,J,J,J,J,J,J,Z,Z,Z,Z,Z,Z,Z,Z,Z,Z,Z] rfl rfl ?_ ?_ ?_ ?_
          rotate_left
          · intro w'
            go_simp
            with_reducible rfl
          rotate_left
          · simp only [aP]
            rfl
          refine pu_ 9 57 ?_ #[J,J,J,J,J,J,J,J,J,J,Z,Z,Z,Z,Z,Z,Z,Z,Z,Z] rfl rfl ?_ ?_ ?_ ?_
          rotate_left
          · intro w'
            go_simp
            with_reducible rfl
          rotate_left
          · simp only [aP]
            rfl
          refine pu_ 10 58 ?_ #[J,J,J,J,J,J,J,J,J,J,J,Z,Z,Z,Z,Z,Z,Z,Z,Z] rfl rfl ?_ ?_ ?_ ?_
          rotate_left
          · intro w'
            go_simp
            with_reducible rfl
          rotate_left
          · simp only [aP]
            rfl
          refine pu_ 11 59 ?_ #[J,J,J,J,J,J,J,J,J,J,J,J,Z,Z,Z,Z,Z,Z,Z,Z] rfl rfl ?_ ?_ ?_ ?_
          rotate_left
          · intro w'
            go_simp
            with_reducible rfl
          rotate_left
          · simp only [aP]
            rfl
          refine pu_ 12 60 ?_ #[J,J,J,J,J,J,J,J,J,J,J,J,J,Z,Z,Z,Z,Z,Z,Z] rfl rfl ?_ ?_ ?_ ?_
          rotate_left
          · intro w'
            go_simp
            with_reducible rfl
          rotate_left
          · simp only [aP]
            rfl
          refine pu_ 14 62 ?_ #[J,J,J,J,J,J,J,J,J,J,J,J,J,Z,J,Z,Z,Z,Z,Z] rfl rfl ?_ ?_ ?_ ?_
          rotate_left
          · intro w'
            go_simp
            with_reducible rfl
          rotate_left
          · simp only [aP]
            rfl
          refine pu_ 16 64 ?_ #[J,J,J,J,J,J,J,J,J,J,J,J,J,Z,J,Z,J,Z,Z,Z] rfl rfl ?_ ?_ ?_ ?_
          rotate_left
          · intro w'
            go_simp
            with_reducible rfl
          rotate_left
          · simp only [aP]
            rfl
          refine ta_ 13 61 ?_ #[J,J,J,J,J,J,J,J,J,J,J,J,J,J,J,Z,J,Z,Z,Z] rfl rfl ?_ hHeld ?_ ?_ ?_
          rotate_left
          · intro w' s0
            go_simp
            with_reducible rfl
          rotate_left
          · simp only [aP]
            rfl
          refine pu_ 15 63 ?_ #[J,J,J,J,J,J,J,J,J,J,J,J,J,J,J,J,J,Z,Z,Z] rfl rfl ?_ ?_ ?_ ?_
          rotate_left
          · intro w'
            go_simp
            with_reducible rfl
          rotate_left
          · simp only [aP]
            rfl
          refine pu_ 17 65 ?_ #[J,J,J,J,J,J,J,J,J,J,J,J,J,J,J,J,J,J,Z,Z] rfl rfl ?_ ?_ ?_ ?_
          rotate_left
          · intro w'
            go_simp
            with_reducible rfl
          rotate_left
          · simp only [aP]
            rfl
          refine pu_ 18 66 ?_ #[J,J,J,J,J,J,J,J,J,J,J,J,J,J,J,J,J,J,J,Z] rfl rfl ?_ ?_ ?_ ?_
          rotate_left
          · intro w'
            go_simp
            with_reducible rfl
          rotate_left
          · simp only [aP]
            rfl
          refine pu_ 19 67 ?_ #[J,J,J,J,J,J,J,J,J,J,J,J,J,J,J,J,J,J,J,J] rfl rfl ?_ ?_ ?_ ?_
          rotate_left
          · intro w'
            go_simp
            with_reducible rfl
          rotate_left
          · simp only [aP]
            rfl
          refine done_ (by kernel_rfl) ?_
          go_wp2_with fail
          go_ret
          exact fin ⟨_, _, _, rfl, B3.out⟩ (fun h => by omega)
        have hce : decide (64 < d3) = false := decide_eq_false hc2
        go_wp2_with fail
        refine start_ (n := 20) (S := fun w' => w'.cell? ⟨g, 0, none⟩ = some (.int .i64 h)) (ds := []) #[Z,Z,Z,Z,Z,Z,Z,Z,Z,Z,Z,Z,Z,Z,Z,Z,Z,Z,Z,Z] (by kernel_rfl) rfl rfl (z0) (fun hHeld => ?_)
        refine pu_ 0 48 ?_ #[J,Z,Z,Z,Z,Z,Z,Z,Z,Z,Z,Z,Z,Z,Z,Z,Z,Z,Z,Z] rfl rfl ?_ ?_ ?_ ?_
        rotate_left
        · intro w'
          go_simp
          with_reducible rfl
        rotate_left
        · simp only [aP]
          rfl
        refine pu_ 1 49 ?_ #[J,J,Z,Z,Z,Z,Z,Z,Z,Z,Z,Z,Z,Z,Z,Z,Z,Z,Z,Z] rfl rfl ?_ ?_ ?_ ?_
        rotate_left
        · intro w'
          go_simp
          with_reducible rfl
        rotate_left
        · simp only [aP]
          rfl
        refine pu_ 2 50 ?_ #[J,J,J,Z,Z,Z,Z,Z,Z,Z,Z,Z,Z,Z,Z,Z,Z,Z,Z,Z] rfl rfl ?_ ?_ ?_ ?_
        rotate_left
        · intro w'
          go_simp
          with_reducible rfl
        rotate_left
        · simp only [aP]
          rfl
        refine pu_ 4 52 ?_ #[J,J,J,Z,J,Z,Z,Z,Z,Z,Z,Z,Z,Z,Z,Z,Z,Z,Z,Z] rfl rfl ?_ ?_ ?_ ?_
        rotate_left
        · intro w'
          go_simp
          with_reducible rfl
        rotate_left
        · simp only [aP]
          rfl
        refine pu_ 7 55 ?_ #[J,J,J,Z,J,Z,Z,J,Z,Z,Z,Z,Z,Z,Z,Z,Z,Z,Z,Z] rfl rfl ?_ ?_ ?_ ?_
        rotate_left
        · intro w'
          go_simp
          with_reducible rfl
        rotate_left
        · simp only [aP]
          rfl
        refine ta_ 3 51 ?_ #[J,J,J,J,J,Z,Z,J,Z,Z,Z,Z,Z,Z,Z,Z,Z,Z,Z,Z] rfl rfl ?_ hHeld ?_ ?_ ?_
        rotate_left
        · intro w' s0
          go_simp
          with_reducible rfl
        rotate_left
        · simp only [aP]
          rfl
        refine one_ (i := 5) (N := some 53) #[J,J,J,J,J,J,Z,J,Z,Z,Z,Z,Z,Z,Z,Z,Z,Z,Z,Z] rfl rfl (by kernel_rfl) (by decide) (fun K hK => ?_)
        refine goes_ Try.func38 (by kernel_rfl) rfl #[.pointer (some ⟨g, 0, none⟩)] (by rfl) rfl rfl (by simp only [List.map_toArray, List.map_cons, List.map_nil]; rfl) ?_
        with_reducible refine (base_ B2.out.drew).mono ?_
        rintro e w3 ⟨rfl, hS3⟩
        refine ⟨_, rfl, ?_⟩
        have B3 := Aside0.mk hS3
        clear hS3
        refine hK.out _ _ (st_h B3.out) (fun hHeld => ?_)
        clear hK K
        refine norm_ (a' := ?_) ?_ ?_
        rotate_left
        · show Act.put _ (some 53) _ = _
          simp only [aP]
          rfl
        refine pu_ 6 54 ?_ #[J,J,J,J,J,J,J,J,Z,Z,Z,Z,Z,Z,Z,Z,Z,Z,Z,Z] rfl rfl ?_ ?_ ?_ ?_
        rotate_left
        · intro w'
          go_simp
          with_reducible rfl
        rotate_left
        · simp only [aP]
          rfl
        refine pu_ 8 56 ?_ #[J,J,J,J,J,J,J,J,J,Z,Z,Z,Z,Z,Z,Z,Z,Z,Z,Z] rfl rfl ?_ ?_ ?_ ?_
        rotate_left
        · intro w'
          go_simp
          with_reducible rfl
        rotate_left
        · simp only [aP]
          rfl
        refine pu_ 9 57 ?_ #[J,J,J,J,J,J,J,J,J,J,Z,Z,Z,Z,Z,Z,Z,Z,Z,Z] rfl rfl ?_ ?_ ?_ ?_
        rotate_left
        · intro w'
          go_simp
          with_reducible rfl
        rotate_left
        · simp only [aP]
          rfl
        refine pu_ 10 58 ?_ #[J,J,J,J,J,J,J,J,J,J,J,Z,Z,Z,Z,Z,Z,Z,Z,Z] rfl rfl ?_ ?_ ?_ ?_
        rotate_left
        · intro w'
          go_simp
          with_reducible rfl
        rotate_left
        · simp only [aP]
          rfl
        refine pu_ 11 59 ?_ #[J,J,J,J,J,J,J,J,J,J,J,J,Z,Z,Z,Z,Z,Z,Z,Z] rfl rfl ?_ ?_ ?_ ?_
        rotate_left
        · intro w'
          go_simp
          with_reducible rfl
        rotate_left
        · simp only [aP]
          rfl
        refine pu_ 12 60 ?_ #[J,J,J,J,J,J,J,J,J,J,J,J,J,Z,Z,Z,Z,Z,Z,Z] rfl rfl ?_ ?_ ?_ ?_
        rotate_left
        · intro w'
          go_simp
          with_reducible rfl
        rotate_left
        · simp only [aP]
          rfl
        refine pu_ 14 62 ?_ #[J,J,J,J,J,J,J,J,J,J,J,J,J,Z,J,Z,Z,Z,Z,Z] rfl rfl ?_ ?_ ?_ ?_
        rotate_left
        · intro w'
          go_simp
          with_reducible rfl
        rotate_left
        · simp only [aP]
          rfl
        refine pu_ 16 64 ?_ #[J,J,J,J,J,J,J,J,J,J,J,J,J,Z,J,Z,J,Z,Z,Z] rfl rfl ?_ ?_ ?_ ?_
        rotate_left
        · intro w'
          go_simp
          with_reducible rfl
        rotate_left
        · simp only [aP]
          rfl
        refine ta_ 13 61 ?_ #[J,J,J,J,J,J,J,J,J,J,J,J,J,J,J,Z,J,Z,Z,Z] rfl rfl ?_ hHeld ?_ ?_ ?_
        rotate_left
        · intro w' s0
          go_simp
          with_reducible rfl
        rotate_left
        · simp only [aP]
          rfl
        refine pu_ 15 63 ?_ #[J,J,J,J,J,J,J,J,J,J,J,J,J,J,J,J,J,Z,Z,Z] rfl rfl ?_ ?_ ?_ ?_
        rotate_left
        · intro w'
          go_simp
          with_reducible rfl
        rotate_left
        · simp only [aP]
          rfl
        refine pu_ 17 65 ?_ #[J,J,J,J,J,J,J,J,J,J,J,J,J,J,J,J,J,J,Z,Z] rfl rfl ?_ ?_ ?_ ?_
        rotate_left
        · intro w'
          go_simp
          with_reducible rfl
        rotate_left
        · simp only [aP]
          rfl
        refine pu_ 18 66 ?_ #[J,J,J,J,J,J,J,J,J,J,J,J,J,J,J,J,J,J,J,Z] rfl rfl ?_ ?_ ?_ ?_
        rotate_left
        · intro w'
          go_simp
          with_reducible rfl
        rotate_left
        · simp only [aP]
          rfl
        refine pu_ 19 67 ?_ #[J,J,J,J,J,J,J,J,J,J,J,J,J,J,J,J,J,J,J,J] rfl rfl ?_ ?_ ?_ ?_
        rotate_left
        · intro w'
          go_simp
          with_reducible rfl
        rotate_left
        · simp only [aP]
          rfl
        refine done_ (by kernel_rfl) ?_
        have y0 := st_h B3.out
        have yf := st_f B3.out 0
        have B4 := Aside0.mk (st_seth B3.out d3)
        go_upto_region 14 with fail
        obtain ⟨w4, hw4⟩ : ∃ x, w3.setCell ⟨g, 0, none⟩ (.int .i64 d3) = x := ⟨_, rfl⟩
        rw [hw4] at B4 ⊢
        have t4 : w4.cell? ⟨gu + 1, 0, none⟩ = some (.int .i32 r) := (Sep.cell (Sep.pull [_, _] B4.out) 0).trans rfl
        clear hw4 y0 yf t0 s0 z0 hHeld hd1 hd2 hd3 hc1 hc2 hcd hce
        by_cases h63 : r = 63
        · subst h63
          have v1 : w4.drew.cell? ⟨g, 1, none⟩ = some vo := st_o B4.out.drew
          have v0 : w4.drew.cell? ⟨g, 0, none⟩ = some (.int .i64 d3) := st_h B4.out.drew
          have vt : w4.drew.cell? ⟨gu + 1, 0, none⟩ = some (.int .i32 63) := t4
          go_wp2_with fail
          refine start_ (n := 17) (S := fun w' => w'.cell? ⟨g, 1, none⟩ = some vo ∧ w'.cell? ⟨g, 0, none⟩ = some (.int .i64 d3) ∧ w'.cell? ⟨gu + 1, 0, none⟩ = some (.int .i32 63)) (ds := [13, 16]) #[Z,Z,Z,Z,Z,Z,Z,Z,Z,Z,Z,Z,Z,Z,Z,Z,Z] (by kernel_rfl) rfl rfl ⟨v1, v0, vt⟩ (fun hHeld => ?_)
          refine pu_ 0 84 ?_ #[J,Z,Z,Z,Z,Z,Z,Z,Z,Z,Z,Z,Z,Z,Z,Z,Z] rfl rfl ?_ ?_ ?_ ?_
          rotate_left
          · intro w'
            go_simp
            with_reducible rfl
          rotate_left
          · simp only [aP]
            rfl
          refine pu_ 1 85 ?_ #[J,J,Z,Z,Z,Z,Z,Z,Z,Z,Z,Z,Z,Z,Z,Z,Z] rfl rfl ?_ ?_ ?_ ?_
          rotate_left
          · intro w'
            go_simp
            with_reducible rfl
          rotate_left
          · simp only [aP]
            rfl
          refine pu_ 2 86 ?_ #[J,J,J,Z,Z,Z,Z,Z,Z,Z,Z,Z,Z,Z,Z,Z,Z] rfl rfl ?_ ?_ ?_ ?_
          rotate_left
          · intro w'
            go_simp
            with_reducible rfl
          rotate_left
          · simp only [aP]
            rfl
          refine pu_ 3 87 ?_ #[J,J,J,J,Z,Z,Z,Z,Z,Z,Z,Z,Z,Z,Z,Z,Z] rfl rfl ?_ ?_ ?_ ?_
          rotate_left
          · intro w'
            go_simp
            with_reducible rfl
          rotate_left
          · simp only [aP]
            rfl
          refine pu_ 5 89 ?_ #[J,J,J,J,Z,J,Z,Z,Z,Z,Z,Z,Z,Z,Z,Z,Z] rfl rfl ?_ ?_ ?_ ?_
          rotate_left
          · intro w'
            go_simp
            with_reducible rfl
          rotate_left
          · simp only [aP]
            rfl
          refine pu_ 7 91 ?_ #[J,J,J,J,Z,J,Z,J,Z,Z,Z,Z,Z,Z,Z,Z,Z] rfl rfl ?_ ?_ ?_ ?_
          rotate_left
          · intro w'
            go_simp
            with_reducible rfl
          rotate_left
          · simp only [aP]
            rfl
          refine pu_ 8 92 ?_ #[J,J,J,J,Z,J,Z,J,J,Z,Z,Z,Z,Z,Z,Z,Z] rfl rfl ?_ ?_ ?_ ?_
          rotate_left
          · intro w'
            go_simp
            with_reducible rfl
          rotate_left
          · simp only [aP]
            rfl
          refine pu_ 9 93 ?_ #[J,J,J,J,Z,J,Z,J,J,J,Z,Z,Z,Z,Z,Z,Z] rfl rfl ?_ ?_ ?_ ?_
          rotate_left
          · intro w'
            go_simp
            with_reducible rfl
          rotate_left
          · simp only [aP]
            rfl
          refine ta_ 4 88 ?_ #[J,J,J,J,J,J,Z,J,J,J,Z,Z,Z,Z,Z,Z,Z] rfl rfl ?_ hHeld ?_ ?_ ?_
          rotate_left
          · rintro w' ⟨s0, s1, s2⟩
            go_simp
            with_reducible rfl
          rotate_left
          · simp only [aP]
            rfl
          refine ta_ 6 90 ?_ #[J,J,J,J,J,J,J,J,J,J,Z,Z,Z,Z,Z,Z,Z] rfl rfl ?_ hHeld ?_ ?_ ?_
          rotate_left
          · rintro w' ⟨s0, s1, s2⟩
            go_simp
            with_reducible rfl
          rotate_left
          · simp only [aP]
            rfl
          refine ta_ 10 94 ?_ #[J,J,J,J,J,J,J,J,J,J,J,Z,Z,Z,Z,Z,Z] rfl rfl ?_ hHeld ?_ ?_ ?_
          rotate_left
          · rintro w' ⟨s0, s1, s2⟩
            go_simp
            with_reducible rfl
          rotate_left
          · simp only [aP]
            rfl
          refine pu_ 11 95 ?_ #[J,J,J,J,J,J,J,J,J,J,J,J,Z,Z,Z,Z,Z] rfl rfl ?_ ?_ ?_ ?_
          rotate_left
          · intro w'
            go_simp
            with_reducible rfl
          rotate_left
          · simp only [aP]
            rfl
          refine one_ (i := 12) (N := some 96) #[J,J,J,J,J,J,J,J,J,J,J,J,J,Z,Z,Z,Z] rfl rfl (by kernel_rfl) (by decide) (fun K hK => ?_)
          have B5 := Aside0.mk (oneBk B4.out.drew ⟨63, d3, 0, false⟩)
          refine value_ (w1 := ?_) (v := ?_) (by rfl) rfl ?_ ?_
          rotate_left 2
          · go_simp
            constructor
            · rfl
            · rfl
          refine hK.out _ _ ⟨cell_later (below_alloc (Below.refl _ _) _) v1, cell_later (below_alloc (Below.refl _ _) _) v0, cell_later (below_alloc (Below.refl _ _) _) vt⟩ (fun hHeld => ?_)
          clear hK K
          refine norm_ (a' := ?_) ?_ ?_
          rotate_left
          · show Act.put _ (some 96) _ = _
            simp only [aP]
            rfl
          refine last_ (i := 13) (N := some 97) #[J,J,J,J,J,J,J,J,J,J,J,J,J,J,Z,Z,Z] rfl rfl (by kernel_rfl) (by decide) (fun K hK => ?_)
          refine (Sep.pull [_, _] B5.out).appendRawStep (by rfl) (.tmp 88) (.tmp 96) 76 (.agg #[.int .i32 0, .int .i64 0, .int .i64 0, .bool false]) 32 rfl Try.underlying76 infoBk rfl (by decide) (by decide) (some ⟨w4.drew.heap.size, 0, none⟩) 1 1 (by rfl) (by rfl) B5.out.rowC' (by have := HBL.out; rw [List.length_map]; simp; omega) ?_
          intro v6 w6 hS6
          obtain ⟨A6, c6, rfl⟩ := hS6.rowN (n := bs.length + 1) (by simp)
          have hf6 : w6.frozen? ⟨g, 1, none⟩ = false := Sep.frozen (Sep.pull [_, _] hS6) 1
          have hg6 : w6.cell? ⟨g, 1, none⟩ = some vo := (Sep.cell (Sep.pull [_, _] hS6) 1).trans rfl
          have B6 := Aside0.mk (Sep.setBlk (Sep.pull [_, _] hS6) 1 (.slice A6 (bs.length + 1) c6))
          clear hS6
          refine hK.out _ _ ?_
          clear hK K
          refine norm_ (a' := ?_) ?_ ?_
          rotate_left
          · show Act.put _ (some 97) _ = _
            simp only [aP]
            rfl
          refine pu_ 14 98 ?_ #[J,J,J,J,J,J,J,J,J,J,J,J,J,J,J,Z,Z] rfl rfl ?_ ?_ ?_ ?_
          rotate_left
          · intro w'
            go_simp
            with_reducible rfl
          rotate_left
          · simp only [aP]
            rfl
          refine pu_ 15 99 ?_ #[J,J,J,J,J,J,J,J,J,J,J,J,J,J,J,J,Z] rfl rfl ?_ ?_ ?_ ?_
          rotate_left
          · intro w'
            go_simp
            with_reducible rfl
          rotate_left
          · simp only [aP]
            rfl
          refine last_ (i := 16) (N := none) #[J,J,J,J,J,J,J,J,J,J,J,J,J,J,J,J,J] rfl rfl (by kernel_rfl) (by decide) (fun K hK => ?_)
          refine skip_ (w1 := ?_) (by rfl) rfl ?_ ?_
          rotate_left
          · go_simp
            rfl
          refine hK.out _ _ ?_
          clear hK K
          refine done_ (by kernel_rfl) ?_
          go_wp2_with fail
          go_ret
          exact fin (k := bs.length + 1) ⟨d3, .slice A6 (bs.length + 1) c6, bs ++ [⟨63, d3, 0, false⟩], by simp, by unfold StL; rw [List.map_append]; exact opened B6.out⟩ (fun _ => by simp [nx])
        have b63 : (r == 63) = false := by simp [h63]
        by_cases h91 : r = 91
        · subst h91
          have v1 : w4.drew.cell? ⟨g, 1, none⟩ = some vo := st_o B4.out.drew
          have v0 : w4.drew.cell? ⟨g, 0, none⟩ = some (.int .i64 d3) := st_h B4.out.drew
          have vt : w4.drew.cell? ⟨gu + 1, 0, none⟩ = some (.int .i32 91) := t4
          go_wp2_with fail
          refine start_ (n := 17) (S := fun w' => w'.cell? ⟨g, 1, none⟩ = some vo ∧ w'.cell? ⟨g, 0, none⟩ = some (.int .i64 d3) ∧ w'.cell? ⟨gu + 1, 0, none⟩ = some (.int .i32 91)) (ds := [13, 16]) #[Z,Z,Z,Z,Z,Z,Z,Z,Z,Z,Z,Z,Z,Z,Z,Z,Z] (by kernel_rfl) rfl rfl ⟨v1, v0, vt⟩ (fun hHeld => ?_)
          refine pu_ 0 84 ?_ #[J,Z,Z,Z,Z,Z,Z,Z,Z,Z,Z,Z,Z,Z,Z,Z,Z] rfl rfl ?_ ?_ ?_ ?_
          rotate_left
          · intro w'
            go_simp
            with_reducible rfl
          rotate_left
          · simp only [aP]
            rfl
          refine pu_ 1 85 ?_ #[J,J,Z,Z,Z,Z,Z,Z,Z,Z,Z,Z,Z,Z,Z,Z,Z] rfl rfl ?_ ?_ ?_ ?_
          rotate_left
          · intro w'
            go_simp
            with_reducible rfl
          rotate_left
          · simp only [aP]
            rfl
          refine pu_ 2 86 ?_ #[J,J,J,Z,Z,Z,Z,Z,Z,Z,Z,Z,Z,Z,Z,Z,Z] rfl rfl ?_ ?_ ?_ ?_
          rotate_left
          · intro w'
            go_simp
            with_reducible rfl
          rotate_left
          · simp only [aP]
            rfl
          refine pu_ 3 87 ?_ #[J,J,J,J,Z,Z,Z,Z,Z,Z,Z,Z,Z,Z,Z,Z,Z] rfl rfl ?_ ?_ ?_ ?_
          rotate_left
          · intro w'
            go_simp
            with_reducible rfl
          rotate_left
          · simp only [aP]
            rfl
          refine pu_ 5 89 ?_ #[J,J,J,J,Z,J,Z,Z,Z,Z,Z,Z,Z,Z,Z,Z,Z] rfl rfl ?_ ?_ ?_ ?_
          rotate_left
          · intro w'
            go_simp
            with_reducible rfl
          rotate_left
          · simp only [aP]
            rfl
          refine pu_ 7 91 ?_ #[J,J,J,J,Z,J,Z,J,Z,Z,Z,Z,Z,Z,Z,Z,Z] rfl rfl ?_ ?_ ?_ ?_
          rotate_left
          · intro w'
            go_simp
            with_reducible rfl
          rotate_left
          · simp only [aP]
            rfl
          refine pu_ 8 92 ?_ #[J,J,J,J,Z,J,Z,J,J,Z,Z,Z,Z,Z,Z,Z,Z] rfl rfl ?_ ?_ ?_ ?_
          rotate_left
          · intro w'
            go_simp
            with_reducible rfl
          rotate_left
          · simp only [aP]
            rfl
          refine pu_ 9 93 ?_ #[J,J,J,J,Z,J,Z,J,J,J,Z,Z,Z,Z,Z,Z,Z] rfl rfl ?_ ?_ ?_ ?_
          rotate_left
          · intro w'
            go_simp
            with_reducible rfl
          rotate_left
          · simp only [aP]
            rfl
          refine ta_ 4 88 ?_ #[J,J,J,J,J,J,Z,J,J,J,Z,Z,Z,Z,Z,Z,Z] rfl rfl ?_ hHeld ?_ ?_ ?_
          rotate_left
          · rintro w' ⟨s0, s1, s2⟩
            go_simp
            with_reducible rfl
          rotate_left
          · simp only [aP]
            rfl
          refine ta_ 6 90 ?_ #[J,J,J,J,J,J,J,J,J,J,Z,Z,Z,Z,Z,Z,Z] rfl rfl ?_ hHeld ?_ ?_ ?_
          rotate_left
          · rintro w' ⟨s0, s1, s2⟩
            go_simp
            with_reducible rfl
          rotate_left
          · simp only [aP]
            rfl
          refine ta_ 10 94 ?_ #[J,J,J,J,J,J,J,J,J,J,J,Z,Z,Z,Z,Z,Z] rfl rfl ?_ hHeld ?_ ?_ ?_
          rotate_left
          · rintro w' ⟨s0, s1, s2⟩
            go_simp
            with_reducible rfl
          rotate_left
          · simp only [aP]
            rfl
          refine pu_ 11 95 ?_ #[J,J,J,J,J,J,J,J,J,J,J,J,Z,Z,Z,Z,Z] rfl rfl ?_ ?_ ?_ ?_
          rotate_left
          · intro w'
            go_simp
            with_reducible rfl
          rotate_left
          · simp only [aP]
            rfl
          refine one_ (i := 12) (N := some 96) #[J,J,J,J,J,J,J,J,J,J,J,J,J,Z,Z,Z,Z] rfl rfl (by kernel_rfl) (by decide) (fun K hK => ?_)
          have B5 := Aside0.mk (oneBk B4.out.drew ⟨91, d3, 0, false⟩)
          refine value_ (w1 := ?_) (v := ?_) (by rfl) rfl ?_ ?_
          rotate_left 2
          · go_simp
            constructor
            · rfl
            · rfl
          refine hK.out _ _ ⟨cell_later (below_alloc (Below.refl _ _) _) v1, cell_later (below_alloc (Below.refl _ _) _) v0, cell_later (below_alloc (Below.refl _ _) _) vt⟩ (fun hHeld => ?_)
          clear hK K
          refine norm_ (a' := ?_) ?_ ?_
          rotate_left
          · show Act.put _ (some 96) _ = _
            simp only [aP]
            rfl
          refine last_ (i := 13) (N := some 97) #[J,J,J,J,J,J,J,J,J,J,J,J,J,J,Z,Z,Z] rfl rfl (by kernel_rfl) (by decide) (fun K hK => ?_)
          refine (Sep.pull [_, _] B5.out).appendRawStep (by rfl) (.tmp 88) (.tmp 96) 76 (.agg #[.int .i32 0, .int .i64 0, .int .i64 0, .bool false]) 32 rfl Try.underlying76 infoBk rfl (by decide) (by decide) (some ⟨w4.drew.heap.size, 0, none⟩) 1 1 (by rfl) (by rfl) B5.out.rowC' (by have := HBL.out; rw [List.length_map]; simp; omega) ?_
          intro v6 w6 hS6
          obtain ⟨A6, c6, rfl⟩ := hS6.rowN (n := bs.length + 1) (by simp)
          have hf6 : w6.frozen? ⟨g, 1, none⟩ = false := Sep.frozen (Sep.pull [_, _] hS6) 1
          have hg6 : w6.cell? ⟨g, 1, none⟩ = some vo := (Sep.cell (Sep.pull [_, _] hS6) 1).trans rfl
          have B6 := Aside0.mk (Sep.setBlk (Sep.pull [_, _] hS6) 1 (.slice A6 (bs.length + 1) c6))
          clear hS6
          refine hK.out _ _ ?_
          clear hK K
          refine norm_ (a' := ?_) ?_ ?_
          rotate_left
          · show Act.put _ (some 97) _ = _
            simp only [aP]
            rfl
          refine pu_ 14 98 ?_ #[J,J,J,J,J,J,J,J,J,J,J,J,J,J,J,Z,Z] rfl rfl ?_ ?_ ?_ ?_
          rotate_left
          · intro w'
            go_simp
            with_reducible rfl
          rotate_left
          · simp only [aP]
            rfl
          refine pu_ 15 99 ?_ #[J,J,J,J,J,J,J,J,J,J,J,J,J,J,J,J,Z] rfl rfl ?_ ?_ ?_ ?_
          rotate_left
          · intro w'
            go_simp
            with_reducible rfl
          rotate_left
          · simp only [aP]
            rfl
          refine last_ (i := 16) (N := none) #[J,J,J,J,J,J,J,J,J,J,J,J,J,J,J,J,J] rfl rfl (by kernel_rfl) (by decide) (fun K hK => ?_)
          refine skip_ (w1 := ?_) (by rfl) rfl ?_ ?_
          rotate_left
          · go_simp
            rfl
          refine hK.out _ _ ?_
          clear hK K
          refine done_ (by kernel_rfl) ?_
          go_wp2_with fail
          go_ret
          exact fin (k := bs.length + 1) ⟨d3, .slice A6 (bs.length + 1) c6, bs ++ [⟨91, d3, 0, false⟩], by simp, by unfold StL; rw [List.map_append]; exact opened B6.out⟩ (fun _ => by simp [nx])
        have b91 : (r == 91) = false := by simp [h91]
        have hnx : nx r bs.length = bs.length := by have := HR.out; unfold nx; rw [if_neg (by omega), if_neg (by omega)]
        have HNX := Aside0.mk hnx
        clear hnx
        by_cases h126 : r = 126
        · have b126 : (r == 126) = true := by simp [h126]
          clear h126
          go_wp2_with fail
          refine (leave_ B4.out).mono ?_
          rintro e w5 ⟨⟨b5, rfl⟩, hT⟩
          have BT := Aside0.mk hT
          clear hT
          cases b5 with
          | false =>
            go_wp2_with fail
            go_ret
            exact fin BT.out (fun h => by omega)
          | true =>
            go_wp2_with fail
            go_ret
            exact fin BT.out (fun _ => HNX.out.symm)
        have b126 : (r == 126) = false := by simp [h126]
        by_cases h161 : r = 161
        · have b161 : (r == 161) = true := by simp [h161]
          clear h161
          have x0 := st_h B4.out
          have xf := st_f B4.out 0
          go_wp2_with fail
          go_ret
          exact fin ⟨_, _, _, rfl, st_seth B4.out (-1)⟩ (fun _ => HNX.out.symm)
        · have b161 : (r == 161) = false := by simp [h161]
          go_wp2_with fail
          go_ret
          exact fin ⟨_, _, _, rfl, B4.out⟩ (fun _ => HNX.out.symm)
end
end Go.Proofs.Ytkkgfpdjlohojaa.Fn
namespace Go.Proofs.Ytkkgfpdjlohojaa.NestP
end Go.Proofs.Ytkkgfpdjlohojaa.NestP
