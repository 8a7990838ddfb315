/- Root5, Root6: what StoreNumbers needs. -/
import Derived.Test.YtjngnigelkgekaaGreatTstoreNumbers9
set_option linter.unusedVariables false
set_option linter.unusedSimpArgs false
namespace Go.Proofs.YtjngnigelkgekaaGreat.Root
open Go.RowKit Go.Proofs.YtjngnigelkgekaaGreatW.PrintWords Go.Proofs.YtjngnigelkgekaaGreatW.PrintLast Go.Proofs.YtjngnigelkgekaaGreatW.PrintMore Go.Proofs.YtjngnigelkgekaaGreat.Kit Go.Proofs.YtjngnigelkgekaaGreat.Base Go.Proofs.YtjngnigelkgekaaGreat.Plain Go.Proofs.YtjngnigelkgekaaGreat.Sum
set_option maxHeartbeats 800000 in
set_option maxRecDepth 100000 in
theorem unroot_ {A : Option Addr} {n c : Nat} {l : List Int} {w : World} (hr : U8.C w A n l) (hc : n ≤ c) (hb : Bytes l) :
    Calls Tryz.prog 110 #[.slice A n c] w fun e w' => e = .returned (readV l) ∧ Below w.heap.size w w' := by
  have hl : l.length = n := hr.1
  by_cases h64 : n = 64
  case neg =>
    have hv : Aside0 (unrootF l = none) := ⟨if_neg (fun h => h64 (hl.symm.trans h.1))⟩
    have h1 : ¬ (n : Int) = 64 := by omega
    have h2 : ((n : Int) != 64) = true := by simpa using h1
    clear hr hb hl
    go_enter Tryz.func110, Tryz.ntmps110
    go_wp2_with fail
    go_retc (.tuple #[.agg #[.int .i64 0, .int .i64 0, .int .u32 0], .bool false])
    exact ⟨by unfold readV; rw [hv.out]; rfl, below_alloc (Below.refl _ _) _⟩
  case pos =>
    subst h64
    have HR := Aside0.mk hr
    have HC := Aside0.mk hc
    have HB := Aside0.mk hb
    have HL := Aside0.mk hl
    have HI := Aside0.mk (And.intro (getF_rng hb 4) (And.intro (getF_rng hb 8) (getF_rng hb 12)))
    have hcut := cutHi (z := .int .u8 0) (bytes := 1) Tryz.underlying24 infoB A 64 c 4 (K := 4) rfl (by decide) hc
    have hs4 : (convert 24 9 (.slice A 4 c)).run Tryz.prog (w.alloc (.cells #[.int .i64 0, .int .i64 0, .int .u32 0] 80)) = .ok (.string (strOfNums (l.take 4))) (w.alloc (.cells #[.int .i64 0, .int .i64 0, .int .u32 0] 80)) :=
      Str.strC (Kd.C_alloc (C_hi (b := 4) hr (by decide) hc) _)
    have hq := Str.beq_bytes (hb.take 4) markL_bytes
    rw [show (strOfNums markL).toList = [69, 78, 71, 49] by rw [ByteArray.toList_eq]; rfl] at hq
    have hM : Aside0 (IsRoot l → l.take 4 = markL) := ⟨fun h => by rw [h.2.2.2]; rfl⟩
    have hU0 : Aside0 (¬ IsRoot l → unrootF l = none) := ⟨fun h => if_neg h⟩
    clear hr hb hl hc
    by_cases h4 : l.take 4 = markL
    case neg =>
      have HN : Aside0 (unrootF l = none) := ⟨hU0.out (fun h => h4 (hM.out h))⟩
      rw [decide_eq_false h4] at hq
      generalize strOfNums (l.take 4) = s4 at *
      clear h4
      go_enter Tryz.func110, Tryz.ntmps110
      go_wp2_with fail
      go_retc (.tuple #[.agg #[.int .i64 0, .int .i64 0, .int .u32 0], .bool false])
      exact ⟨by unfold readV; rw [HN.out]; rfl, below_alloc (Below.refl _ _) _⟩
    case pos =>
    rw [decide_eq_true h4] at hq
    generalize strOfNums (l.take 4) = s4 at *
    clear h4
    go_enter Tryz.func110, Tryz.ntmps110
    go_wp2_with fail
    have A0 := Aside0.mk ((Sep.start w).newBlk 80 #[.int .i64 0, .int .i64 0, .int .u32 0])
    refine (rget_ (l := l) (a := 4) (Kd.C_below HR.out A0.out.toBelow) HB.out).mono ?_
    rintro e w1 ⟨rfl, hb1⟩
    have A1 := Aside0.mk (A0.out.below hb1)
    have hx1 : IntKind.i64.wrap (getF l 4) = getF l 4 := by have := HI.out.1; rw [IntKind.wrap_i64]; omega
    have hx2 : IntKind.i64.wrap (getF l 8) = getF l 8 := by have := HI.out.2.1; rw [IntKind.wrap_i64]; omega
    clear hb1 hcut hs4 hq
    go_wp2_with fail
    refine (rget_ (l := l) (a := 8) (Kd.C_below HR.out A1.out.toBelow) HB.out).mono ?_
    rintro e w2 ⟨rfl, hb2⟩
    have A2 := Aside0.mk (A1.out.below hb2)
    clear hb2
    go_wp2_with fail
    refine (rget_ (l := l) (a := 12) (Kd.C_below HR.out A2.out.toBelow) HB.out).mono ?_
    rintro e w3 ⟨rfl, hb3⟩
    have A3 := Aside0.mk (A2.out.below hb3)
    clear hb3
    have hU : Aside0 (∀ h : IsRoot l, unrootF l = some (getF l 4, getF l 8, getF l 12)) := ⟨fun h => if_pos h⟩
    have hIR : Aside0 (IsRoot l ↔ getF l 4 ≤ 2147483647 ∧ getF l 8 ≤ 2147483647 ∧ l = rootF (getF l 4) (getF l 8) (getF l 12)) := ⟨⟨fun h => h.2, fun h => ⟨HL.out, h⟩⟩⟩
    generalize getF l 4 = x at *
    generalize getF l 8 = y at *
    generalize getF l 12 = z at *
    have A4 := Aside0.mk (A3.out.newBlk 80 #[.int .i64 x, .int .i64 y, .int .u32 z])
    have u0 : ∀ q, ((w3.alloc (.cells #[.int .i64 x, .int .i64 y, .int .u32 z] 80)).drewN q).cell? ⟨w3.heap.size, 0, none⟩ = some (.int .i64 x) := fun q => ((A4.out.drewN q).cell 0).trans rfl
    have u1 : ∀ q, ((w3.alloc (.cells #[.int .i64 x, .int .i64 y, .int .u32 z] 80)).drewN q).cell? ⟨w3.heap.size, 1, none⟩ = some (.int .i64 y) := fun q => ((A4.out.drewN q).cell 1).trans rfl
    by_cases hx : 2147483647 < x
    case pos =>
      have HN : Aside0 (unrootF l = none) := ⟨hU0.out (fun h => by have := (hIR.out.1 h).1; omega)⟩
      have hd : decide (2147483647 < x) = true := decide_eq_true hx
      go_wp2_with fail
      go_quiet (fail)
      have A5 := A4.out.drewN nq
      obtain ⟨w5, hw5⟩ : ∃ w5, (w3.alloc (.cells #[.int .i64 x, .int .i64 y, .int .u32 z] 80)).drewN nq = w5 := ⟨_, rfl⟩
      rw [hw5] at A5 ⊢
      clear hw5 u0 u1
      have A6 := A5.at2
      obtain ⟨c0, f0, c1, f1, c2, f2, hS4⟩ := store3 (.int .i64 0) (.int .i64 0) (.int .u32 0) A6
      obtain ⟨w4, hw4⟩ : ∃ w4, (((w5.setCell ⟨w.heap.size, 0, none⟩ (.int .i64 0)).setCell ⟨w.heap.size, 1, none⟩ (.int .i64 0)).setCell ⟨w.heap.size, 2, none⟩ (.int .u32 0)) = w4 := ⟨_, rfl⟩
      rw [hw4] at hS4
      have r0 := (hS4.cell 0).trans rfl
      have r1 := (hS4.cell 1).trans rfl
      have r2 := (hS4.cell 2).trans rfl
      have B4 := Aside0.mk hS4
      clear hS4 A5 A6
      go_wp2_with fail
      go_retc (.tuple #[.agg #[.int .i64 0, .int .i64 0, .int .u32 0], .bool false])
      exact ⟨by unfold readV; rw [HN.out]; rfl, B4.out.toBelow⟩
    case neg =>
    have hd : decide (2147483647 < x) = false := decide_eq_false hx
    by_cases hy : 2147483647 < y
    case pos =>
      have HN : Aside0 (unrootF l = none) := ⟨hU0.out (fun h => by have := (hIR.out.1 h).2.1; omega)⟩
      have hd2 : decide (2147483647 < y) = true := decide_eq_true hy
      go_wp2_with fail
      go_quiet (fail)
      have A5 := A4.out.drewN nq
      obtain ⟨w5, hw5⟩ : ∃ w5, (w3.alloc (.cells #[.int .i64 x, .int .i64 y, .int .u32 z] 80)).drewN nq = w5 := ⟨_, rfl⟩
      rw [hw5] at A5 ⊢
      clear hw5 u0 u1
      have A6 := A5.at2
      obtain ⟨c0, f0, c1, f1, c2, f2, hS4⟩ := store3 (.int .i64 0) (.int .i64 0) (.int .u32 0) A6
      obtain ⟨w4, hw4⟩ : ∃ w4, (((w5.setCell ⟨w.heap.size, 0, none⟩ (.int .i64 0)).setCell ⟨w.heap.size, 1, none⟩ (.int .i64 0)).setCell ⟨w.heap.size, 2, none⟩ (.int .u32 0)) = w4 := ⟨_, rfl⟩
      rw [hw4] at hS4
      have r0 := (hS4.cell 0).trans rfl
      have r1 := (hS4.cell 1).trans rfl
      have r2 := (hS4.cell 2).trans rfl
      have B4 := Aside0.mk hS4
      clear hS4 A5 A6
      go_wp2_with fail
      go_retc (.tuple #[.agg #[.int .i64 0, .int .i64 0, .int .u32 0], .bool false])
      exact ⟨by unfold readV; rw [HN.out]; rfl, B4.out.toBelow⟩
    case neg =>
    have hd2 : decide (2147483647 < y) = false := decide_eq_false hy
    have hm1 := m32_id HI.out.1.1 HI.out.1.2
    have hm2 := m32_id HI.out.2.1.1 HI.out.2.1.2
    have HM := Aside0.mk (And.intro hm1 hm2)
    have hqq := Str.beq_bytes (rootF_bytes x y z) HB.out
    have HQ := Aside0.mk hqq
    have A4d := Aside0.mk A4.out.drew
    clear hm1 hm2 hqq u0 u1
    go_wp2_with fail
    refine start_ (n := 16) (S := fun w' => w'.cell? ⟨w3.heap.size, 0, none⟩ = some (.int .i64 x) ∧ w'.cell? ⟨w3.heap.size, 1, none⟩ = some (.int .i64 y) ∧ w'.cell? ⟨w3.heap.size, 2, none⟩ = some (.int .u32 z) ∧ (convert 24 9 (.slice A 64 c)).run Tryz.prog w' = .ok (.string (strOfNums l)) w') (ds := []) #[Z,Z,Z,Z,Z,Z,Z,Z,Z,Z,Z,Z,Z,Z,Z,Z] (by kernel_rfl) rfl rfl ⟨(A4d.out.cell 0).trans rfl, (A4d.out.cell 1).trans rfl, (A4d.out.cell 2).trans rfl, Str.strC (Kd.C_below HR.out A4d.out.toBelow)⟩ (fun hHeld => ?_)
    refine pu_ 0 24 ?_ #[J,Z,Z,Z,Z,Z,Z,Z,Z,Z,Z,Z,Z,Z,Z,Z] rfl rfl ?_ ?_ ?_ ?_
    rotate_left
    · intro w'
      go_simp
      with_reducible rfl
    rotate_left
    · simp only [aP]
      rfl
    refine ta_ 1 25 ?_ #[J,J,Z,Z,Z,Z,Z,Z,Z,Z,Z,Z,Z,Z,Z,Z] rfl rfl ?_ hHeld ?_ ?_ ?_
    rotate_left
    · rintro w' ⟨s0, s1, s2, s3⟩
      go_simp
      with_reducible rfl
    rotate_left
    · simp only [aP]
      rfl
    refine pu_ 2 26 ?_ #[J,J,J,Z,Z,Z,Z,Z,Z,Z,Z,Z,Z,Z,Z,Z] rfl rfl ?_ ?_ ?_ ?_
    rotate_left
    · intro w'
      go_simp
      with_reducible rfl
    rotate_left
    · simp only [aP]
      rfl
    refine pu_ 3 27 ?_ #[J,J,J,J,Z,Z,Z,Z,Z,Z,Z,Z,Z,Z,Z,Z] rfl rfl ?_ ?_ ?_ ?_
    rotate_left
    · intro w'
      go_simp
      with_reducible rfl
    rotate_left
    · simp only [aP]
      rfl
    refine pu_ 4 28 ?_ #[J,J,J,J,J,Z,Z,Z,Z,Z,Z,Z,Z,Z,Z,Z] rfl rfl ?_ ?_ ?_ ?_
    rotate_left
    · intro w'
      go_simp
      with_reducible rfl
    rotate_left
    · simp only [aP]
      rfl
    refine ta_ 5 29 ?_ #[J,J,J,J,J,J,Z,Z,Z,Z,Z,Z,Z,Z,Z,Z] rfl rfl ?_ hHeld ?_ ?_ ?_
    rotate_left
    · rintro w' ⟨s0, s1, s2, s3⟩
      go_simp
      with_reducible rfl
    rotate_left
    · simp only [aP]
      rfl
    refine pu_ 6 30 ?_ #[J,J,J,J,J,J,J,Z,Z,Z,Z,Z,Z,Z,Z,Z] rfl rfl ?_ ?_ ?_ ?_
    rotate_left
    · intro w'
      go_simp
      with_reducible rfl
    rotate_left
    · simp only [aP]
      rfl
    refine pu_ 7 31 ?_ #[J,J,J,J,J,J,J,J,Z,Z,Z,Z,Z,Z,Z,Z] rfl rfl ?_ ?_ ?_ ?_
    rotate_left
    · intro w'
      go_simp
      with_reducible rfl
    rotate_left
    · simp only [aP]
      rfl
    refine pu_ 8 32 ?_ #[J,J,J,J,J,J,J,J,J,Z,Z,Z,Z,Z,Z,Z] rfl rfl ?_ ?_ ?_ ?_
    rotate_left
    · intro w'
      go_simp
      with_reducible rfl
    rotate_left
    · simp only [aP]
      rfl
    refine pu_ 12 36 ?_ #[J,J,J,J,J,J,J,J,J,Z,Z,Z,J,Z,Z,Z] rfl rfl ?_ ?_ ?_ ?_
    rotate_left
    · intro w'
      go_simp
      with_reducible rfl
    rotate_left
    · simp only [aP]
      rfl
    refine ta_ 9 33 ?_ #[J,J,J,J,J,J,J,J,J,J,Z,Z,J,Z,Z,Z] rfl rfl ?_ hHeld ?_ ?_ ?_
    rotate_left
    · rintro w' ⟨s0, s1, s2, s3⟩
      go_simp
      with_reducible rfl
    rotate_left
    · simp only [aP]
      rfl
    refine ta_ 13 37 ?_ #[J,J,J,J,J,J,J,J,J,J,Z,Z,J,J,Z,Z] rfl rfl ?_ hHeld ?_ ?_ ?_
    rotate_left
    · rintro w' ⟨s0, s1, s2, s3⟩
      go_simp
      with_reducible rfl
    rotate_left
    · simp only [aP]
      rfl
    refine one_ (i := 10) (N := some 34) #[J,J,J,J,J,J,J,J,J,J,J,Z,J,J,Z,Z] rfl rfl (by kernel_rfl) (by decide) (fun K hK => ?_)
    refine goes_ Tryz.func45 (by kernel_rfl) rfl #[.agg #[.int .i64 x, .int .i64 y, .int .u32 z]] (by rfl) rfl rfl (by simp only [List.map_toArray, List.map_cons, List.map_nil]; rfl) ?_
    with_reducible refine (rroot_ x y z HI.out.2.2 _).mono ?_
    rintro e w5 ⟨v5, rfl, hS5⟩
    refine ⟨_, rfl, ?_⟩
    rw [HM.out.1, HM.out.2] at hS5
    obtain ⟨A5, c5, rfl⟩ := hS5.rowN (n := 64) (rootF_len _ _ _)
    have B5 := Aside0.mk (A4d.out.lift1 hS5)
    have hs5 := Str.strC (c := c5) B5.out.rowC'
    clear hS5
    refine hK.out _ _ ⟨(B5.out.at2.cell 0).trans rfl, (B5.out.at2.cell 1).trans rfl, (B5.out.at2.cell 2).trans rfl, Str.strC (Kd.C_below HR.out B5.out.toBelow)⟩ (fun hHeld => ?_)
    clear hK K
    refine norm_ (a' := ?_) ?_ ?_
    rotate_left
    · show Act.put _ (some 34) _ = _
      simp only [aP]
      rfl
    refine one_ (i := 11) (N := some 35) #[J,J,J,J,J,J,J,J,J,J,J,J,J,J,Z,Z] rfl rfl (by kernel_rfl) (by decide) (fun K hK => ?_)
    refine value_ (w1 := ?_) (v := ?_) (by rfl) rfl ?_ ?_
    rotate_left 2
    · go_simp
      constructor
      · rfl
      · rfl
    refine hK.out _ _ ⟨(B5.out.at2.cell 0).trans rfl, (B5.out.at2.cell 1).trans rfl, (B5.out.at2.cell 2).trans rfl, Str.strC (Kd.C_below HR.out B5.out.toBelow)⟩ (fun hHeld => ?_)
    clear hK K
    refine norm_ (a' := ?_) ?_ ?_
    rotate_left
    · show Act.put _ (some 35) _ = _
      simp only [aP]
      rfl
    refine pu_ 14 38 ?_ #[J,J,J,J,J,J,J,J,J,J,J,J,J,J,J,Z] rfl rfl ?_ ?_ ?_ ?_
    rotate_left
    · intro w'
      go_simp
      with_reducible rfl
    rotate_left
    · simp only [aP]
      rfl
    refine pu_ 15 39 ?_ #[J,J,J,J,J,J,J,J,J,J,J,J,J,J,J,J] rfl rfl ?_ ?_ ?_ ?_
    rotate_left
    · intro w'
      go_simp
      with_reducible rfl
    rotate_left
    · simp only [aP]
      rfl
    refine done_ (by kernel_rfl) ?_
    have hqq := HQ.out
    by_cases he : rootF x y z = l
    case pos =>
      have HN : Aside0 (unrootF l = some (x, y, z)) := ⟨hU.out (hIR.out.2 ⟨by omega, by omega, he.symm⟩)⟩
      rw [decide_eq_true he] at hqq
      rw [hqq, Bool.not_true]
      clear he
      generalize strOfNums (rootF x y z) = sa at *
      generalize strOfNums l = sb at *
      obtain ⟨c0, f0, c1, f1, c2, f2, hS4⟩ := store3 (.int .i64 x) (.int .i64 y) (.int .u32 z) B5.out.at3
      obtain ⟨w4, hw4⟩ : ∃ w4, (((w5.setCell ⟨w.heap.size, 0, none⟩ (.int .i64 x)).setCell ⟨w.heap.size, 1, none⟩ (.int .i64 y)).setCell ⟨w.heap.size, 2, none⟩ (.int .u32 z)) = w4 := ⟨_, rfl⟩
      rw [hw4] at hS4
      have r0 := (hS4.cell 0).trans rfl
      have r1 := (hS4.cell 1).trans rfl
      have r2 := (hS4.cell 2).trans rfl
      have B4 := Aside0.mk hS4
      have l0 : w5.cell? ⟨w3.heap.size, 0, none⟩ = some (.int .i64 x) := (B5.out.at2.cell 0).trans rfl
      have l1 : w5.cell? ⟨w3.heap.size, 1, none⟩ = some (.int .i64 y) := (B5.out.at2.cell 1).trans rfl
      have l2 : w5.cell? ⟨w3.heap.size, 2, none⟩ = some (.int .u32 z) := (B5.out.at2.cell 2).trans rfl
      clear hS4
      go_wp2_with fail
      go_retc (.tuple #[.agg #[.int .i64 x, .int .i64 y, .int .u32 z], .bool true])
      exact ⟨by unfold readV; rw [HN.out]; rfl, B4.out.toBelow⟩
    case neg =>
      have HN : Aside0 (unrootF l = none) := ⟨hU0.out (fun h => he (hIR.out.1 h).2.2.symm)⟩
      rw [decide_eq_false he] at hqq
      rw [hqq, Bool.not_false]
      clear he
      generalize strOfNums (rootF x y z) = sa at *
      generalize strOfNums l = sb at *
      obtain ⟨c0, f0, c1, f1, c2, f2, hS4⟩ := store3 (.int .i64 0) (.int .i64 0) (.int .u32 0) B5.out.at3
      obtain ⟨w4, hw4⟩ : ∃ w4, (((w5.setCell ⟨w.heap.size, 0, none⟩ (.int .i64 0)).setCell ⟨w.heap.size, 1, none⟩ (.int .i64 0)).setCell ⟨w.heap.size, 2, none⟩ (.int .u32 0)) = w4 := ⟨_, rfl⟩
      rw [hw4] at hS4
      have r0 := (hS4.cell 0).trans rfl
      have r1 := (hS4.cell 1).trans rfl
      have r2 := (hS4.cell 2).trans rfl
      have B4 := Aside0.mk hS4
      clear hS4
      go_wp2_with fail
      go_retc (.tuple #[.agg #[.int .i64 0, .int .i64 0, .int .u32 0], .bool false])
      exact ⟨by unfold readV; rw [HN.out]; rfl, B4.out.toBelow⟩
end Go.Proofs.YtjngnigelkgekaaGreat.Root
namespace Go.Proofs.YtjngnigelkgekaaGreat.Root
open Go.RowKit Go.Proofs.YtjngnigelkgekaaGreatW.PrintWords Go.Proofs.YtjngnigelkgekaaGreatW.PrintLast Go.Proofs.YtjngnigelkgekaaGreatW.PrintMore Go.Proofs.YtjngnigelkgekaaGreat.Kit Go.Proofs.YtjngnigelkgekaaGreat.Plain Go.Proofs.YtjngnigelkgekaaGreat.Disk
def secF (n : Nat) (las : List Int) (wt : Wt) (j : Nat) : List Int := if j < n then (wt j).getD (sec las j) else []
def bestTo (n : Int) (s : Nat → List Int) : Nat → R3
  | 0 => (0, 0, 0)
  | j + 1 => pickF n (bestTo n s j) (s j)
theorem secF_len {n : Nat} {las : List Int} {wt : Wt} (hl : las.length = 64 * n) (hw : ∀ i b, wt i = some b → b.length = 64) (j : Nat) : (secF n las wt j).length = if j < n then 64 else 0 := by
  unfold secF
  by_cases h : j < n
  · rw [if_pos h, if_pos h]; exact Ref.got_len hl hw h
  · rw [if_neg h, if_neg h]; rfl
section
variable {w0 W : World} {F : List HP} {g n : Nat} {las : List Int} {wt : Wt}
theorem dread_ (h : Sep w0 W (Dsk g las wt :: F)) (hl : las.length = 64 * n) (hw : ∀ i b, wt i = some b → b.length = 64) (j : Nat) :
    Calls Tryz.prog 108 #[.pointer (some ⟨g, 0, none⟩), .int .i64 (j : Int)] W fun e w' => ∃ A m c ok, e = .returned (.tuple #[.slice A m c, .bool ok]) ∧ m ≤ c ∧ U8.C w' A m (secF n las wt j) ∧ Sep w0 w' (Dsk g las wt :: F) := by
  by_cases hj : j < n
  · refine (read_in h j (by omega)).mono ?_
    rintro e w' ⟨v, rfl, hS⟩
    obtain ⟨A, c, rfl⟩ := hS.rowV
    have hC := hS.rowC
    exact ⟨A, _, c, true, rfl, hC.2.1, by unfold secF; rw [if_pos hj]; exact hC.2.2, hS.tail⟩
  · refine (read_out h (j : Int) (by omega)).mono ?_
    rintro e w' ⟨rfl, rfl⟩
    exact ⟨none, 0, 0, false, rfl, Nat.le_refl _, by unfold secF; rw [if_neg hj]; exact Kd.C_nil _ _, h⟩
theorem pick_none {m : Int} {b : R3} {l : List Int} (h : unrootF l = none) : pickF m b l = b := by unfold pickF; rw [h]
theorem pick_no {m : Int} {b r : R3} {l : List Int} (h : unrootF l = some r) (h2 : ¬ (rightR r.1 r.2.1 r.2.2 m = true ∧ b.2.2 < r.2.2)) : pickF m b l = b := by unfold pickF; rw [h]; exact if_neg h2
theorem pick_yes {m : Int} {b r : R3} {l : List Int} (h : unrootF l = some r) (h2 : rightR r.1 r.2.1 r.2.2 m = true) (h3 : b.2.2 < r.2.2) : pickF m b l = r := by unfold pickF; rw [h]; exact if_pos ⟨h2, h3⟩
theorem readV_none {l : List Int} (h : unrootF l = none) : readV l = .tuple #[.agg #[.int .i64 0, .int .i64 0, .int .u32 0], .bool false] := by unfold readV; rw [h]; rfl
theorem readV_some {l : List Int} {x y z : Int} (h : unrootF l = some (x, y, z)) : readV l = .tuple #[.agg #[.int .i64 x, .int .i64 y, .int .u32 z], .bool true] := by unfold readV; rw [h]; rfl
set_option maxHeartbeats 1600000 in
set_option maxRecDepth 100000 in
theorem best_ (h : Sep w0 W (Dsk g las wt :: F)) (hl : las.length = 64 * n) (hn : n ≤ 160) (hw : ∀ i b, wt i = some b → b.length = 64) (hb : ∀ j, Bytes (secF n las wt j)) :
    Calls Tryz.prog 99 #[.pointer (some ⟨g, 0, none⟩)] W fun e w' => e = .returned (.tuple #[rootV (bestTo n (secF n las wt) 2), .bool (decide (0 < (bestTo n (secF n las wt) 2).2.2))]) ∧ Sep w0 w' (Dsk g las wt :: F) := by
  have A0 := (h.newBlk 80 #[.int .i64 0, .int .i64 0, .int .u32 0]).newBlk 80 #[.int .i64 0, .int .i64 0, .int .u32 0]
  rw [show ∀ o : Obj, (W.alloc o).heap.size = W.heap.size + 1 from fun o => by simp] at A0
  have A0' := Aside0.mk A0
  have HLN : Aside0 ((las.length : Int) / 64 = (n : Int)) := ⟨by omega⟩
  have HB := Aside0.mk hb
  have HW := Aside0.mk hw
  have HL := Aside0.mk hl
  clear h A0 hb hw hl
  obtain ⟨s, hs⟩ : ∃ s, secF n las wt = s := ⟨_, rfl⟩
  have HS := Aside0.mk hs
  rw [hs]
  rw [hs] at HB
  clear hs
  go_enter Tryz.func99, Tryz.ntmps99
  go_wp2_with fail
  go_loopg [13] 2 (fun m p wr => ∃ (j : Nat) (x y z : Int), p = .int .i64 (j : Int) ∧ j + m = 2 ∧ bestTo n s j = (x, y, z) ∧ Sep w0 wr (Blk (W.heap.size + 1) 80 #[.int .i64 x, .int .i64 y, .int .u32 z] :: Blk W.heap.size 80 #[.int .i64 0, .int .i64 0, .int .u32 0] :: Dsk g las wt :: F))
  case atStart => exact ⟨0, 0, 0, 0, rfl, rfl, rfl, A0'.out⟩
  case round =>
    obtain ⟨j, bx, by_, bz, rfl, hjm, hbt, hS⟩ := hrel
    have AK := Aside0.mk hjm
    have HBT := Aside0.mk hbt
    have AS := Aside0.mk hS
    clear hS hbt
    by_cases hj : j < 2
    · have hj2 : (j : Int) < 2 := by omega
      have HST : Aside0 (bestTo n s (j + 1) = pickF n (bestTo n s j) (s j)) := ⟨rfl⟩
      clear hjm
      go_wp2_with fail
      refine (dread_ AS.out.at3 HL.out HW.out j).mono ?_
      rintro e w1 ⟨A1, m1, c1, ok, rfl, hmc, hC1, hS1⟩
      rw [HS.out] at hC1
      have HBj := Aside0.mk (HB.out j)
      have B1 := Aside0.mk hS1
      have HC1 := Aside0.mk (And.intro hC1 hmc)
      obtain ⟨l, hlj⟩ : ∃ l, s j = l := ⟨_, rfl⟩
      rw [hlj] at HC1 HST HBj
      clear hS1 hC1 hmc hlj
      go_wp2_with fail
      refine (read_ HC1.out.1 HC1.out.2 HBj.out).mono ?_
      rintro e w2 ⟨rfl, hb2⟩
      have B2 := Aside0.mk (B1.out.below hb2)
      clear hb2
      cases hu : unrootF l with
      | none =>
        rw [readV_none hu]
        have HST2 := Aside0.mk (HST.out.trans (pick_none hu))
        have B3 := Aside0.mk (B2.out.newBlk 80 #[.int .i64 0, .int .i64 0, .int .u32 0])
        clear hu
        go_wp2_with fail
        go_quiet (fail)
        have B4 := Aside0.mk ((B3.out.drewN nq).tail.at2.at3)
        go_wp2_with fail
        go_roundg (gk - 1)
        case measure => have := AK.out; omega
        case rel => exact ⟨j + 1, bx, by_, bz, by go_num, by have := AK.out; omega, by rw [HST2.out, HBT.out], by first | exact B4.out | exact B4.out.at2 | exact B4.out.at3⟩
      | some r =>
        obtain ⟨x, y, z⟩ := r
        rw [readV_some hu]
        have HU := Aside0.mk hu
        have B3 := Aside0.mk (B2.out.newBlk 80 #[.int .i64 x, .int .i64 y, .int .u32 z]).drew
        clear hu
        cases hrt : rightR x y z n with
        | false =>
          have HRT := Aside0.mk hrt
          clear hrt
          go_wp2_with fail
          refine start_ (n := 14) (S := fun w' => w'.cell? ⟨w2.heap.size, 0, none⟩ = some (.int .i64 x) ∧ w'.cell? ⟨w2.heap.size, 1, none⟩ = some (.int .i64 y) ∧ w'.cell? ⟨w2.heap.size, 2, none⟩ = some (.int .u32 z)) (ds := [5]) #[Z,Z,Z,Z,Z,Z,Z,Z,Z,Z,Z,Z,Z,Z] (by kernel_rfl) rfl rfl ⟨(B3.out.cell 0).trans rfl, (B3.out.cell 1).trans rfl, (B3.out.cell 2).trans rfl⟩ (fun hHeld => ?_)
          refine pu_ 0 27 ?_ #[J,Z,Z,Z,Z,Z,Z,Z,Z,Z,Z,Z,Z,Z] rfl rfl ?_ ?_ ?_ ?_
          rotate_left
          · intro w'
            go_simp
            with_reducible rfl
          rotate_left
          · simp only [aP]
            rfl
          refine pu_ 1 28 ?_ #[J,J,Z,Z,Z,Z,Z,Z,Z,Z,Z,Z,Z,Z] rfl rfl ?_ ?_ ?_ ?_
          rotate_left
          · intro w'
            go_simp
            with_reducible rfl
          rotate_left
          · simp only [aP]
            rfl
          refine pu_ 3 30 ?_ #[J,J,Z,J,Z,Z,Z,Z,Z,Z,Z,Z,Z,Z] rfl rfl ?_ ?_ ?_ ?_
          rotate_left
          · intro w'
            go_simp
            with_reducible rfl
          rotate_left
          · simp only [aP]
            rfl
          refine ta_ 2 29 ?_ #[J,J,J,J,Z,Z,Z,Z,Z,Z,Z,Z,Z,Z] rfl rfl ?_ hHeld ?_ ?_ ?_
          rotate_left
          · rintro w' ⟨s0, s1, s2⟩
            go_simp
            with_reducible rfl
          rotate_left
          · simp only [aP]
            rfl
          refine one_ (i := 4) (N := some 31) #[J,J,J,J,J,Z,Z,Z,Z,Z,Z,Z,Z,Z] rfl rfl (by kernel_rfl) (by decide) (fun K hK => ?_)
          refine goes_ Tryz.func65 (by kernel_rfl) rfl #[.pointer (some ⟨g, 0, none⟩)] (by rfl) rfl rfl (by simp only [List.map_toArray, List.map_cons, List.map_nil]; rfl) ?_
          with_reducible refine (len_ B3.out.at2).mono ?_
          rintro e w4 ⟨rfl, rfl⟩
          refine ⟨_, rfl, ?_⟩
          rw [HLN.out]
          refine hK.out _ _ ⟨(B3.out.cell 0).trans rfl, (B3.out.cell 1).trans rfl, (B3.out.cell 2).trans rfl⟩ (fun hHeld => ?_)
          clear hK K
          refine norm_ (a' := ?_) ?_ ?_
          rotate_left
          · show Act.put _ (some 31) _ = _
            simp only [aP]
            rfl
          refine last_ (i := 5) (N := some 32) #[J,J,J,J,J,J,Z,Z,Z,Z,Z,Z,Z,Z] rfl rfl (by kernel_rfl) (by decide) (fun K hK => ?_)
          refine goes_ Tryz.func64 (by kernel_rfl) rfl #[.agg #[.int .i64 x, .int .i64 y, .int .u32 z], .int .i64 (n : Int)] (by rfl) rfl rfl (by simp only [List.map_toArray, List.map_cons, List.map_nil]; rfl) ?_
          with_reducible refine (right_ x y z (n : Int) _).mono ?_
          rintro e w5 ⟨rfl, hb5⟩
          refine ⟨_, rfl, ?_⟩
          rw [HRT.out]
          have B5 := Aside0.mk (B3.out.below hb5)
          clear hb5
          refine hK.out _ _ ?_
          clear hK K
          refine norm_ (a' := ?_) ?_ ?_
          rotate_left
          · show Act.put _ (some 32) _ = _
            simp only [aP]
            rfl
          refine pu_ 6 33 ?_ #[J,J,J,J,J,J,J,Z,Z,Z,Z,Z,Z,Z] rfl rfl ?_ ?_ ?_ ?_
          rotate_left
          · intro w'
            go_simp
            with_reducible rfl
          rotate_left
          · simp only [aP]
            rfl
          refine pu_ 7 34 ?_ #[J,J,J,J,J,J,J,J,Z,Z,Z,Z,Z,Z] rfl rfl ?_ ?_ ?_ ?_
          rotate_left
          · intro w'
            go_simp
            with_reducible rfl
          rotate_left
          · simp only [aP]
            rfl
          refine pure_ (i := 8) (N := some 35) (v := undef) (a' := ?_) #[J,J,J,J,J,J,J,J,J,Z,Z,Z,Z,Z] rfl rfl (by kernel_rfl) (fun _ _ _ h => h) (Or.inr ⟨by rfl, rfl⟩) ?_ ?_
          rotate_left
          · simp only [aP]
            rfl
          refine pure_ (i := 9) (N := some 36) (v := undef) (a' := ?_) #[J,J,J,J,J,J,J,J,J,J,Z,Z,Z,Z] rfl rfl (by kernel_rfl) (fun _ _ _ h => h) (Or.inr ⟨by rfl, rfl⟩) ?_ ?_
          rotate_left
          · simp only [aP]
            rfl
          refine pure_ (i := 10) (N := some 37) (v := undef) (a' := ?_) #[J,J,J,J,J,J,J,J,J,J,J,Z,Z,Z] rfl rfl (by kernel_rfl) (fun _ _ _ h => h) (Or.inr ⟨by rfl, rfl⟩) ?_ ?_
          rotate_left
          · simp only [aP]
            rfl
          refine pure_ (i := 11) (N := some 38) (v := undef) (a' := ?_) #[J,J,J,J,J,J,J,J,J,J,J,J,Z,Z] rfl rfl (by kernel_rfl) (fun _ _ _ h => h) (Or.inr ⟨by rfl, rfl⟩) ?_ ?_
          rotate_left
          · simp only [aP]
            rfl
          refine pure_ (i := 12) (N := some 39) (v := undef) (a' := ?_) #[J,J,J,J,J,J,J,J,J,J,J,J,J,Z] rfl rfl (by kernel_rfl) (fun _ _ _ h => h) (Or.inr ⟨by rfl, rfl⟩) ?_ ?_
          rotate_left
          · simp only [aP]
            rfl
          refine pu_ 13 40 ?_ #[J,J,J,J,J,J,J,J,J,J,J,J,J,J] rfl rfl ?_ ?_ ?_ ?_
          rotate_left
          · intro w'
            go_simp
            with_reducible rfl
          rotate_left
          · simp only [aP]
            rfl
          refine done_ (by kernel_rfl) ?_
          have HST2 := Aside0.mk (HST.out.trans (pick_no HU.out (fun h => by have := HRT.out.symm.trans h.1; cases this)))
          go_wp2_with fail
          go_roundg (gk - 1)
          case measure => have := AK.out; omega
          case rel => exact ⟨j + 1, bx, by_, bz, by go_num, by have := AK.out; omega, by rw [HST2.out, HBT.out], B5.out.at3.drop2.sw23⟩
        | true =>
          have HRT := Aside0.mk hrt
          clear hrt
          by_cases hz : bz < z
          case neg =>
            have hzd : decide (bz < z) = false := decide_eq_false hz
            go_wp2_with fail
            refine start_ (n := 14) (S := fun w' => w'.cell? ⟨w2.heap.size, 0, none⟩ = some (.int .i64 x) ∧ w'.cell? ⟨w2.heap.size, 1, none⟩ = some (.int .i64 y) ∧ w'.cell? ⟨w2.heap.size, 2, none⟩ = some (.int .u32 z) ∧ w'.cell? ⟨W.heap.size + 1, 2, none⟩ = some (.int .u32 bz)) (ds := []) #[Z,Z,Z,Z,Z,Z,Z,Z,Z,Z,Z,Z,Z,Z] (by kernel_rfl) rfl rfl ⟨(B3.out.cell 0).trans rfl, (B3.out.cell 1).trans rfl, (B3.out.cell 2).trans rfl, (B3.out.at3.cell 2).trans rfl⟩ (fun hHeld => ?_)
            refine pu_ 0 27 ?_ #[J,Z,Z,Z,Z,Z,Z,Z,Z,Z,Z,Z,Z,Z] rfl rfl ?_ ?_ ?_ ?_
            rotate_left
            · intro w'
              go_simp
              with_reducible rfl
            rotate_left
            · simp only [aP]
              rfl
            refine pu_ 1 28 ?_ #[J,J,Z,Z,Z,Z,Z,Z,Z,Z,Z,Z,Z,Z] rfl rfl ?_ ?_ ?_ ?_
            rotate_left
            · intro w'
              go_simp
              with_reducible rfl
            rotate_left
            · simp only [aP]
              rfl
            refine pu_ 3 30 ?_ #[J,J,Z,J,Z,Z,Z,Z,Z,Z,Z,Z,Z,Z] rfl rfl ?_ ?_ ?_ ?_
            rotate_left
            · intro w'
              go_simp
              with_reducible rfl
            rotate_left
            · simp only [aP]
              rfl
            refine ta_ 2 29 ?_ #[J,J,J,J,Z,Z,Z,Z,Z,Z,Z,Z,Z,Z] rfl rfl ?_ hHeld ?_ ?_ ?_
            rotate_left
            · rintro w' ⟨s0, s1, s2, s3⟩
              go_simp
              with_reducible rfl
            rotate_left
            · simp only [aP]
              rfl
            refine one_ (i := 4) (N := some 31) #[J,J,J,J,J,Z,Z,Z,Z,Z,Z,Z,Z,Z] rfl rfl (by kernel_rfl) (by decide) (fun K hK => ?_)
            refine goes_ Tryz.func65 (by kernel_rfl) rfl #[.pointer (some ⟨g, 0, none⟩)] (by rfl) rfl rfl (by simp only [List.map_toArray, List.map_cons, List.map_nil]; rfl) ?_
            with_reducible refine (len_ B3.out.at2).mono ?_
            rintro e w4 ⟨rfl, rfl⟩
            refine ⟨_, rfl, ?_⟩
            rw [HLN.out]
            refine hK.out _ _ ⟨(B3.out.cell 0).trans rfl, (B3.out.cell 1).trans rfl, (B3.out.cell 2).trans rfl, (B3.out.at3.cell 2).trans rfl⟩ (fun hHeld => ?_)
            clear hK K
            refine norm_ (a' := ?_) ?_ ?_
            rotate_left
            · show Act.put _ (some 31) _ = _
              simp only [aP]
              rfl
            refine one_ (i := 5) (N := some 32) #[J,J,J,J,J,J,Z,Z,Z,Z,Z,Z,Z,Z] rfl rfl (by kernel_rfl) (by decide) (fun K hK => ?_)
            refine goes_ Tryz.func64 (by kernel_rfl) rfl #[.agg #[.int .i64 x, .int .i64 y, .int .u32 z], .int .i64 (n : Int)] (by rfl) rfl rfl (by simp only [List.map_toArray, List.map_cons, List.map_nil]; rfl) ?_
            with_reducible refine (right_ x y z (n : Int) _).mono ?_
            rintro e w5 ⟨rfl, hb5⟩
            refine ⟨_, rfl, ?_⟩
            rw [HRT.out]
            have B5 := Aside0.mk (B3.out.below hb5)
            clear hb5
            refine hK.out _ _ ⟨(B5.out.cell 0).trans rfl, (B5.out.cell 1).trans rfl, (B5.out.cell 2).trans rfl, (B5.out.at3.cell 2).trans rfl⟩ (fun hHeld => ?_)
            clear hK K
            refine norm_ (a' := ?_) ?_ ?_
            rotate_left
            · show Act.put _ (some 32) _ = _
              simp only [aP]
              rfl
            refine pu_ 6 33 ?_ #[J,J,J,J,J,J,J,Z,Z,Z,Z,Z,Z,Z] rfl rfl ?_ ?_ ?_ ?_
            rotate_left
            · intro w'
              go_simp
              with_reducible rfl
            rotate_left
            · simp only [aP]
              rfl
            refine pu_ 7 34 ?_ #[J,J,J,J,J,J,J,J,Z,Z,Z,Z,Z,Z] rfl rfl ?_ ?_ ?_ ?_
            rotate_left
            · intro w'
              go_simp
              with_reducible rfl
            rotate_left
            · simp only [aP]
              rfl
            refine pu_ 8 35 ?_ #[J,J,J,J,J,J,J,J,J,Z,Z,Z,Z,Z] rfl rfl ?_ ?_ ?_ ?_
            rotate_left
            · intro w'
              go_simp
              with_reducible rfl
            rotate_left
            · simp only [aP]
              rfl
            refine pu_ 10 37 ?_ #[J,J,J,J,J,J,J,J,J,Z,J,Z,Z,Z] rfl rfl ?_ ?_ ?_ ?_
            rotate_left
            · intro w'
              go_simp
              with_reducible rfl
            rotate_left
            · simp only [aP]
              rfl
            refine ta_ 9 36 ?_ #[J,J,J,J,J,J,J,J,J,J,J,Z,Z,Z] rfl rfl ?_ hHeld ?_ ?_ ?_
            rotate_left
            · rintro w' ⟨s0, s1, s2, s3⟩
              go_simp
              with_reducible rfl
            rotate_left
            · simp only [aP]
              rfl
            refine ta_ 11 38 ?_ #[J,J,J,J,J,J,J,J,J,J,J,J,Z,Z] rfl rfl ?_ hHeld ?_ ?_ ?_
            rotate_left
            · rintro w' ⟨s0, s1, s2, s3⟩
              go_simp
              with_reducible rfl
            rotate_left
            · simp only [aP]
              rfl
            refine pu_ 12 39 ?_ #[J,J,J,J,J,J,J,J,J,J,J,J,J,Z] rfl rfl ?_ ?_ ?_ ?_
            rotate_left
            · intro w'
              go_simp
              with_reducible rfl
            rotate_left
            · simp only [aP]
              rfl
            refine pu_ 13 40 ?_ #[J,J,J,J,J,J,J,J,J,J,J,J,J,J] rfl rfl ?_ ?_ ?_ ?_
            rotate_left
            · intro w'
              go_simp
              with_reducible rfl
            rotate_left
            · simp only [aP]
              rfl
            refine done_ (by kernel_rfl) ?_
            have HST2 := Aside0.mk (HST.out.trans (pick_no HU.out (fun h => by rw [HBT.out] at h; have h2 : bz < z := h.2; omega)))
            go_wp2_with fail
            go_roundg (gk - 1)
            case measure => have := AK.out; omega
            case rel => exact ⟨j + 1, bx, by_, bz, by go_num, by have := AK.out; omega, by rw [HST2.out, HBT.out], B5.out.at3.drop2.sw23⟩
          case pos =>
            have hzd : decide (bz < z) = true := decide_eq_true hz
            go_wp2_with fail
            refine start_ (n := 14) (S := fun w' => w'.cell? ⟨w2.heap.size, 0, none⟩ = some (.int .i64 x) ∧ w'.cell? ⟨w2.heap.size, 1, none⟩ = some (.int .i64 y) ∧ w'.cell? ⟨w2.heap.size, 2, none⟩ = some (.int .u32 z) ∧ w'.cell? ⟨W.heap.size + 1, 2, none⟩ = some (.int .u32 bz)) (ds := []) #[Z,Z,Z,Z,Z,Z,Z,Z,Z,Z,Z,Z,Z,Z] (by kernel_rfl) rfl rfl ⟨(B3.out.cell 0).trans rfl, (B3.out.cell 1).trans rfl, (B3.out.cell 2).trans rfl, (B3.out.at3.cell 2).trans rfl⟩ (fun hHeld => ?_)
            refine pu_ 0 27 ?_ #[J,Z,Z,Z,Z,Z,Z,Z,Z,Z,Z,Z,Z,Z] rfl rfl ?_ ?_ ?_ ?_
            rotate_left
            · intro w'
              go_simp
              with_reducible rfl
            rotate_left
            · simp only [aP]
              rfl
            refine pu_ 1 28 ?_ #[J,J,Z,Z,Z,Z,Z,Z,Z,Z,Z,Z,Z,Z] rfl rfl ?_ ?_ ?_ ?_
            rotate_left
            · intro w'
              go_simp
              with_reducible rfl
            rotate_left
            · simp only [aP]
              rfl
            refine pu_ 3 30 ?_ #[J,J,Z,J,Z,Z,Z,Z,Z,Z,Z,Z,Z,Z] rfl rfl ?_ ?_ ?_ ?_
            rotate_left
            · intro w'
              go_simp
              with_reducible rfl
            rotate_left
            · simp only [aP]
              rfl
            refine ta_ 2 29 ?_ #[J,J,J,J,Z,Z,Z,Z,Z,Z,Z,Z,Z,Z] rfl rfl ?_ hHeld ?_ ?_ ?_
            rotate_left
            · rintro w' ⟨s0, s1, s2, s3⟩
              go_simp
              with_reducible rfl
            rotate_left
            · simp only [aP]
              rfl
            refine one_ (i := 4) (N := some 31) #[J,J,J,J,J,Z,Z,Z,Z,Z,Z,Z,Z,Z] rfl rfl (by kernel_rfl) (by decide) (fun K hK => ?_)
            refine goes_ Tryz.func65 (by kernel_rfl) rfl #[.pointer (some ⟨g, 0, none⟩)] (by rfl) rfl rfl (by simp only [List.map_toArray, List.map_cons, List.map_nil]; rfl) ?_
            with_reducible refine (len_ B3.out.at2).mono ?_
            rintro e w4 ⟨rfl, rfl⟩
            refine ⟨_, rfl, ?_⟩
            rw [HLN.out]
            refine hK.out _ _ ⟨(B3.out.cell 0).trans rfl, (B3.out.cell 1).trans rfl, (B3.out.cell 2).trans rfl, (B3.out.at3.cell 2).trans rfl⟩ (fun hHeld => ?_)
            clear hK K
            refine norm_ (a' := ?_) ?_ ?_
            rotate_left
            · show Act.put _ (some 31) _ = _
              simp only [aP]
              rfl
            refine one_ (i := 5) (N := some 32) #[J,J,J,J,J,J,Z,Z,Z,Z,Z,Z,Z,Z] rfl rfl (by kernel_rfl) (by decide) (fun K hK => ?_)
            refine goes_ Tryz.func64 (by kernel_rfl) rfl #[.agg #[.int .i64 x, .int .i64 y, .int .u32 z], .int .i64 (n : Int)] (by rfl) rfl rfl (by simp only [List.map_toArray, List.map_cons, List.map_nil]; rfl) ?_
            with_reducible refine (right_ x y z (n : Int) _).mono ?_
            rintro e w5 ⟨rfl, hb5⟩
            refine ⟨_, rfl, ?_⟩
            rw [HRT.out]
            have B5 := Aside0.mk (B3.out.below hb5)
            clear hb5
            refine hK.out _ _ ⟨(B5.out.cell 0).trans rfl, (B5.out.cell 1).trans rfl, (B5.out.cell 2).trans rfl, (B5.out.at3.cell 2).trans rfl⟩ (fun hHeld => ?_)
            clear hK K
            refine norm_ (a' := ?_) ?_ ?_
            rotate_left
            · show Act.put _ (some 32) _ = _
              simp only [aP]
              rfl
            refine pu_ 6 33 ?_ #[J,J,J,J,J,J,J,Z,Z,Z,Z,Z,Z,Z] rfl rfl ?_ ?_ ?_ ?_
            rotate_left
            · intro w'
              go_simp
              with_reducible rfl
            rotate_left
            · simp only [aP]
              rfl
            refine pu_ 7 34 ?_ #[J,J,J,J,J,J,J,J,Z,Z,Z,Z,Z,Z] rfl rfl ?_ ?_ ?_ ?_
            rotate_left
            · intro w'
              go_simp
              with_reducible rfl
            rotate_left
            · simp only [aP]
              rfl
            refine pu_ 8 35 ?_ #[J,J,J,J,J,J,J,J,J,Z,Z,Z,Z,Z] rfl rfl ?_ ?_ ?_ ?_
            rotate_left
            · intro w'
              go_simp
              with_reducible rfl
            rotate_left
            · simp only [aP]
              rfl
            refine pu_ 10 37 ?_ #[J,J,J,J,J,J,J,J,J,Z,J,Z,Z,Z] rfl rfl ?_ ?_ ?_ ?_
            rotate_left
            · intro w'
              go_simp
              with_reducible rfl
            rotate_left
            · simp only [aP]
              rfl
            refine ta_ 9 36 ?_ #[J,J,J,J,J,J,J,J,J,J,J,Z,Z,Z] rfl rfl ?_ hHeld ?_ ?_ ?_
            rotate_left
            · rintro w' ⟨s0, s1, s2, s3⟩
              go_simp
              with_reducible rfl
            rotate_left
            · simp only [aP]
              rfl
            refine ta_ 11 38 ?_ #[J,J,J,J,J,J,J,J,J,J,J,J,Z,Z] rfl rfl ?_ hHeld ?_ ?_ ?_
            rotate_left
            · rintro w' ⟨s0, s1, s2, s3⟩
              go_simp
              with_reducible rfl
            rotate_left
            · simp only [aP]
              rfl
            refine pu_ 12 39 ?_ #[J,J,J,J,J,J,J,J,J,J,J,J,J,Z] rfl rfl ?_ ?_ ?_ ?_
            rotate_left
            · intro w'
              go_simp
              with_reducible rfl
            rotate_left
            · simp only [aP]
              rfl
            refine pu_ 13 40 ?_ #[J,J,J,J,J,J,J,J,J,J,J,J,J,J] rfl rfl ?_ ?_ ?_ ?_
            rotate_left
            · intro w'
              go_simp
              with_reducible rfl
            rotate_left
            · simp only [aP]
              rfl
            refine done_ (by kernel_rfl) ?_
            have HST2 := Aside0.mk (HST.out.trans (pick_yes (r := (x, y, z)) HU.out HRT.out (by rw [HBT.out]; exact hz)))
            have l0 := (B5.out.cell 0).trans rfl
            have l1 := (B5.out.cell 1).trans rfl
            have l2 := (B5.out.cell 2).trans rfl
            obtain ⟨d0, f0, d1, f1, d2, f2, hS6⟩ := store3 (.int .i64 x) (.int .i64 y) (.int .u32 z) B5.out.at3
            have B6 := Aside0.mk hS6
            clear hS6
            go_wp2_with fail
            go_roundg (gk - 1)
            case measure => have := AK.out; omega
            case rel => exact ⟨j + 1, x, y, z, by go_num, by have := AK.out; omega, HST2.out, B6.out.drop2.sw23⟩
    · obtain rfl : j = 2 := by omega
      have D0 := AS.out.drew
      have r0 := (D0.cell 0).trans rfl
      have r1 := (D0.cell 1).trans rfl
      have r2 := (D0.cell 2).trans rfl
      have d0 : wr.cell? ⟨W.heap.size, 0, none⟩ = some (.int .i64 0) := (AS.out.at2.cell 0).trans rfl
      have d1 : wr.cell? ⟨W.heap.size, 1, none⟩ = some (.int .i64 0) := (AS.out.at2.cell 1).trans rfl
      have d2 : wr.cell? ⟨W.heap.size, 2, none⟩ = some (.int .u32 0) := (AS.out.at2.cell 2).trans rfl
      have f0 := AS.out.at2.frozen 0
      have f1 := AS.out.at2.frozen 1
      have f2 := AS.out.at2.frozen 2
      have hS6 := (store3 (.int .i64 bx) (.int .i64 by_) (.int .u32 bz) AS.out.at2).2.2.2.2.2.2.drew
      obtain ⟨w6, hw6⟩ : ∃ w6, (((wr.setCell ⟨W.heap.size, 0, none⟩ (.int .i64 bx)).setCell ⟨W.heap.size, 1, none⟩ (.int .i64 by_)).setCell ⟨W.heap.size, 2, none⟩ (.int .u32 bz)).drew = w6 := ⟨_, rfl⟩
      rw [hw6] at hS6
      have B6 := Aside0.mk hS6
      clear hS6 hjm
      go_wp2_with fail
      refine start_ (n := 6) (S := fun w' => w'.cell? ⟨W.heap.size + 1, 0, none⟩ = some (.int .i64 bx) ∧ w'.cell? ⟨W.heap.size + 1, 1, none⟩ = some (.int .i64 by_) ∧ w'.cell? ⟨W.heap.size + 1, 2, none⟩ = some (.int .u32 bz)) (ds := []) #[Z,Z,Z,Z,Z,Z] (by kernel_rfl) rfl rfl ⟨r0, r1, r2⟩ (fun hHeld => ?_)
      refine pu_ 1 44 ?_ #[Z,J,Z,Z,Z,Z] rfl rfl ?_ ?_ ?_ ?_
      rotate_left
      · intro w'
        go_simp
        with_reducible rfl
      rotate_left
      · simp only [aP]
        rfl
      refine ta_ 0 43 ?_ #[J,J,Z,Z,Z,Z] rfl rfl ?_ hHeld ?_ ?_ ?_
      rotate_left
      · rintro w' ⟨s0, s1, s2⟩
        go_simp
        with_reducible rfl
      rotate_left
      · simp only [aP]
        rfl
      refine ta_ 2 45 ?_ #[J,J,J,Z,Z,Z] rfl rfl ?_ hHeld ?_ ?_ ?_
      rotate_left
      · rintro w' ⟨s0, s1, s2⟩
        go_simp
        with_reducible rfl
      rotate_left
      · simp only [aP]
        rfl
      refine pu_ 3 46 ?_ #[J,J,J,J,Z,Z] rfl rfl ?_ ?_ ?_ ?_
      rotate_left
      · intro w'
        go_simp
        with_reducible rfl
      rotate_left
      · simp only [aP]
        rfl
      refine one_ (i := 4) (N := none) #[J,J,J,J,J,Z] rfl rfl (by kernel_rfl) (by decide) (fun K hK => ?_)
      refine skip_ (w1 := ?_) (by rfl) rfl ?_ ?_
      rotate_left
      · go_simp
        rfl
      refine hK.out _ _ ⟨(B6.out.at2.cell 0).trans rfl, (B6.out.at2.cell 1).trans rfl, (B6.out.at2.cell 2).trans rfl⟩ (fun hHeld => ?_)
      clear hK K
      refine pu_ 5 3 ?_ #[J,J,J,J,J,J] rfl rfl ?_ ?_ ?_ ?_
      rotate_left
      · intro w'
        go_simp
        with_reducible rfl
      rotate_left
      · simp only [aP]
        rfl
      refine done_ (by kernel_rfl) ?_
      have q0 : w6.cell? ⟨W.heap.size, 0, none⟩ = some (.int .i64 bx) := (B6.out.cell 0).trans rfl
      have q1 : w6.cell? ⟨W.heap.size, 1, none⟩ = some (.int .i64 by_) := (B6.out.cell 1).trans rfl
      have q2 : w6.cell? ⟨W.heap.size, 2, none⟩ = some (.int .u32 bz) := (B6.out.cell 2).trans rfl
      clear r0 r1 r2 d0 d1 d2 f0 f1 f2 D0
      go_wp2_with fail
      go_retc (.tuple #[.agg #[.int .i64 bx, .int .i64 by_, .int .u32 bz], .bool (decide (0 < bz))])
      exact ⟨by rw [HBT.out]; rfl, B6.out.tail.tail⟩
end
end Go.Proofs.YtjngnigelkgekaaGreat.Root
