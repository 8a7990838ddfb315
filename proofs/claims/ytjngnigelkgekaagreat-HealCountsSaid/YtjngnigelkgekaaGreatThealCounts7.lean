/- Root5, Disk7, Crash, Disk8, Disk9, Book, Law1a, DiskOf, Law1c, Ref1: what HealCounts needs. -/
import Derived.Test.YtjngnigelkgekaaGreatThealCounts6
import Derived.Test.YtjngnigelkgekaaGreatProg
import Derived.WalkKit
import Derived.KernelRfl
import Derived.WalkSpells
import Derived.RegionCalls
import Derived.Deep.RegionWith
set_option linter.unusedVariables false
set_option linter.unusedSimpArgs false
namespace Go.Proofs.YtjngnigelkgekaaGreat.Root
open Go.RowKit Go.Proofs.YtjngnigelkgekaaGreatW.PrintWords Go.Proofs.YtjngnigelkgekaaGreatW.PrintLast Go.Proofs.YtjngnigelkgekaaGreatW.PrintMore Go.Proofs.YtjngnigelkgekaaGreat.Kit Go.Proofs.YtjngnigelkgekaaGreat.Base Go.Proofs.YtjngnigelkgekaaGreat.Plain Go.Proofs.YtjngnigelkgekaaGreat.Sum
set_option maxHeartbeats 800000 in
set_option maxRecDepth 100000 in
theorem unroot_ {A : Option Addr} {n c : Nat} {l : List Int} {w : World} (hr : U8.C w A n l) (hc : n ≤ c) (hb : Bytes l) :
    Calls Tryz.prog 110 #[.slice A n c] w fun e w' => e = .returned (readV l) ∧ Below w.heap.size w w' := by
  have hl : l.length = n := hr.1
  by_cases h64 : n = 64
  case neg =>
    have hv : Aside0 (unrootF l = none) := ⟨if_neg (fun h => h64 (hl.symm.trans h.1))⟩
    have h1 : ¬ (n : Int) = 64 := by omega
    have h2 : ((n : Int) != 64) = true := by simpa using h1
    clear hr hb hl
    go_enter Tryz.func110, Tryz.ntmps110
    go_wp2_with fail
    go_retc (.tuple #[.agg #[.int .i64 0, .int .i64 0, .int .u32 0], .bool false])
    exact ⟨by unfold readV; rw [hv.out]; rfl, below_alloc (Below.refl _ _) _⟩
  case pos =>
    subst h64
    have HR := Aside0.mk hr
    have HC := Aside0.mk hc
    have HB := Aside0.mk hb
    have HL := Aside0.mk hl
    have HI := Aside0.mk (And.intro (getF_rng hb 4) (And.intro (getF_rng hb 8) (getF_rng hb 12)))
    have hcut := cutHi (z := .int .u8 0) (bytes := 1) Tryz.underlying24 infoB A 64 c 4 (K := 4) rfl (by decide) hc
    have hs4 : (convert 24 9 (.slice A 4 c)).run Tryz.prog (w.alloc (.cells #[.int .i64 0, .int .i64 0, .int .u32 0] 80)) = .ok (.string (strOfNums (l.take 4))) (w.alloc (.cells #[.int .i64 0, .int .i64 0, .int .u32 0] 80)) :=
      Str.strC (Kd.C_alloc (C_hi (b := 4) hr (by decide) hc) _)
    have hq := Str.beq_bytes (hb.take 4) markL_bytes
    rw [show (strOfNums markL).toList = [69, 78, 71, 49] by rw [ByteArray.toList_eq]; rfl] at hq
    have hM : Aside0 (IsRoot l → l.take 4 = markL) := ⟨fun h => by rw [h.2.2.2]; rfl⟩
    have hU0 : Aside0 (¬ IsRoot l → unrootF l = none) := ⟨fun h => if_neg h⟩
    clear hr hb hl hc
    by_cases h4 : l.take 4 = markL
    case neg =>
      have HN : Aside0 (unrootF l = none) := ⟨hU0.out (fun h => h4 (hM.out h))⟩
      rw [decide_eq_false h4] at hq
      generalize strOfNums (l.take 4) = s4 at *
      clear h4
      go_enter Tryz.func110, Tryz.ntmps110
      go_wp2_with fail
      go_retc (.tuple #[.agg #[.int .i64 0, .int .i64 0, .int .u32 0], .bool false])
      exact ⟨by unfold readV; rw [HN.out]; rfl, below_alloc (Below.refl _ _) _⟩
    case pos =>
    rw [decide_eq_true h4] at hq
    generalize strOfNums (l.take 4) = s4 at *
    clear h4
    go_enter Tryz.func110, Tryz.ntmps110
    go_wp2_with fail
    have A0 := Aside0.mk ((Sep.start w).newBlk 80 #[.int .i64 0, .int .i64 0, .int .u32 0])
    refine (rget_ (l := l) (a := 4) (Kd.C_below HR.out A0.out.toBelow) HB.out).mono ?_
    rintro e w1 ⟨rfl, hb1⟩
    have A1 := Aside0.mk (A0.out.below hb1)
    have hx1 : IntKind.i64.wrap (getF l 4) = getF l 4 := by have := HI.out.1; rw [IntKind.wrap_i64]; omega
    have hx2 : IntKind.i64.wrap (getF l 8) = getF l 8 := by have := HI.out.2.1; rw [IntKind.wrap_i64]; omega
    clear hb1 hcut hs4 hq
    go_wp2_with fail
    refine (rget_ (l := l) (a := 8) (Kd.C_below HR.out A1.out.toBelow) HB.out).mono ?_
    rintro e w2 ⟨rfl, hb2⟩
    have A2 := Aside0.mk (A1.out.below hb2)
    clear hb2
    go_wp2_with fail
    refine (rget_ (l := l) (a := 12) (Kd.C_below HR.out A2.out.toBelow) HB.out).mono ?_
    rintro e w3 ⟨rfl, hb3⟩
    have A3 := Aside0.mk (A2.out.below hb3)
    clear hb3
    have hU : Aside0 (∀ h : IsRoot l, unrootF l = some (getF l 4, getF l 8, getF l 12)) := ⟨fun h => if_pos h⟩
    have hIR : Aside0 (IsRoot l ↔ getF l 4 ≤ 2147483647 ∧ getF l 8 ≤ 2147483647 ∧ l = rootF (getF l 4) (getF l 8) (getF l 12)) := ⟨⟨fun h => h.2, fun h => ⟨HL.out, h⟩⟩⟩
    generalize getF l 4 = x at *
    generalize getF l 8 = y at *
    generalize getF l 12 = z at *
    have A4 := Aside0.mk (A3.out.newBlk 80 #[.int .i64 x, .int .i64 y, .int .u32 z])
    have u0 : ∀ q, ((w3.alloc (.cells #[.int .i64 x, .int .i64 y, .int .u32 z] 80)).drewN q).cell? ⟨w3.heap.size, 0, none⟩ = some (.int .i64 x) := fun q => ((A4.out.drewN q).cell 0).trans rfl
    have u1 : ∀ q, ((w3.alloc (.cells #[.int .i64 x, .int .i64 y, .int .u32 z] 80)).drewN q).cell? ⟨w3.heap.size, 1, none⟩ = some (.int .i64 y) := fun q => ((A4.out.drewN q).cell 1).trans rfl
    by_cases hx : 2147483647 < x
    case pos =>
      have HN : Aside0 (unrootF l = none) := ⟨hU0.out (fun h => by have := (hIR.out.1 h).1; omega)⟩
      have hd : decide (2147483647 < x) = true := decide_eq_true hx
      go_wp2_with fail
      go_quiet (fail)
      have A5 := A4.out.drewN nq
      obtain ⟨w5, hw5⟩ : ∃ w5, (w3.alloc (.cells #[.int .i64 x, .int .i64 y, .int .u32 z] 80)).drewN nq = w5 := ⟨_, rfl⟩
      rw [hw5] at A5 ⊢
      clear hw5 u0 u1
      have A6 := A5.at2
      obtain ⟨c0, f0, c1, f1, c2, f2, hS4⟩ := store3 (.int .i64 0) (.int .i64 0) (.int .u32 0) A6
      obtain ⟨w4, hw4⟩ : ∃ w4, (((w5.setCell ⟨w.heap.size, 0, none⟩ (.int .i64 0)).setCell ⟨w.heap.size, 1, none⟩ (.int .i64 0)).setCell ⟨w.heap.size, 2, none⟩ (.int .u32 0)) = w4 := ⟨_, rfl⟩
      rw [hw4] at hS4
      have r0 := (hS4.cell 0).trans rfl
      have r1 := (hS4.cell 1).trans rfl
      have r2 := (hS4.cell 2).trans rfl
      have B4 := Aside0.mk hS4
      clear hS4 A5 A6
      go_wp2_with fail
      go_retc (.tuple #[.agg #[.int .i64 0, .int .i64 0, .int .u32 0], .bool false])
      exact ⟨by unfold readV; rw [HN.out]; rfl, B4.out.toBelow⟩
    case neg =>
    have hd : decide (2147483647 < x) = false := decide_eq_false hx
    by_cases hy : 2147483647 < y
    case pos =>
      have HN : Aside0 (unrootF l = none) := ⟨hU0.out (fun h => by have := (hIR.out.1 h).2.1; omega)⟩
      have hd2 : decide (2147483647 < y) = true := decide_eq_true hy
      go_wp2_with fail
      go_quiet (fail)
      have A5 := A4.out.drewN nq
      obtain ⟨w5, hw5⟩ : ∃ w5, (w3.alloc (.cells #[.int .i64 x, .int .i64 y, .int .u32 z] 80)).drewN nq = w5 := ⟨_, rfl⟩
      rw [hw5] at A5 ⊢
      clear hw5 u0 u1
      have A6 := A5.at2
      obtain ⟨c0, f0, c1, f1, c2, f2, hS4⟩ := store3 (.int .i64 0) (.int .i64 0) (.int .u32 0) A6
      obtain ⟨w4, hw4⟩ : ∃ w4, (((w5.setCell ⟨w.heap.size, 0, none⟩ (.int .i64 0)).setCell ⟨w.heap.size, 1, none⟩ (.int .i64 0)).setCell ⟨w.heap.size, 2, none⟩ (.int .u32 0)) = w4 := ⟨_, rfl⟩
      rw [hw4] at hS4
      have r0 := (hS4.cell 0).trans rfl
      have r1 := (hS4.cell 1).trans rfl
      have r2 := (hS4.cell 2).trans rfl
      have B4 := Aside0.mk hS4
      clear hS4 A5 A6
      go_wp2_with fail
      go_retc (.tuple #[.agg #[.int .i64 0, .int .i64 0, .int .u32 0], .bool false])
      exact ⟨by unfold readV; rw [HN.out]; rfl, B4.out.toBelow⟩
    case neg =>
    have hd2 : decide (2147483647 < y) = false := decide_eq_false hy
    have hm1 := m32_id HI.out.1.1 HI.out.1.2
    have hm2 := m32_id HI.out.2.1.1 HI.out.2.1.2
    have HM := Aside0.mk (And.intro hm1 hm2)
    have hqq := Str.beq_bytes (rootF_bytes x y z) HB.out
    have HQ := Aside0.mk hqq
    have A4d := Aside0.mk A4.out.drew
    clear hm1 hm2 hqq u0 u1
    go_wp2_with fail
    refine start_ (n := 16) (S := fun w' => w'.cell? ⟨w3.heap.size, 0, none⟩ = some (.int .i64 x) ∧ w'.cell? ⟨w3.heap.size, 1, none⟩ = some (.int .i64 y) ∧ w'.cell? ⟨w3.heap.size, 2, none⟩ = some (.int .u32 z) ∧ (convert 24 9 (.slice A 64 c)).run Tryz.prog w' = .ok (.string (strOfNums l)) w') (ds := []) #[false, false, false, false, false, false, false, false, false, false, false, false, false, false, false, false] (by kernel_rfl) rfl rfl ⟨(A4d.out.cell 0).trans rfl, (A4d.out.cell 1).trans rfl, (A4d.out.cell 2).trans rfl, Str.strC (Kd.C_below HR.out A4d.out.toBelow)⟩ (fun hHeld => ?_)
    refine pure_ (i := 0) (N := some 24) (v := ?_) (a' := ?_) #[true, false, false, false, false, false, false, false, false, false, false, false, false, false, false, false] rfl rfl (by kernel_rfl) (fun _ _ _ h => h) (Or.inl ⟨by rfl, ?_⟩) ?_ ?_
    rotate_left
    · intro w'
      go_simp
      with_reducible rfl
    rotate_left
    · simp only [Act.put, sIB, sCz, sCs, i64_w, i32_w]
      rfl
    refine take_ (i := 1) (N := some 25) (v := ?_) (a' := ?_) #[true, true, false, false, false, false, false, false, false, false, false, false, false, false, false, false] rfl rfl (by kernel_rfl) (fun _ _ _ h => h) (Or.inl ⟨by rfl, ?_⟩) hHeld ?_ ?_
    rotate_left
    · rintro w' ⟨s0, s1, s2, s3⟩
      go_simp
      with_reducible rfl
    rotate_left
    · simp only [Act.put, sIB, sCz, sCs, i64_w, i32_w]
      rfl
    refine pure_ (i := 2) (N := some 26) (v := ?_) (a' := ?_) #[true, true, true, false, false, false, false, false, false, false, false, false, false, false, false, false] rfl rfl (by kernel_rfl) (fun _ _ _ h => h) (Or.inl ⟨by rfl, ?_⟩) ?_ ?_
    rotate_left
    · intro w'
      go_simp
      with_reducible rfl
    rotate_left
    · simp only [Act.put, sIB, sCz, sCs, i64_w, i32_w]
      rfl
    refine pure_ (i := 3) (N := some 27) (v := ?_) (a' := ?_) #[true, true, true, true, false, false, false, false, false, false, false, false, false, false, false, false] rfl rfl (by kernel_rfl) (fun _ _ _ h => h) (Or.inl ⟨by rfl, ?_⟩) ?_ ?_
    rotate_left
    · intro w'
      go_simp
      with_reducible rfl
    rotate_left
    · simp only [Act.put, sIB, sCz, sCs, i64_w, i32_w]
      rfl
    refine pure_ (i := 4) (N := some 28) (v := ?_) (a' := ?_) #[true, true, true, true, true, false, false, false, false, false, false, false, false, false, false, false] rfl rfl (by kernel_rfl) (fun _ _ _ h => h) (Or.inl ⟨by rfl, ?_⟩) ?_ ?_
    rotate_left
    · intro w'
      go_simp
      with_reducible rfl
    rotate_left
    · simp only [Act.put, sIB, sCz, sCs, i64_w, i32_w]
      rfl
    refine take_ (i := 5) (N := some 29) (v := ?_) (a' := ?_) #[true, true, true, true, true, true, false, false, false, false, false, false, false, false, false, false] rfl rfl (by kernel_rfl) (fun _ _ _ h => h) (Or.inl ⟨by rfl, ?_⟩) hHeld ?_ ?_
    rotate_left
    · rintro w' ⟨s0, s1, s2, s3⟩
      go_simp
      with_reducible rfl
    rotate_left
    · simp only [Act.put, sIB, sCz, sCs, i64_w, i32_w]
      rfl
    refine pure_ (i := 6) (N := some 30) (v := ?_) (a' := ?_) #[true, true, true, true, true, true, true, false, false, false, false, false, false, false, false, false] rfl rfl (by kernel_rfl) (fun _ _ _ h => h) (Or.inl ⟨by rfl, ?_⟩) ?_ ?_
    rotate_left
    · intro w'
      go_simp
      with_reducible rfl
    rotate_left
    · simp only [Act.put, sIB, sCz, sCs, i64_w, i32_w]
      rfl
    refine pure_ (i := 7) (N := some 31) (v := ?_) (a' := ?_) #[true, true, true, true, true, true, true, true, false, false, false, false, false, false, false, false] rfl rfl (by kernel_rfl) (fun _ _ _ h => h) (Or.inl ⟨by rfl, ?_⟩) ?_ ?_
    rotate_left
    · intro w'
      go_simp
      with_reducible rfl
    rotate_left
    · simp only [Act.put, sIB, sCz, sCs, i64_w, i32_w]
      rfl
    refine pure_ (i := 8) (N := some 32) (v := ?_) (a' := ?_) #[true, true, true, true, true, true, true, true, true, false, false, false, false, false, false, false] rfl rfl (by kernel_rfl) (fun _ _ _ h => h) (Or.inl ⟨by rfl, ?_⟩) ?_ ?_
    rotate_left
    · intro w'
      go_simp
      with_reducible rfl
    rotate_left
    · simp only [Act.put, sIB, sCz, sCs, i64_w, i32_w]
      rfl
    refine pure_ (i := 12) (N := some 36) (v := ?_) (a' := ?_) #[true, true, true, true, true, true, true, true, true, false, false, false, true, false, false, false] rfl rfl (by kernel_rfl) (fun _ _ _ h => h) (Or.inl ⟨by rfl, ?_⟩) ?_ ?_
    rotate_left
    · intro w'
      go_simp
      with_reducible rfl
    rotate_left
    · simp only [Act.put, sIB, sCz, sCs, i64_w, i32_w]
      rfl
    refine take_ (i := 9) (N := some 33) (v := ?_) (a' := ?_) #[true, true, true, true, true, true, true, true, true, true, false, false, true, false, false, false] rfl rfl (by kernel_rfl) (fun _ _ _ h => h) (Or.inl ⟨by rfl, ?_⟩) hHeld ?_ ?_
    rotate_left
    · rintro w' ⟨s0, s1, s2, s3⟩
      go_simp
      with_reducible rfl
    rotate_left
    · simp only [Act.put, sIB, sCz, sCs, i64_w, i32_w]
      rfl
    refine take_ (i := 13) (N := some 37) (v := ?_) (a' := ?_) #[true, true, true, true, true, true, true, true, true, true, false, false, true, true, false, false] rfl rfl (by kernel_rfl) (fun _ _ _ h => h) (Or.inl ⟨by rfl, ?_⟩) hHeld ?_ ?_
    rotate_left
    · rintro w' ⟨s0, s1, s2, s3⟩
      go_simp
      with_reducible rfl
    rotate_left
    · simp only [Act.put, sIB, sCz, sCs, i64_w, i32_w]
      rfl
    refine one_ (i := 10) (N := some 34) #[true, true, true, true, true, true, true, true, true, true, true, false, true, true, false, false] rfl rfl (by kernel_rfl) (by decide) (fun K hK => ?_)
    refine goes_ Tryz.func45 (by kernel_rfl) rfl #[.agg #[.int .i64 x, .int .i64 y, .int .u32 z]] (by rfl) rfl rfl (by simp only [List.map_toArray, List.map_cons, List.map_nil]; rfl) ?_
    with_reducible refine (rroot_ x y z HI.out.2.2 _).mono ?_
    rintro e w5 ⟨v5, rfl, hS5⟩
    refine ⟨_, rfl, ?_⟩
    rw [HM.out.1, HM.out.2] at hS5
    obtain ⟨A5, c5, rfl⟩ := hS5.rowN (n := 64) (rootF_len _ _ _)
    have B5 := Aside0.mk (A4d.out.lift1 hS5)
    have hs5 := Str.strC (c := c5) B5.out.rowC'
    clear hS5
    refine hK.out _ _ ⟨(B5.out.at2.cell 0).trans rfl, (B5.out.at2.cell 1).trans rfl, (B5.out.at2.cell 2).trans rfl, Str.strC (Kd.C_below HR.out B5.out.toBelow)⟩ (fun hHeld => ?_)
    clear hK K
    refine norm_ (a' := ?_) ?_ ?_
    rotate_left
    · show Act.put _ (some 34) _ = _
      simp only [Act.put, sIB, sCz, sCs, i64_w, i32_w]
      rfl
    refine one_ (i := 11) (N := some 35) #[true, true, true, true, true, true, true, true, true, true, true, true, true, true, false, false] rfl rfl (by kernel_rfl) (by decide) (fun K hK => ?_)
    refine value_ (w1 := ?_) (v := ?_) (by rfl) rfl ?_ ?_
    rotate_left 2
    · go_simp
      constructor
      · rfl
      · rfl
    refine hK.out _ _ ⟨(B5.out.at2.cell 0).trans rfl, (B5.out.at2.cell 1).trans rfl, (B5.out.at2.cell 2).trans rfl, Str.strC (Kd.C_below HR.out B5.out.toBelow)⟩ (fun hHeld => ?_)
    clear hK K
    refine norm_ (a' := ?_) ?_ ?_
    rotate_left
    · show Act.put _ (some 35) _ = _
      simp only [Act.put, sIB, sCz, sCs, i64_w, i32_w]
      rfl
    refine pure_ (i := 14) (N := some 38) (v := ?_) (a' := ?_) #[true, true, true, true, true, true, true, true, true, true, true, true, true, true, true, false] rfl rfl (by kernel_rfl) (fun _ _ _ h => h) (Or.inl ⟨by rfl, ?_⟩) ?_ ?_
    rotate_left
    · intro w'
      go_simp
      with_reducible rfl
    rotate_left
    · simp only [Act.put, sIB, sCz, sCs, i64_w, i32_w]
      rfl
    refine pure_ (i := 15) (N := some 39) (v := ?_) (a' := ?_) #[true, true, true, true, true, true, true, true, true, true, true, true, true, true, true, true] rfl rfl (by kernel_rfl) (fun _ _ _ h => h) (Or.inl ⟨by rfl, ?_⟩) ?_ ?_
    rotate_left
    · intro w'
      go_simp
      with_reducible rfl
    rotate_left
    · simp only [Act.put, sIB, sCz, sCs, i64_w, i32_w]
      rfl
    refine done_ (by kernel_rfl) ?_
    have hqq := HQ.out
    by_cases he : rootF x y z = l
    case pos =>
      have HN : Aside0 (unrootF l = some (x, y, z)) := ⟨hU.out (hIR.out.2 ⟨by omega, by omega, he.symm⟩)⟩
      rw [decide_eq_true he] at hqq
      rw [hqq, Bool.not_true]
      clear he
      generalize strOfNums (rootF x y z) = sa at *
      generalize strOfNums l = sb at *
      obtain ⟨c0, f0, c1, f1, c2, f2, hS4⟩ := store3 (.int .i64 x) (.int .i64 y) (.int .u32 z) B5.out.at3
      obtain ⟨w4, hw4⟩ : ∃ w4, (((w5.setCell ⟨w.heap.size, 0, none⟩ (.int .i64 x)).setCell ⟨w.heap.size, 1, none⟩ (.int .i64 y)).setCell ⟨w.heap.size, 2, none⟩ (.int .u32 z)) = w4 := ⟨_, rfl⟩
      rw [hw4] at hS4
      have r0 := (hS4.cell 0).trans rfl
      have r1 := (hS4.cell 1).trans rfl
      have r2 := (hS4.cell 2).trans rfl
      have B4 := Aside0.mk hS4
      have l0 : w5.cell? ⟨w3.heap.size, 0, none⟩ = some (.int .i64 x) := (B5.out.at2.cell 0).trans rfl
      have l1 : w5.cell? ⟨w3.heap.size, 1, none⟩ = some (.int .i64 y) := (B5.out.at2.cell 1).trans rfl
      have l2 : w5.cell? ⟨w3.heap.size, 2, none⟩ = some (.int .u32 z) := (B5.out.at2.cell 2).trans rfl
      clear hS4
      go_wp2_with fail
      go_retc (.tuple #[.agg #[.int .i64 x, .int .i64 y, .int .u32 z], .bool true])
      exact ⟨by unfold readV; rw [HN.out]; rfl, B4.out.toBelow⟩
    case neg =>
      have HN : Aside0 (unrootF l = none) := ⟨hU0.out (fun h => he (hIR.out.1 h).2.2.symm)⟩
      rw [decide_eq_false he] at hqq
      rw [hqq, Bool.not_false]
      clear he
      generalize strOfNums (rootF x y z) = sa at *
      generalize strOfNums l = sb at *
      obtain ⟨c0, f0, c1, f1, c2, f2, hS4⟩ := store3 (.int .i64 0) (.int .i64 0) (.int .u32 0) B5.out.at3
      obtain ⟨w4, hw4⟩ : ∃ w4, (((w5.setCell ⟨w.heap.size, 0, none⟩ (.int .i64 0)).setCell ⟨w.heap.size, 1, none⟩ (.int .i64 0)).setCell ⟨w.heap.size, 2, none⟩ (.int .u32 0)) = w4 := ⟨_, rfl⟩
      rw [hw4] at hS4
      have r0 := (hS4.cell 0).trans rfl
      have r1 := (hS4.cell 1).trans rfl
      have r2 := (hS4.cell 2).trans rfl
      have B4 := Aside0.mk hS4
      clear hS4
      go_wp2_with fail
      go_retc (.tuple #[.agg #[.int .i64 0, .int .i64 0, .int .u32 0], .bool false])
      exact ⟨by unfold readV; rw [HN.out]; rfl, B4.out.toBelow⟩
end Go.Proofs.YtjngnigelkgekaaGreat.Root
namespace Go.Proofs.YtjngnigelkgekaaGreat.Disk
end Go.Proofs.YtjngnigelkgekaaGreat.Disk
namespace Go.Proofs.YtjngnigelkgekaaGreat.Kit
abbrev Wt := Nat → Option (List Int)
def keysOf (n : Nat) (wt : Wt) : List Nat := (List.range n).filter (fun i => (wt i).isSome)
def rank (wt : Wt) (i : Nat) : Nat := (keysOf i wt).length
theorem keysOf_succ (n : Nat) (wt : Wt) : keysOf (n + 1) wt = keysOf n wt ++ if (wt n).isSome then [n] else [] := by
  unfold keysOf
  rw [List.range_succ, List.filter_append]
  congr 1
  by_cases h : (wt n).isSome = true
  · simp [h]
  · simp [h]
theorem rank_succ (n : Nat) (wt : Wt) : rank wt (n + 1) = rank wt n + if (wt n).isSome then 1 else 0 := by
  unfold rank
  rw [keysOf_succ, List.length_append]
  split <;> rfl
theorem rank_mono (wt : Wt) {i j : Nat} (h : i ≤ j) : rank wt i ≤ rank wt j := by
  induction j with
  | zero => rw [show i = 0 by omega]; exact Nat.le_refl _
  | succ j ih =>
    by_cases hi : i = j + 1
    · rw [hi]; exact Nat.le_refl _
    · have := ih (by omega); rw [rank_succ]; omega
theorem rank_lt {wt : Wt} {i j : Nat} (h : i < j) (hi : (wt i).isSome = true) : rank wt i < rank wt j := by
  have := rank_mono wt (show i + 1 ≤ j by omega)
  rw [rank_succ, if_pos hi] at this
  omega
theorem keys_at (wt : Wt) : ∀ (n j i : Nat), (keysOf n wt)[j]? = some i ↔ i < n ∧ (wt i).isSome = true ∧ rank wt i = j
  | 0, j, i => by simp [keysOf]
  | n + 1, j, i => by
    rw [keysOf_succ]
    by_cases hj : j < (keysOf n wt).length
    · rw [List.getElem?_append_left hj, keys_at wt n j i]
      constructor
      · rintro ⟨h1, h2, h3⟩; exact ⟨by omega, h2, h3⟩
      · rintro ⟨h1, h2, h3⟩
        refine ⟨?_, h2, h3⟩
        rcases Nat.lt_or_ge i n with h | h
        · exact h
        · have : i = n := by omega
          subst this
          unfold rank at h3; omega
    · rw [List.getElem?_append_right (by omega)]
      by_cases hn : (wt n).isSome = true
      · rw [if_pos hn]
        constructor
        · intro h
          have hj0 : j - (keysOf n wt).length = 0 := by
            rcases Nat.eq_zero_or_pos (j - (keysOf n wt).length) with h0 | h0
            · exact h0
            · rw [List.getElem?_eq_none (by simp; omega)] at h; cases h
          rw [hj0] at h
          simp at h
          subst h
          exact ⟨by omega, hn, by unfold rank; omega⟩
        · rintro ⟨h1, h2, h3⟩
          rcases Nat.lt_or_ge i n with h | h
          · have := rank_lt h h2
            unfold rank at this h3; omega
          · have : i = n := by omega
            subst this
            unfold rank at h3
            rw [h3, Nat.sub_self]; rfl
      · rw [if_neg hn]
        constructor
        · intro h; simp at h
        · rintro ⟨h1, h2, h3⟩
          rcases Nat.lt_or_ge i n with h | h
          · have := rank_lt h h2
            unfold rank at this h3; omega
          · have : i = n := by omega
            subst this
            exact absurd h2 hn
theorem keys_len_le (wt : Wt) (n : Nat) : (keysOf n wt).length ≤ n := by
  have := List.length_filter_le (fun i => (wt i).isSome) (List.range n)
  rwa [List.length_range] at this
def cutN (cuts : List Int) (j : Nat) : Nat := if j < cuts.length then (max 0 (min (cuts.getD j 0) 64)).toNat else 0
theorem cutN_le (cuts : List Int) (j : Nat) : cutN cuts j ≤ 64 := by unfold cutN; split <;> omega
def cutS (las : List Int) (wt : Wt) (cuts : List Int) (i : Nat) : List Int :=
  match wt i with
  | none => sec las i
  | some b => b.take (cutN cuts (rank wt i)) ++ (sec las i).drop (cutN cuts (rank wt i))
def crashTo (las : List Int) (wt : Wt) (cuts : List Int) (j : Nat) : List Int := secs (las.length / 64) (fun i => if rank wt i < j then cutS las wt cuts i else sec las i)
def crashed (las : List Int) (wt : Wt) (cuts : List Int) : List Int := secs (las.length / 64) (cutS las wt cuts)
section
variable {las : List Int} {wt : Wt} {cuts : List Int} {n : Nat}
theorem cutS_len (hn : las.length = 64 * n) (hw : ∀ i b, wt i = some b → b.length = 64) : ∀ i, i < n → (cutS las wt cuts i).length = 64 := fun i hi => by
  have hs := sec_len (l := las) (i := i) (by omega)
  unfold cutS
  cases h : wt i with
  | none => exact hs
  | some b =>
    have := hw i b h; have := cutN_le cuts (rank wt i)
    simp only [List.length_append, List.length_take, List.length_drop]; omega
theorem crashTo_zero (hn : las.length = 64 * n) : crashTo las wt cuts 0 = las := by
  unfold crashTo
  rw [show las.length / 64 = n by omega, ← secs_self hn]
  refine secs_congr fun i hi => ?_
  rw [if_neg (by omega), secs_self hn]
theorem crashTo_all (hn : las.length = 64 * n) : crashTo las wt cuts (keysOf n wt).length = crashed las wt cuts := by
  unfold crashTo crashed
  refine secs_congr fun i hi => ?_
  by_cases h : rank wt i < (keysOf n wt).length
  · rw [if_pos h]
  · rw [if_neg h]
    unfold cutS
    cases hw : wt i with
    | none => rfl
    | some b =>
      have := rank_lt (wt := wt) (i := i) (j := n) (by omega) (by rw [hw]; rfl)
      unfold rank at this h; omega
theorem crashTo_step {j i : Nat} {b : List Int} (hn : las.length = 64 * n) (hw : ∀ i b, wt i = some b → b.length = 64) (hk : (keysOf n wt)[j]? = some i) (hb : wt i = some b) :
    over (crashTo las wt cuts j) (64 * i) (b.take (cutN cuts j)) = crashTo las wt cuts (j + 1) := by
  obtain ⟨h1, h2, h3⟩ := (keys_at wt n j i).1 hk
  have hbl := hw i b hb
  have hc := cutN_le cuts j
  have hlen : ∀ k, k < las.length / 64 → ((fun i => if rank wt i < j then cutS las wt cuts i else sec las i) k).length = 64 := fun k hk => by
    dsimp only
    split
    · exact cutS_len hn hw k (by omega)
    · exact sec_len (by omega)
  unfold crashTo
  rw [over_secs hlen (by omega) (by rw [List.length_take]; omega)]
  refine secs_congr fun k hk => ?_
  by_cases hki : k = i
  · subst hki
    rw [if_pos rfl, if_neg (show ¬ rank wt k < j by omega), if_pos (show rank wt k < j + 1 by omega)]
    unfold cutS
    rw [hb, h3]
    dsimp only
    rw [List.length_take, Nat.min_eq_left (by omega)]
  · rw [if_neg hki]
    by_cases h : rank wt k < j
    · rw [if_pos h, if_pos (by omega)]
    · rw [if_neg h]
      by_cases h4 : rank wt k < j + 1
      · rw [if_pos h4]
        unfold cutS
        cases hwk : wt k with
        | none => rfl
        | some c =>
          exfalso
          have hkk : (wt k).isSome = true := by rw [hwk]; rfl
          rcases Nat.lt_or_ge k i with h5 | h5
          · have := rank_lt h5 hkk; omega
          · have := rank_lt (show i < k by omega) h2; omega
      · rw [if_neg h4]
end
end Go.Proofs.YtjngnigelkgekaaGreat.Kit
namespace Go.Proofs.YtjngnigelkgekaaGreat.Disk
open Go.RowKit Go.Proofs.YtjngnigelkgekaaGreatW.PrintWords Go.Proofs.YtjngnigelkgekaaGreatW.PrintLast Go.Proofs.YtjngnigelkgekaaGreatW.PrintMore Go.Proofs.YtjngnigelkgekaaGreat.Kit
abbrev I64 : Kd Int := Kd.int .i64
end Go.Proofs.YtjngnigelkgekaaGreat.Disk
namespace Go.Proofs.YtjngnigelkgekaaGreat.Disk
open Go.RowKit Go.Proofs.YtjngnigelkgekaaGreatW.PrintWords Go.Proofs.YtjngnigelkgekaaGreatW.PrintLast Go.Proofs.YtjngnigelkgekaaGreatW.PrintMore Go.Proofs.YtjngnigelkgekaaGreat.Kit
theorem cut_is {cuts : List Int} {j : Nat} (hj : j < cuts.length) : (if 0 < (if 64 < rd cuts (j : Int) then 64 else rd cuts (j : Int)) then (if 64 < rd cuts (j : Int) then 64 else rd cuts (j : Int)) else 0) = (cutN cuts j : Int) := by
  unfold cutN rd
  rw [if_pos hj, Int.toNat_natCast]
  generalize cuts.getD j 0 = y
  repeat' split
  all_goals omega
end Go.Proofs.YtjngnigelkgekaaGreat.Disk
namespace Go.Proofs.YtjngnigelkgekaaGreat.Book
open Go.RowKit Go.Proofs.YtjngnigelkgekaaGreatW.PrintWords Go.Proofs.YtjngnigelkgekaaGreat.Kit
def withinF (n lo hi : Int) : Int :=
  if lo ≤ n ∧ n ≤ hi then n else lo + (if n.tmod (hi - lo + 1) < 0 then n.tmod (hi - lo + 1) + hi - lo + 1 else n.tmod (hi - lo + 1))
theorem withinF_in {n lo hi : Int} (h : lo ≤ hi) : lo ≤ withinF n lo hi ∧ withinF n lo hi ≤ hi := by
  unfold withinF
  split
  · omega
  · have h1 : n.tmod (hi - lo + 1) < hi - lo + 1 := Int.tmod_lt_of_pos n (by omega)
    have h2 : -(hi - lo + 1) < n.tmod (hi - lo + 1) := Int.lt_tmod_of_pos n (by omega)
    split <;> omega
theorem withinF_id {n lo hi : Int} (h1 : lo ≤ n) (h2 : n ≤ hi) : withinF n lo hi = n := if_pos ⟨h1, h2⟩
set_option maxHeartbeats 400000 in
theorem within_ (n lo hi : Int) (w : World) (h1 : -1073741824 ≤ lo) (h2 : lo ≤ hi) (h3 : hi ≤ 1073741824) :
    Calls Tryz.prog 10 #[.int .i64 n, .int .i64 lo, .int .i64 hi] w fun e w' => e = .returned (.int .i64 (withinF n lo hi)) ∧ w = w' := by
  have A0 := Aside0.mk (withinF_in (n := n) h2)
  have r1 : n.tmod (hi - lo + 1) < hi - lo + 1 := Int.tmod_lt_of_pos n (by omega)
  have r2 : -(hi - lo + 1) < n.tmod (hi - lo + 1) := Int.lt_tmod_of_pos n (by omega)
  have nz : ¬ (hi - lo + 1 = 0) := by omega
  have fin : ∀ (a : Int), withinF n lo hi = a → Ending.returned (.int .i64 a) = Ending.returned (.int .i64 (withinF n lo hi)) := fun a h => by rw [h]
  have AF := Aside0.mk fin
  clear fin
  by_cases c1 : lo ≤ n
  · by_cases c2 : n ≤ hi
    · have A1 := Aside0.mk (withinF_id c1 c2)
      clear r1 r2 nz
      go_enter Tryz.func10, Tryz.ntmps10
      go_wp2
      go_ret
      exact ⟨AF.out _ A1.out, rfl⟩
    · have A1 : Aside0 (withinF n lo hi = lo + (if n.tmod (hi - lo + 1) < 0 then n.tmod (hi - lo + 1) + hi - lo + 1 else n.tmod (hi - lo + 1))) := ⟨if_neg (fun h => c2 h.2)⟩
      by_cases c3 : n.tmod (hi - lo + 1) < 0
      · go_enter Tryz.func10, Tryz.ntmps10
        go_wp2
        go_ret
        exact ⟨AF.out _ (by rw [A1.out, if_pos c3]), rfl⟩
      · go_enter Tryz.func10, Tryz.ntmps10
        go_wp2
        go_ret
        exact ⟨AF.out _ (by rw [A1.out, if_neg (by omega)]), rfl⟩
  · have A1 : Aside0 (withinF n lo hi = lo + (if n.tmod (hi - lo + 1) < 0 then n.tmod (hi - lo + 1) + hi - lo + 1 else n.tmod (hi - lo + 1))) := ⟨if_neg (fun h => c1 h.1)⟩
    by_cases c3 : n.tmod (hi - lo + 1) < 0
    · go_enter Tryz.func10, Tryz.ntmps10
      go_wp2
      go_ret
      exact ⟨AF.out _ (by rw [A1.out, if_pos c3]), rfl⟩
    · go_enter Tryz.func10, Tryz.ntmps10
      go_wp2
      go_ret
      exact ⟨AF.out _ (by rw [A1.out, if_neg (by omega)]), rfl⟩
end Go.Proofs.YtjngnigelkgekaaGreat.Book
namespace Go.Proofs.YtjngnigelkgekaaGreat.Disk
open Go.RowKit Go.Proofs.YtjngnigelkgekaaGreatW.PrintWords Go.Proofs.YtjngnigelkgekaaGreatW.PrintLast Go.Proofs.YtjngnigelkgekaaGreatW.PrintMore Go.Proofs.YtjngnigelkgekaaGreat.Kit
theorem make_ {m : Nat} (hm : m ≤ 100000) : ∀ W : World, (Instr.makeSlice 24 (.int .i64 (m : Int)) (.int .i64 (m : Int))).run Tryz.prog W = .ok (.slice (some ⟨W.heap.size, 0, none⟩) m m) (W.alloc (.cells (madeCells #[.int .u8 0] m) 5)) :=
  print_make (P := Tryz.prog) 24 5 .u8 1 Tryz.underlying24 infoB (by decide) m (by omega)
theorem madeB {w0 W : World} {F : List HP} (m : Nat) (h : Sep w0 W F) (hm : m ≤ 100000) : Sep w0 (W.alloc (.cells (madeCells #[.int .u8 0] m) 5)) (Row U8 5 (.slice (some ⟨W.heap.size, 0, none⟩) m m) (List.replicate m 0) :: F) :=
  h.madeRow (h1 := fun _ => rfl) (e := 5) (enc := Value.int .u8) 0 m (by omega)
end Go.Proofs.YtjngnigelkgekaaGreat.Disk
namespace Go.Proofs.YtjngnigelkgekaaGreat.Disk
open Go.RowKit Go.Proofs.YtjngnigelkgekaaGreatW.PrintWords Go.Proofs.YtjngnigelkgekaaGreatW.PrintLast Go.Proofs.YtjngnigelkgekaaGreatW.PrintMore Go.Proofs.YtjngnigelkgekaaGreat.Kit
theorem flushed_none {las : List Int} {n : Nat} (h : las.length = 64 * n) : flushed las (fun _ => none) = las := by
  unfold flushed
  rw [show las.length / 64 = n by omega]
  exact secs_self h
end Go.Proofs.YtjngnigelkgekaaGreat.Disk
namespace Go.Proofs.YtjngnigelkgekaaGreat.Disk
end Go.Proofs.YtjngnigelkgekaaGreat.Disk
namespace Go.Proofs.YtjngnigelkgekaaGreat.Kit.Sep
open Go.Proofs.YtjngnigelkgekaaGreat.Kit
theorem to5 {w0 W : World} {p q r s t : HP} {F : List HP} (h : Sep w0 W (p :: q :: r :: s :: t :: F)) : Sep w0 W (q :: r :: s :: t :: p :: F) := h.to4.perm (.cons _ (.cons _ (.cons _ (.swap _ _ _))))
end Go.Proofs.YtjngnigelkgekaaGreat.Kit.Sep
namespace Go.Proofs.YtjngnigelkgekaaGreat.Ref
open Go.RowKit Go.Proofs.YtjngnigelkgekaaGreatW.PrintWords Go.Proofs.YtjngnigelkgekaaGreatW.PrintLast Go.Proofs.YtjngnigelkgekaaGreatW.PrintMore Go.Proofs.YtjngnigelkgekaaGreat.Kit Go.Proofs.YtjngnigelkgekaaGreat.Disk
abbrev BK : Kd Bool := Kd.bool
theorem infoT : (Tryz.prog.info? 4).map (fun i => (i.zero, i.size, i.bytes)) = some (some (.bool false), 1, 1) := by kernel_rfl
def RD (g n : Nat) (las now : List Int) (wait : List Bool) (left done : Int) : HP := Ex fun (x : Value × Value × Value) =>
  Star [Pu (1 ≤ n ∧ n ≤ 160 ∧ las.length = 64 * n ∧ now.length = 64 * n ∧ wait.length = n), Blk g 93 #[x.1, x.2.1, x.2.2, .int .i64 left, .int .i64 done],
    Row U8 5 x.1 las, Row U8 5 x.2.1 now, Row BK 4 x.2.2 wait]
section
variable {w0 W : World} {g n : Nat} {las now : List Int} {wait : List Bool} {left done : Int} {F : List HP}
theorem open_ (h : Sep w0 W (RD g n las now wait left done :: F)) : ∃ gl cl gn cn gw cw, (1 ≤ n ∧ n ≤ 160 ∧ las.length = 64 * n ∧ now.length = 64 * n ∧ wait.length = n ∧ 64 * n ≤ cl ∧ 64 * n ≤ cn ∧ n ≤ cw) ∧
    Sep w0 W (Blk g 93 #[.slice (some ⟨gl, 0, none⟩) (64 * n) cl, .slice (some ⟨gn, 0, none⟩) (64 * n) cn, .slice (some ⟨gw, 0, none⟩) n cw, .int .i64 left, .int .i64 done] ::
      Row U8 5 (.slice (some ⟨gl, 0, none⟩) (64 * n) cl) las :: Row U8 5 (.slice (some ⟨gn, 0, none⟩) (64 * n) cn) now :: Row BK 4 (.slice (some ⟨gw, 0, none⟩) n cw) wait :: F) := by
  obtain ⟨⟨v0, v1, v2⟩, h⟩ := h.ex
  obtain ⟨⟨n1, n2, n3, n4, n5⟩, h⟩ := h.star.pu
  obtain ⟨gl, cl, e0⟩ := h.tail.rowFormN n3 (by omega)
  obtain ⟨gn, cn, e1⟩ := h.tail.tail.rowFormN n4 (by omega)
  obtain ⟨gw, cw, e2⟩ := h.tail.tail.tail.rowFormN n5 (by omega)
  subst e0 e1 e2
  have h : Sep w0 W (Blk g 93 _ :: Row U8 5 (.slice (some ⟨gl, 0, none⟩) (64 * n) cl) las :: Row U8 5 (.slice (some ⟨gn, 0, none⟩) (64 * n) cn) now :: Row BK 4 (.slice (some ⟨gw, 0, none⟩) n cw) wait :: F) := h
  exact ⟨gl, cl, gn, cn, gw, cw, ⟨n1, n2, n3, n4, n5, h.tail.rowC.2.1, h.tail.tail.rowC.2.1, h.tail.tail.tail.rowC.2.1⟩, h⟩
theorem shut_ {v0 v1 v2 : Value} (n1 : 1 ≤ n) (n2 : n ≤ 160) (n3 : las.length = 64 * n) (n4 : now.length = 64 * n) (n5 : wait.length = n)
    (h : Sep w0 W (Blk g 93 #[v0, v1, v2, .int .i64 left, .int .i64 done] :: Row U8 5 v0 las :: Row U8 5 v1 now :: Row BK 4 v2 wait :: F)) : Sep w0 W (RD g n las now wait left done :: F) := by
  refine Sep.unex (v0, v1, v2) (Sep.unstar ?_)
  exact Sep.unpu ⟨n1, n2, n3, n4, n5⟩ h
set_option maxHeartbeats 400000 in
theorem len_ (h : Sep w0 W (RD g n las now wait left done :: F)) :
    Calls Tryz.prog 78 #[.pointer (some ⟨g, 0, none⟩)] W fun e w' => e = .returned (.int .i64 (n : Int)) ∧ W = w' := by
  obtain ⟨gl, cl, gn, cn, gw, cw, hn, hs⟩ := open_ h
  have c2 : W.cell? ⟨g, 2, none⟩ = some (.slice (some ⟨gw, 0, none⟩) n cw) := by rw [hs.cell 2]; rfl
  clear h hs
  go_enter Tryz.func78, Tryz.ntmps78
  go_wp2
  go_ret
  exact ⟨by first | rfl | (simp; done), rfl⟩
def leftF (left : Int) : Int := if 0 < left then left - 1 else left
set_option maxHeartbeats 400000 in
theorem deed_no (h : Sep w0 W (RD g n las now wait 0 done :: F)) :
    Calls Tryz.prog 87 #[.pointer (some ⟨g, 0, none⟩)] W fun e w' => e = .returned (.bool false) ∧ W = w' := by
  obtain ⟨gl, cl, gn, cn, gw, cw, hn, hs⟩ := open_ h
  have c3 : W.cell? ⟨g, 3, none⟩ = some (.int .i64 0) := by rw [hs.cell 3]; rfl
  clear h hs
  go_enter Tryz.func87, Tryz.ntmps87
  go_wp2
  go_ret
  exact ⟨by first | rfl | (simp; done), rfl⟩
set_option maxHeartbeats 800000 in
theorem deed_yes (h : Sep w0 W (RD g n las now wait left done :: F)) (h0 : left ≠ 0) (h1 : -9223372036854775808 ≤ left ∧ left ≤ 9223372036854775807) (h2 : 0 ≤ done ∧ done < 9223372036854775807) :
    Calls Tryz.prog 87 #[.pointer (some ⟨g, 0, none⟩)] W fun e w' => e = .returned (.bool true) ∧ Sep w0 w' (RD g n las now wait (leftF left) (done + 1) :: F) := by
  obtain ⟨gl, cl, gn, cn, gw, cw, hn, hs⟩ := open_ h
  have c3 : W.cell? ⟨g, 3, none⟩ = some (.int .i64 left) := by rw [hs.cell 3]; rfl
  have c4 : W.cell? ⟨g, 4, none⟩ = some (.int .i64 done) := by rw [hs.cell 4]; rfl
  have z3 := hs.frozen 3
  have z4 := hs.frozen 4
  have AS := Aside0.mk hs
  have AN := Aside0.mk hn
  clear h hs hn
  by_cases hp : 0 < left
  · go_enter Tryz.func87, Tryz.ntmps87
    go_wp2
    go_ret
    obtain ⟨n1, n2, n3, n4, n5, _⟩ := AN.out
    refine ⟨by first | rfl | (simp; done), ?_⟩
    have : leftF left = left - 1 := if_pos hp
    rw [this]
    exact shut_ n1 n2 n3 n4 n5 ((AS.out.setBlk 3 (.int .i64 (left - 1))).setBlk 4 (.int .i64 (done + 1)))
  · go_enter Tryz.func87, Tryz.ntmps87
    go_wp2
    go_ret
    obtain ⟨n1, n2, n3, n4, n5, _⟩ := AN.out
    refine ⟨by first | rfl | (simp; done), ?_⟩
    have : leftF left = left := if_neg (by omega)
    rw [this]
    exact shut_ n1 n2 n3 n4 n5 (AS.out.setBlk 4 (.int .i64 (done + 1)))
end
end Go.Proofs.YtjngnigelkgekaaGreat.Ref
