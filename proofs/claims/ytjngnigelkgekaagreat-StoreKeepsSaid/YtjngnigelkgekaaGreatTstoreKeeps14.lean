/- StFits, RefD2, RefD3, RefD4: what StoreKeeps needs. -/
import Derived.Test.YtjngnigelkgekaaGreatTstoreKeeps13
namespace Go.Proofs.YtjngnigelkgekaaGreat.Store
set_option linter.unusedVariables false
set_option linter.unusedSimpArgs false
open Go.RowKit Go.Proofs.YtjngnigelkgekaaGreatW.PrintWords Go.Proofs.YtjngnigelkgekaaGreatW.PrintLast Go.Proofs.YtjngnigelkgekaaGreatW.PrintMore Go.Proofs.YtjngnigelkgekaaGreat.Kit Go.Proofs.YtjngnigelkgekaaGreat.Plain
open Go.Proofs.YtjngnigelkgekaaGreat.Redo (sizeF sizeF_in size_)
open Go.Proofs.YtjngnigelkgekaaGreat.Delta (needF need_ rneed_)
theorem lf_nums {s u : Int} (h0 : 0 ≤ u) (h1 : u ≤ s) (h2 : s ≤ 4096) : wrap64 (s - u) = s - u := IntWalk.wrap64_in _ (by omega)
set_option maxHeartbeats 400000 in
theorem left_ (a b c : Int) (u : Nat) (hu : (u : Int) ≤ sizeF a) (W : World) : Calls Tryz.prog 105 #[.agg #[.int .i64 a, .int .i64 b, .int .u32 c], .int .i64 (u : Int)] W fun e w' => e = .returned (.int .i64 (sizeF a - u)) ∧ Below W.heap.size W w' := by
  have hs := sizeF_in a
  obtain ⟨s, hs_⟩ : ∃ s, sizeF a = s := ⟨_, rfl⟩
  rw [hs_] at hs hu
  have HS := Aside0.mk hs_
  have hw := lf_nums (s := s) (u := (u : Int)) (by omega) hu hs.2
  have HMX : Aside0 (max 0 (s - (u : Int)) = s - (u : Int)) := ⟨by omega⟩
  have HMY : Aside0 (max (s - (u : Int)) 0 = s - (u : Int)) := ⟨by omega⟩
  have A0 := Aside0.mk ((Sep.start W).newBlk 80 #[.int .i64 a, .int .i64 b, .int .u32 c])
  have z0 := (A0.out.cell 0).trans rfl
  have z1 := (A0.out.cell 1).trans rfl
  have z2 := (A0.out.cell 2).trans rfl
  clear hs_
  go_enter Tryz.func105, Tryz.ntmps105
  go_wp2_with fail
  refine (size_ a b c _).mono ?_
  rintro e w1 ⟨rfl, hb1⟩
  rw [HS.out]
  have A1 := Aside0.mk (A0.out.below hb1)
  clear hb1 z0 z1 z2
  go_wp2_with fail
  first | rw [HMX.out] | rw [HMY.out]
  go_ret
  exact ⟨by rw [HS.out]; first | rfl | (simp; done), A1.out.tail.toBelow⟩
def fitsF (a : Int) (u n : Nat) : Bool := decide (0 < needF (n : Int) ∧ needF (n : Int) ≤ sizeF a - (u : Int))
theorem need_in (n : Int) : 0 ≤ needF n ∧ needF n ≤ 4242 := by unfold needF; split <;> omega
set_option maxHeartbeats 800000 in
theorem fits_ (a b c : Int) (u n : Nat) (hu : (u : Int) ≤ sizeF a) (W : World) : Calls Tryz.prog 70 #[.agg #[.int .i64 a, .int .i64 b, .int .u32 c], .int .i64 (u : Int), .int .i64 (n : Int)] W fun e w' => e = .returned (.bool (fitsF a u n)) ∧ Below W.heap.size W w' := by
  have hn := need_in (n : Int)
  obtain ⟨q, hq⟩ : ∃ q, needF (n : Int) = q := ⟨_, rfl⟩
  rw [hq] at hn
  have HQ := Aside0.mk hq
  have HU := Aside0.mk hu
  have A0 := Aside0.mk ((Sep.start W).newBlk 80 #[.int .i64 a, .int .i64 b, .int .u32 c])
  have z0 := (A0.out.cell 0).trans rfl
  have z1 := (A0.out.cell 1).trans rfl
  have z2 := (A0.out.cell 2).trans rfl
  clear hq hu
  by_cases h0 : 0 < q
  case neg =>
    have hd : decide (0 < q) = false := decide_eq_false h0
    have HV : Aside0 (fitsF a u n = false) := ⟨by unfold fitsF; rw [HQ.out]; exact decide_eq_false (fun h => h0 h.1)⟩
    go_enter Tryz.func70, Tryz.ntmps70
    go_wp2_with fail
    refine (need_ (n : Int) _).mono ?_
    rintro e w1 ⟨rfl, rfl⟩
    rw [HQ.out]
    go_wp2_with fail
    go_ret
    exact ⟨by rw [HV.out]; first | rfl | (simp; done), A0.out.tail.toBelow⟩
  case pos =>
  have hd : decide (0 < q) = true := decide_eq_true h0
  obtain ⟨s, hs⟩ : ∃ s, sizeF a - (u : Int) = s := ⟨_, rfl⟩
  have HV : Aside0 (fitsF a u n = decide (q ≤ s)) := ⟨by unfold fitsF; rw [HQ.out, hs]; by_cases h : q ≤ s <;> simp [h, h0]⟩
  have HS := Aside0.mk hs
  clear hs
  go_enter Tryz.func70, Tryz.ntmps70
  go_wp2_with fail
  refine (need_ (n : Int) _).mono ?_
  rintro e w1 ⟨rfl, rfl⟩
  rw [HQ.out]
  go_wp2_with fail
  refine (left_ a b c u HU.out _).mono ?_
  rintro e w2 ⟨rfl, hb2⟩
  rw [HS.out]
  have A2 := Aside0.mk (A0.out.below hb2)
  clear hb2
  by_cases hqs : q ≤ s
  · have hd2 : decide (q ≤ s) = true := decide_eq_true hqs
    go_wp2_with fail
    go_ret
    exact ⟨by rw [HV.out, hd2]; first | rfl | (simp; done), A2.out.tail.toBelow⟩
  · have hd2 : decide (q ≤ s) = false := decide_eq_false hqs
    go_wp2_with fail
    go_ret
    exact ⟨by rw [HV.out, hd2]; first | rfl | (simp; done), A2.out.tail.toBelow⟩
end Go.Proofs.YtjngnigelkgekaaGreat.Store
namespace Go.Proofs.YtjngnigelkgekaaGreat.Delta
set_option linter.unusedVariables false
set_option linter.unusedSimpArgs false
open Go.RowKit Go.Proofs.YtjngnigelkgekaaGreatW.PrintWords Go.Proofs.YtjngnigelkgekaaGreatW.PrintLast Go.Proofs.YtjngnigelkgekaaGreatW.PrintMore Go.Proofs.YtjngnigelkgekaaGreat.Kit Go.Proofs.YtjngnigelkgekaaGreat.Base Go.Proofs.YtjngnigelkgekaaGreat.Plain
set_option maxHeartbeats 1600000 in
set_option maxRecDepth 100000 in
theorem rdelta_ {A : Option Addr} {n c : Nat} {l : List Chg} {w : World} (hr : KC.C w A n l) (hl : (deltaF l).length ≤ 1000000) :
    Calls Tryz.prog 34 #[.slice A n c] w fun e w' => ∃ v, e = .returned v ∧ Sep w w' [Row U8 5 v (deltaF l)] := by
  obtain rfl : l.length = n := hr.1
  have hm : l.length ≤ 9223372036854775807 := hr.2.1
  have HR := Aside0.mk hr
  have A1 := Aside0.mk ((Sep.start w).litRow (enc := Value.int .u8) (h1 := fun _ => rfl) (e := 5) (two (l.length : Int)) (by simp [two]))
  have HL := Aside0.mk hl
  clear hr hl
  go_enter Tryz.func34, Tryz.ntmps34
  go_wp2_with fail
  go_loopg [3, 15] l.length (fun m v p wr => ∃ (j : Nat), p = .int .i64 (j : Int) ∧ j + m = l.length ∧ Sep w wr [Row U8 5 v (two (l.length : Int) ++ (l.take j).flatMap oneF)])
  case atStart => exact ⟨0, rfl, by omega, by rw [show (l.take 0).flatMap oneF = [] from rfl, List.append_nil]; exact A1.out⟩
  case round =>
    obtain ⟨j, rfl, hjm, hS⟩ := hrel
    have AK := Aside0.mk hjm
    by_cases hj : j < l.length
    · obtain ⟨hx, a, B, c2, rfl, e0, e1, e2, e3⟩ := elem2_ HR.out hj
      have htk := take_get hj
      have hsn : (l.take (j + 1)).flatMap oneF = (l.take j).flatMap oneF ++ (two (l[j]).1 ++ (l[j]).2) := by rw [htk, flat_snoc]
      have hle := flat_take_le l (j + 1)
      have hll := HL.out
      rw [hsn] at hle
      unfold deltaF at hll
      have HE3 := Aside0.mk e3
      have HSN := Aside0.mk hsn
      obtain ⟨pg, hpg⟩ : ∃ pg, (l[j]).1 = pg := ⟨_, rfl⟩
      obtain ⟨bs, hbs⟩ : ∃ bs, (l[j]).2 = bs := ⟨_, rfl⟩
      obtain ⟨bn, hbn⟩ : ∃ bn, bs.length = bn := ⟨_, rfl⟩
      rw [hpg] at e0 hle HSN
      rw [hbs] at e1 hle HSN HE3
      rw [hbn] at e1 HE3
      obtain ⟨pre, hpre⟩ : ∃ pre, two (l.length : Int) ++ (l.take j).flatMap oneF = pre := ⟨_, rfl⟩
      have hpl : pre.length + (2 + bn) ≤ 1000000 := by
        rw [← hpre, ← hbn]
        simp [two] at hle hll ⊢
        omega
      rw [hpre] at hS
      obtain ⟨A3, c3, rfl⟩ := hS.rowV
      have BK := Aside0.mk hS.drew
      have AP := Aside0.mk hpre
      have APL := Aside0.mk hpl
      have ABN := Aside0.mk hbn
      have HE0 := Aside0.mk e0
      have HE1 := Aside0.mk e1
      have z0 := cell_later BK.out.toBelow e0
      have z1 := cell_later BK.out.toBelow e1
      have hjl : (j : Int) < (l.length : Int) := by omega
      clear hjm hS htk hsn hle hll e0 e1 e2 e3 hpg hbs hbn hpre hpl
      go_wp2_with fail
      refine start_ (n := 23) (S := fun w' => w'.cell? (a.add (j * 2)) = some (.int .i64 pg) ∧ w'.cell? ⟨(a.add (j * 2)).block, (a.add (j * 2)).off + 1, none⟩ = some (.slice B bn c2)) (ds := [21]) #[false, false, false, false, false, false, false, false, false, false, false, false, false, false, false, false, false, false, false, false, false, false, false] (by kernel_rfl) rfl rfl ⟨z0, z1⟩ (fun hHeld => ?_)
      refine pure_ (i := 0) (N := some 18) (v := ?_) (a' := ?_) #[true, false, false, false, false, false, false, false, false, false, false, false, false, false, false, false, false, false, false, false, false, false, false] rfl rfl (by kernel_rfl) (fun _ _ _ h => h) (Or.inl ⟨by rfl, ?_⟩) ?_ ?_
      rotate_left
      · intro w'
        go_simp
        with_reducible rfl
      rotate_left
      · simp only [Act.put, List.setIfInBounds_toArray, List.set_cons_zero, List.set_cons_succ, i64_w, i32_w]
        rfl
      refine pure_ (i := 1) (N := some 19) (v := ?_) (a' := ?_) #[true, true, false, false, false, false, false, false, false, false, false, false, false, false, false, false, false, false, false, false, false, false, false] rfl rfl (by kernel_rfl) (fun _ _ _ h => h) (Or.inl ⟨by rfl, ?_⟩) ?_ ?_
      rotate_left
      · intro w'
        go_simp
        with_reducible rfl
      rotate_left
      · simp only [Act.put, List.setIfInBounds_toArray, List.set_cons_zero, List.set_cons_succ, i64_w, i32_w]
        rfl
      refine pure_ (i := 2) (N := some 20) (v := ?_) (a' := ?_) #[true, true, true, false, false, false, false, false, false, false, false, false, false, false, false, false, false, false, false, false, false, false, false] rfl rfl (by kernel_rfl) (fun _ _ _ h => h) (Or.inl ⟨by rfl, ?_⟩) ?_ ?_
      rotate_left
      · intro w'
        go_simp
        with_reducible rfl
      rotate_left
      · simp only [Act.put, List.setIfInBounds_toArray, List.set_cons_zero, List.set_cons_succ, i64_w, i32_w]
        rfl
      refine pure_ (i := 3) (N := some 21) (v := ?_) (a' := ?_) #[true, true, true, true, false, false, false, false, false, false, false, false, false, false, false, false, false, false, false, false, false, false, false] rfl rfl (by kernel_rfl) (fun _ _ _ h => h) (Or.inl ⟨by rfl, ?_⟩) ?_ ?_
      rotate_left
      · intro w'
        go_simp
        with_reducible rfl
      rotate_left
      · simp only [Act.put, List.setIfInBounds_toArray, List.set_cons_zero, List.set_cons_succ, i64_w, i32_w]
        rfl
      refine pure_ (i := 4) (N := some 22) (v := ?_) (a' := ?_) #[true, true, true, true, true, false, false, false, false, false, false, false, false, false, false, false, false, false, false, false, false, false, false] rfl rfl (by kernel_rfl) (fun _ _ _ h => h) (Or.inl ⟨by rfl, ?_⟩) ?_ ?_
      rotate_left
      · intro w'
        go_simp
        with_reducible rfl
      rotate_left
      · simp only [Act.put, List.setIfInBounds_toArray, List.set_cons_zero, List.set_cons_succ, i64_w, i32_w]
        rfl
      refine pure_ (i := 8) (N := some 26) (v := ?_) (a' := ?_) #[true, true, true, true, true, false, false, false, true, false, false, false, false, false, false, false, false, false, false, false, false, false, false] rfl rfl (by kernel_rfl) (fun _ _ _ h => h) (Or.inl ⟨by rfl, ?_⟩) ?_ ?_
      rotate_left
      · intro w'
        go_simp
        with_reducible rfl
      rotate_left
      · simp only [Act.put, List.setIfInBounds_toArray, List.set_cons_zero, List.set_cons_succ, i64_w, i32_w]
        rfl
      refine pure_ (i := 9) (N := some 27) (v := ?_) (a' := ?_) #[true, true, true, true, true, false, false, false, true, true, false, false, false, false, false, false, false, false, false, false, false, false, false] rfl rfl (by kernel_rfl) (fun _ _ _ h => h) (Or.inl ⟨by rfl, ?_⟩) ?_ ?_
      rotate_left
      · intro w'
        go_simp
        with_reducible rfl
      rotate_left
      · simp only [Act.put, List.setIfInBounds_toArray, List.set_cons_zero, List.set_cons_succ, i64_w, i32_w]
        rfl
      refine pure_ (i := 10) (N := some 28) (v := ?_) (a' := ?_) #[true, true, true, true, true, false, false, false, true, true, true, false, false, false, false, false, false, false, false, false, false, false, false] rfl rfl (by kernel_rfl) (fun _ _ _ h => h) (Or.inl ⟨by rfl, ?_⟩) ?_ ?_
      rotate_left
      · intro w'
        go_simp
        with_reducible rfl
      rotate_left
      · simp only [Act.put, List.setIfInBounds_toArray, List.set_cons_zero, List.set_cons_succ, i64_w, i32_w]
        rfl
      refine pure_ (i := 11) (N := some 29) (v := ?_) (a' := ?_) #[true, true, true, true, true, false, false, false, true, true, true, true, false, false, false, false, false, false, false, false, false, false, false] rfl rfl (by kernel_rfl) (fun _ _ _ h => h) (Or.inl ⟨by rfl, ?_⟩) ?_ ?_
      rotate_left
      · intro w'
        go_simp
        with_reducible rfl
      rotate_left
      · simp only [Act.put, List.setIfInBounds_toArray, List.set_cons_zero, List.set_cons_succ, i64_w, i32_w]
        rfl
      refine pure_ (i := 16) (N := some 34) (v := ?_) (a' := ?_) #[true, true, true, true, true, false, false, false, true, true, true, true, false, false, false, false, true, false, false, false, false, false, false] rfl rfl (by kernel_rfl) (fun _ _ _ h => h) (Or.inl ⟨by rfl, ?_⟩) ?_ ?_
      rotate_left
      · intro w'
        go_simp
        with_reducible rfl
      rotate_left
      · simp only [Act.put, List.setIfInBounds_toArray, List.set_cons_zero, List.set_cons_succ, i64_w, i32_w]
        rfl
      refine pure_ (i := 17) (N := some 35) (v := ?_) (a' := ?_) #[true, true, true, true, true, false, false, false, true, true, true, true, false, false, false, false, true, true, false, false, false, false, false] rfl rfl (by kernel_rfl) (fun _ _ _ h => h) (Or.inl ⟨by rfl, ?_⟩) ?_ ?_
      rotate_left
      · intro w'
        go_simp
        with_reducible rfl
      rotate_left
      · simp only [Act.put, List.setIfInBounds_toArray, List.set_cons_zero, List.set_cons_succ, i64_w, i32_w]
        rfl
      refine pure_ (i := 18) (N := some 36) (v := ?_) (a' := ?_) #[true, true, true, true, true, false, false, false, true, true, true, true, false, false, false, false, true, true, true, false, false, false, false] rfl rfl (by kernel_rfl) (fun _ _ _ h => h) (Or.inl ⟨by rfl, ?_⟩) ?_ ?_
      rotate_left
      · intro w'
        go_simp
        with_reducible rfl
      rotate_left
      · simp only [Act.put, List.setIfInBounds_toArray, List.set_cons_zero, List.set_cons_succ, i64_w, i32_w]
        rfl
      refine pure_ (i := 19) (N := some 37) (v := ?_) (a' := ?_) #[true, true, true, true, true, false, false, false, true, true, true, true, false, false, false, false, true, true, true, true, false, false, false] rfl rfl (by kernel_rfl) (fun _ _ _ h => h) (Or.inl ⟨by rfl, ?_⟩) ?_ ?_
      rotate_left
      · intro w'
        go_simp
        with_reducible rfl
      rotate_left
      · simp only [Act.put, List.setIfInBounds_toArray, List.set_cons_zero, List.set_cons_succ, i64_w, i32_w]
        rfl
      refine take_ (i := 5) (N := some 23) (v := ?_) (a' := ?_) #[true, true, true, true, true, true, false, false, true, true, true, true, false, false, false, false, true, true, true, true, false, false, false] rfl rfl (by kernel_rfl) (fun _ _ _ h => h) (Or.inl ⟨by rfl, ?_⟩) hHeld ?_ ?_
      rotate_left
      · rintro w' ⟨s0, s1⟩
        go_simp
        with_reducible rfl
      rotate_left
      · simp only [Act.put, List.setIfInBounds_toArray, List.set_cons_zero, List.set_cons_succ, i64_w, i32_w]
        rfl
      refine pure_ (i := 6) (N := some 24) (v := ?_) (a' := ?_) #[true, true, true, true, true, true, true, false, true, true, true, true, false, false, false, false, true, true, true, true, false, false, false] rfl rfl (by kernel_rfl) (fun _ _ _ h => h) (Or.inl ⟨by rfl, ?_⟩) ?_ ?_
      rotate_left
      · intro w'
        go_simp
        with_reducible rfl
      rotate_left
      · simp only [Act.put, List.setIfInBounds_toArray, List.set_cons_zero, List.set_cons_succ, i64_w, i32_w]
        rfl
      refine pure_ (i := 7) (N := some 25) (v := ?_) (a' := ?_) #[true, true, true, true, true, true, true, true, true, true, true, true, false, false, false, false, true, true, true, true, false, false, false] rfl rfl (by kernel_rfl) (fun _ _ _ h => h) (Or.inl ⟨by rfl, ?_⟩) ?_ ?_
      rotate_left
      · intro w'
        go_simp
        with_reducible rfl
      rotate_left
      · simp only [Act.put, List.setIfInBounds_toArray, List.set_cons_zero, List.set_cons_succ, i64_w, i32_w]
        rfl
      refine take_ (i := 12) (N := some 30) (v := ?_) (a' := ?_) #[true, true, true, true, true, true, true, true, true, true, true, true, true, false, false, false, true, true, true, true, false, false, false] rfl rfl (by kernel_rfl) (fun _ _ _ h => h) (Or.inl ⟨by rfl, ?_⟩) hHeld ?_ ?_
      rotate_left
      · rintro w' ⟨s0, s1⟩
        go_simp
        with_reducible rfl
      rotate_left
      · simp only [Act.put, List.setIfInBounds_toArray, List.set_cons_zero, List.set_cons_succ, i64_w, i32_w]
        rfl
      refine pure_ (i := 13) (N := some 31) (v := ?_) (a' := ?_) #[true, true, true, true, true, true, true, true, true, true, true, true, true, true, false, false, true, true, true, true, false, false, false] rfl rfl (by kernel_rfl) (fun _ _ _ h => h) (Or.inl ⟨by rfl, ?_⟩) ?_ ?_
      rotate_left
      · intro w'
        go_simp
        with_reducible rfl
      rotate_left
      · simp only [Act.put, List.setIfInBounds_toArray, List.set_cons_zero, List.set_cons_succ, i64_w, i32_w]
        rfl
      refine take_ (i := 20) (N := some 38) (v := ?_) (a' := ?_) #[true, true, true, true, true, true, true, true, true, true, true, true, true, true, false, false, true, true, true, true, true, false, false] rfl rfl (by kernel_rfl) (fun _ _ _ h => h) (Or.inl ⟨by rfl, ?_⟩) hHeld ?_ ?_
      rotate_left
      · rintro w' ⟨s0, s1⟩
        go_simp
        with_reducible rfl
      rotate_left
      · simp only [Act.put, List.setIfInBounds_toArray, List.set_cons_zero, List.set_cons_succ, i64_w, i32_w]
        rfl
      refine one_ (i := 14) (N := some 32) #[true, true, true, true, true, true, true, true, true, true, true, true, true, true, true, false, true, true, true, true, true, false, false] rfl rfl (by kernel_rfl) (by decide) (fun K hK => ?_)
      have B4 := Aside0.mk (BK.out.litRow (enc := Value.int .u8) (h1 := fun _ => rfl) (e := 5) (two pg) (by simp [two]))
      refine value_ (w1 := ?_) (v := ?_) (by rfl) rfl ?_ ?_
      rotate_left 2
      · go_simp
        constructor
        · rfl
        · rfl
      refine hK.out _ _ ⟨cell_later (below_alloc (Below.refl _ _) _) z0, cell_later (below_alloc (Below.refl _ _) _) z1⟩ (fun hHeld => ?_)
      clear hK K
      refine norm_ (a' := ?_) ?_ ?_
      rotate_left
      · show Act.put _ (some 32) _ = _
        simp only [Act.put, List.setIfInBounds_toArray, List.set_cons_zero, List.set_cons_succ, i64_w, i32_w]
        rfl
      refine one_ (i := 15) (N := some 33) #[true, true, true, true, true, true, true, true, true, true, true, true, true, true, true, true, true, true, true, true, true, false, false] rfl rfl (by kernel_rfl) (by decide) (fun K hK => ?_)
      refine B4.out.at2.appendStep (by rfl) (.tmp 18) (.tmp 32) 24 (.int .u8 0) 1 rfl Tryz.underlying24 infoB rfl (by decide) (some ⟨wr.drew.heap.size, 0, none⟩) 2 2 (by rfl) (by rfl) B4.out.rowC.2.2 (by have := APL.out; simp [two]; omega) ?_
      intro v5 w5 hS5
      have B5 := Aside0.mk hS5.drop2
      clear hS5
      refine hK.out _ _ ⟨cell_later B5.out.toBelow HE0.out, cell_later B5.out.toBelow HE1.out⟩ (fun hHeld => ?_)
      clear hK K
      refine norm_ (a' := ?_) ?_ ?_
      rotate_left
      · show Act.put _ (some 33) _ = _
        simp only [Act.put, List.setIfInBounds_toArray, List.set_cons_zero, List.set_cons_succ, i64_w, i32_w]
        rfl
      refine last_ (i := 21) (N := some 39) #[true, true, true, true, true, true, true, true, true, true, true, true, true, true, true, true, true, true, true, true, true, true, false] rfl rfl (by kernel_rfl) (by decide) (fun K hK => ?_)
      refine B5.out.appendStep (by rfl) (.tmp 33) (.tmp 38) 24 (.int .u8 0) 1 rfl Tryz.underlying24 infoB rfl (by decide) B bn c2 (by rfl) (by rfl) (Kd.C_below HE3.out B5.out.toBelow) (by have := APL.out; have := ABN.out; simp [two]; omega) ?_
      intro v6 w6 hS6
      have B6 := Aside0.mk hS6
      clear hS6
      refine hK.out _ _ ?_
      clear hK K
      refine norm_ (a' := ?_) ?_ ?_
      rotate_left
      · show Act.put _ (some 39) _ = _
        simp only [Act.put, List.setIfInBounds_toArray, List.set_cons_zero, List.set_cons_succ, i64_w, i32_w]
        rfl
      refine pure_ (i := 22) (N := some 3) (v := ?_) (a' := ?_) #[true, true, true, true, true, true, true, true, true, true, true, true, true, true, true, true, true, true, true, true, true, true, true] rfl rfl (by kernel_rfl) (fun _ _ _ h => h) (Or.inl ⟨by rfl, ?_⟩) ?_ ?_
      rotate_left
      · intro w'
        go_simp
        with_reducible rfl
      rotate_left
      · simp only [Act.put, List.setIfInBounds_toArray, List.set_cons_zero, List.set_cons_succ, i64_w, i32_w]
        rfl
      refine done_ (by kernel_rfl) ?_
      clear z0 z1
      go_wp2_with fail
      go_roundg (gk - 1)
      case measure => have := AK.out; omega
      case rel => exact ⟨j + 1, by go_num, by have := AK.out; omega, by rw [HSN.out, ← List.append_assoc, AP.out, ← List.append_assoc]; exact B6.out⟩
    · have hjn : j = l.length := by omega
      have A5 : Aside0 (Sep w wr [Row U8 5 _ (deltaF l)]) := ⟨by rw [hjn, List.take_length] at hS; exact hS⟩
      subst hjn
      clear hS hjm AK hj
      go_wp2_with fail
      go_ret
      exact ⟨_, by first | rfl | (simp; done), A5.out⟩
end Go.Proofs.YtjngnigelkgekaaGreat.Delta
namespace Go.Proofs.YtjngnigelkgekaaGreat.Delta
end Go.Proofs.YtjngnigelkgekaaGreat.Delta
namespace Go.Proofs.YtjngnigelkgekaaGreat.Delta
end Go.Proofs.YtjngnigelkgekaaGreat.Delta
