/- Memory: how many pages; what lies within; none of bytes that are no pages; new ones. -/
import Derived.Test.YtfpkhlhojjmgiaaCells1
namespace Go.Proofs.Ytfpkhlhojjmgiaa.Cells
set_option linter.unusedVariables false
set_option linter.unusedSimpArgs false
open Go.RowKit Go.Proofs.YtfpkhlhojjmgiaaW.PrintWords Go.Proofs.YtfpkhlhojjmgiaaW.PrintLast Go.Proofs.YtfpkhlhojjmgiaaW.PrintMore Go.Proofs.Ytfpkhlhojjmgiaa.Kit Go.Proofs.Ytfpkhlhojjmgiaa.Base Go.Proofs.Ytfpkhlhojjmgiaa.Plain
section
variable {w0 W : World} {g : Nat} {b : List Int} {most : Int} {dirty : List Bool} {F : List HP}
theorem pages_ (h : Sep w0 W (Mem g b most dirty :: F)) : Calls Try.prog 21 #[.pointer (some ⟨g, 0, none⟩)] W fun e w' => e = .returned (.int .i64 (dirty.length : Int)) ∧ W = w' := by
  obtain ⟨Ab, cb, Ad, cd, hn, hs⟩ := open_ h
  have c2 : W.cell? ⟨g, 2, none⟩ = some (.slice Ad dirty.length cd) := by rw [hs.cell 2]; rfl
  clear h hs hn
  go_enter Try.func21, Try.ntmps21
  go_wp2
  go_ret
  exact ⟨by first | rfl | (simp; done), rfl⟩
theorem most_ (h : Sep w0 W (Mem g b most dirty :: F)) : Calls Try.prog 19 #[.pointer (some ⟨g, 0, none⟩)] W fun e w' => e = .returned (.int .i64 most) ∧ W = w' := by
  obtain ⟨Ab, cb, Ad, cd, hn, hs⟩ := open_ h
  have c1 : W.cell? ⟨g, 1, none⟩ = some (.int .i64 most) := by rw [hs.cell 1]; rfl
  clear h hs hn
  go_enter Try.func19, Try.ntmps19
  go_wp2
  go_ret
  exact ⟨by first | rfl | (simp; done), rfl⟩
def wd (wide : Bool) : Nat := if wide then 8 else 1
set_option maxHeartbeats 800000 in
theorem within_ (h : Sep w0 W (Mem g b most dirty :: F)) (k : Int) (wide : Bool) :
    Calls Try.prog 36 #[.pointer (some ⟨g, 0, none⟩), .int .i64 k, .bool wide] W fun e w' => e = .returned (.tuple #[.int .i64 (wd wide : Int), .bool (decide (0 ≤ k ∧ k + (wd wide : Int) ≤ (b.length : Int)))]) ∧ Sep w0 w' (Mem g b most dirty :: F) := by
  obtain ⟨Ab, cb, Ad, cd, hn, hs⟩ := open_ h
  have c0 : ∀ q, (W.drewN q).cell? ⟨g, 0, none⟩ = some (.slice Ab b.length cb) := fun q => by rw [(hs.drewN q).cell 0]; rfl
  have hb : b.length ≤ 100000 := by omega
  have AH := Aside0.mk h
  clear h hs hn
  cases wide
  all_goals
    by_cases h0 : 0 ≤ k
    · go_enter Try.func36, Try.ntmps36
      go_wp2_with fail
      go_quiet (fail)
      go_wp2_with fail
      go_ret2
      exact ⟨by simp [wd, h0] <;> omega, AH.out.drewN _⟩
    · have hd : decide (0 ≤ k) = false := decide_eq_false h0
      go_enter Try.func36, Try.ntmps36
      go_wp2_with fail
      go_quiet (fail)
      go_wp2_with fail
      go_ret2
      exact ⟨by simp [wd, h0] <;> omega, AH.out.drewN _⟩
set_option maxHeartbeats 400000 in
theorem of_none {A : Option Addr} {k c : Nat} {most : Int} {w : World} (hm : k ≤ 100000) (hb : k % 64 ≠ 0 ∨ most < ((k / 64 : Nat) : Int) ∨ 64 < most) :
    Calls Try.prog 11 #[.slice A k c, .int .i64 most] w fun e w' => e = .returned (.pointer none) ∧ w = w' := by
  have hr : ((k : Int)).tmod 64 = ((k % 64 : Nat) : Int) := by rw [Int.tmod_eq_emod_of_nonneg (by omega)]; omega
  by_cases h1 : k % 64 = 0
  · have hdec : decide (0 ≤ (k : Int) / 64 ∧ (k : Int) / 64 ≤ most ∧ most ≤ 64) = false := decide_eq_false (by omega)
    have AD := Aside0.mk hdec
    have hz : ((k % 64 : Nat) : Int) = 0 := by omega
    rw [hz] at hr
    have hrr : ((k : Int)).tmod 64 = 0 := hr
    clear hdec hb hr hz
    go_enter Try.func11, Try.ntmps11
    go_wp2_with fail
    refine (may_ ((k : Int) / 64) most _).mono ?_
    rintro e w' ⟨rfl, rfl⟩
    rw [AD.out]
    go_wp2_with fail
    go_ret
    exact ⟨by first | rfl | (simp; done), rfl⟩
  · have hz : ¬ ((k % 64 : Nat) : Int) = 0 := by omega
    rw [← hr] at hz
    clear hb hr
    go_enter Try.func11, Try.ntmps11
    go_wp2_with fail
    go_ret
    exact ⟨by first | rfl | (simp; done), rfl⟩
set_option maxHeartbeats 400000 in
theorem new_ok {n : Nat} {most : Int} {w : World} (hm : (n : Int) ≤ most) (hm2 : most ≤ 64) :
    Calls Try.prog 17 #[.int .i64 (n : Int), .int .i64 most] w fun e w' => ∃ g, e = .returned (.pointer (some ⟨g, 0, none⟩)) ∧ Sep w w' [Mem g (List.replicate (64 * n) 0) most (List.replicate n false)] := by
  have hdec : decide (0 ≤ (n : Int) ∧ (n : Int) ≤ most ∧ most ≤ 64) = true := decide_eq_true (by omega)
  have AD := Aside0.mk hdec
  have hmk := make_ (m := n * 64) (by omega)
  rw [show ((n * 64 : Nat) : Int) = (n : Int) * 64 by omega] at hmk
  have L0 := Aside0.mk (madeB (n * 64) (Sep.start w) (by omega))
  have hn : n ≤ 64 := by omega
  have AM := Aside0.mk hm
  have AM2 := Aside0.mk hm2
  clear hdec hm hm2
  go_enter Try.func17, Try.ntmps17
  go_wp2_with fail
  refine (may_ (n : Int) most _).mono ?_
  rintro e w' ⟨rfl, rfl⟩
  rw [AD.out]
  go_wp2_with fail
  refine (of_ok (k := n * 64) (n := n) (l := List.replicate (64 * n) 0) (by have := L0.out.rowC.2.2; rw [List.length_replicate] at this; rwa [Nat.mul_comm 64 n]) (Nat.le_refl _) (Nat.mul_comm n 64) AM.out AM2.out).mono ?_
  rintro e w2 ⟨g, rfl, hS⟩
  have AS := Aside0.mk (Sep.drop2 (F := []) (L0.out.lift1 hS))
  clear hS
  go_wp2_with fail
  go_ret
  exact ⟨_, by first | rfl | (simp; done), AS.out⟩
set_option maxHeartbeats 400000 in
theorem new_none {n most : Int} {w : World} (hb : ¬ (0 ≤ n ∧ n ≤ most ∧ most ≤ 64)) :
    Calls Try.prog 17 #[.int .i64 n, .int .i64 most] w fun e w' => e = .returned (.pointer none) ∧ w = w' := by
  have AD := Aside0.mk (decide_eq_false hb)
  clear hb
  go_enter Try.func17, Try.ntmps17
  go_wp2_with fail
  refine (may_ n most _).mono ?_
  rintro e w' ⟨rfl, rfl⟩
  rw [AD.out]
  go_wp2_with fail
  go_ret
  exact ⟨by first | rfl | (simp; done), rfl⟩
set_option maxHeartbeats 400000 in
theorem bytes_ (h : Sep w0 W (Mem g b most dirty :: F)) :
    Calls Try.prog 13 #[.pointer (some ⟨g, 0, none⟩)] W fun e w' => ∃ v, e = .returned v ∧ Sep w0 w' (Row U8 5 v b :: Mem g b most dirty :: F) := by
  obtain ⟨Ab, cb, Ad, cd, hn, hs⟩ := open_ h
  have c0 : W.cell? ⟨g, 0, none⟩ = some (.slice Ab b.length cb) := by rw [hs.cell 0]; rfl
  have HC := Aside0.mk hs.tail.rowC.2.2
  have HN := Aside0.mk hn
  clear hs hn
  go_enter Try.func13, Try.ntmps13
  go_wp2_with fail
  refine (clone_ HC.out HN.out.2.2.2.1 (by have := HN.out; omega)).mono ?_
  rintro e w2 ⟨v, rfl, hS⟩
  have AS := Aside0.mk (h.lift1 hS)
  clear hS
  go_wp2_with fail
  go_ret
  exact ⟨_, by first | rfl | (simp; done), AS.out⟩
set_option maxHeartbeats 400000 in
theorem copy_ (h : Sep w0 W (Mem g b most dirty :: F)) :
    Calls Try.prog 18 #[.pointer (some ⟨g, 0, none⟩)] W fun e w' => ∃ g', e = .returned (.pointer (some ⟨g', 0, none⟩)) ∧ Sep w0 w' (Mem g' b most (List.replicate dirty.length false) :: Mem g b most dirty :: F) := by
  obtain ⟨Ab, cb, Ad, cd, hn, hs⟩ := open_ h
  have c0 : W.drew.cell? ⟨g, 0, none⟩ = some (.slice Ab b.length cb) := by rw [hs.drew.cell 0]; rfl
  have c1 : W.drew.cell? ⟨g, 1, none⟩ = some (.int .i64 most) := by rw [hs.drew.cell 1]; rfl
  have HC := Aside0.mk hs.drew.tail.rowC.2.2
  have HN := Aside0.mk hn
  clear hs hn
  go_enter Try.func18, Try.ntmps18
  go_wp2_with fail
  refine start_ (n := 10) (S := fun w' => w'.cell? ⟨g, 0, none⟩ = some (.slice Ab b.length cb) ∧ w'.cell? ⟨g, 1, none⟩ = some (.int .i64 most)) (ds := [8]) #[false, false, false, false, false, false, false, false, false, false] (by kernel_rfl) rfl rfl ⟨c0, c1⟩ (fun hHeld => ?_)
  refine pure_ (i := 0) (N := some 3) (v := ?_) (a' := ?_) #[true, false, false, false, false, false, false, false, false, false] rfl rfl (by kernel_rfl) (fun _ _ _ h => h) (Or.inl ⟨by rfl, ?_⟩) ?_ ?_
  rotate_left
  · intro w'
    go_simp
    with_reducible rfl
  rotate_left
  · simp only [Act.put, List.setIfInBounds_toArray, List.set_cons_zero, List.set_cons_succ, i64_w, i32_w]
    rfl
  refine pure_ (i := 1) (N := some 4) (v := ?_) (a' := ?_) #[true, true, false, false, false, false, false, false, false, false] rfl rfl (by kernel_rfl) (fun _ _ _ h => h) (Or.inl ⟨by rfl, ?_⟩) ?_ ?_
  rotate_left
  · intro w'
    go_simp
    with_reducible rfl
  rotate_left
  · simp only [Act.put, List.setIfInBounds_toArray, List.set_cons_zero, List.set_cons_succ, i64_w, i32_w]
    rfl
  refine pure_ (i := 2) (N := some 5) (v := ?_) (a' := ?_) #[true, true, true, false, false, false, false, false, false, false] rfl rfl (by kernel_rfl) (fun _ _ _ h => h) (Or.inl ⟨by rfl, ?_⟩) ?_ ?_
  rotate_left
  · intro w'
    go_simp
    with_reducible rfl
  rotate_left
  · simp only [Act.put, List.setIfInBounds_toArray, List.set_cons_zero, List.set_cons_succ, i64_w, i32_w]
    rfl
  refine pure_ (i := 4) (N := some 7) (v := ?_) (a' := ?_) #[true, true, true, false, true, false, false, false, false, false] rfl rfl (by kernel_rfl) (fun _ _ _ h => h) (Or.inl ⟨by rfl, ?_⟩) ?_ ?_
  rotate_left
  · intro w'
    go_simp
    with_reducible rfl
  rotate_left
  · simp only [Act.put, List.setIfInBounds_toArray, List.set_cons_zero, List.set_cons_succ, i64_w, i32_w]
    rfl
  refine pure_ (i := 5) (N := some 8) (v := ?_) (a' := ?_) #[true, true, true, false, true, true, false, false, false, false] rfl rfl (by kernel_rfl) (fun _ _ _ h => h) (Or.inl ⟨by rfl, ?_⟩) ?_ ?_
  rotate_left
  · intro w'
    go_simp
    with_reducible rfl
  rotate_left
  · simp only [Act.put, List.setIfInBounds_toArray, List.set_cons_zero, List.set_cons_succ, i64_w, i32_w]
    rfl
  refine pure_ (i := 6) (N := some 9) (v := ?_) (a' := ?_) #[true, true, true, false, true, true, true, false, false, false] rfl rfl (by kernel_rfl) (fun _ _ _ h => h) (Or.inl ⟨by rfl, ?_⟩) ?_ ?_
  rotate_left
  · intro w'
    go_simp
    with_reducible rfl
  rotate_left
  · simp only [Act.put, List.setIfInBounds_toArray, List.set_cons_zero, List.set_cons_succ, i64_w, i32_w]
    rfl
  refine take_ (i := 3) (N := some 6) (v := ?_) (a' := ?_) #[true, true, true, true, true, true, true, false, false, false] rfl rfl (by kernel_rfl) (fun _ _ _ h => h) (Or.inl ⟨by rfl, ?_⟩) hHeld ?_ ?_
  rotate_left
  · rintro w' ⟨s0, s1⟩
    go_simp
    with_reducible rfl
  rotate_left
  · simp only [Act.put, List.setIfInBounds_toArray, List.set_cons_zero, List.set_cons_succ, i64_w, i32_w]
    rfl
  refine take_ (i := 7) (N := some 10) (v := ?_) (a' := ?_) #[true, true, true, true, true, true, true, true, false, false] rfl rfl (by kernel_rfl) (fun _ _ _ h => h) (Or.inl ⟨by rfl, ?_⟩) hHeld ?_ ?_
  rotate_left
  · rintro w' ⟨s0, s1⟩
    go_simp
    with_reducible rfl
  rotate_left
  · simp only [Act.put, List.setIfInBounds_toArray, List.set_cons_zero, List.set_cons_succ, i64_w, i32_w]
    rfl
  refine last_ (i := 8) (N := some 11) #[true, true, true, true, true, true, true, true, true, false] rfl rfl (by kernel_rfl) (by decide) (fun K hK => ?_)
  refine goes_ Try.func11 (by kernel_rfl) rfl #[.slice Ab b.length cb, .int .i64 most] (by rfl) rfl rfl (by simp only [List.map_toArray, List.map_cons, List.map_nil]; rfl) ?_
  with_reducible refine (of_ok (n := dirty.length) HC.out HN.out.2.2.2.1 HN.out.1 HN.out.2.1 HN.out.2.2.1).mono ?_
  rintro e w3 ⟨g3, rfl, hS3⟩
  refine ⟨_, rfl, ?_⟩
  have A3 := Aside0.mk (h.drew.lift1 hS3)
  clear hS3
  refine hK.out _ _ ?_
  clear hK K
  refine norm_ (a' := ?_) ?_ ?_
  rotate_left
  · show Act.put _ (some 11) _ = _
    simp only [Act.put, List.setIfInBounds_toArray, List.set_cons_zero, List.set_cons_succ, i64_w, i32_w]
    rfl
  refine pure_ (i := 9) (N := some 2) (v := ?_) (a' := ?_) #[true, true, true, true, true, true, true, true, true, true] rfl rfl (by kernel_rfl) (fun _ _ _ h => h) (Or.inl ⟨by rfl, ?_⟩) ?_ ?_
  rotate_left
  · intro w'
    go_simp
    with_reducible rfl
  rotate_left
  · simp only [Act.put, List.setIfInBounds_toArray, List.set_cons_zero, List.set_cons_succ, i64_w, i32_w]
    rfl
  refine done_ (by kernel_rfl) ?_
  go_wp2_with fail
  go_ret
  exact ⟨_, by first | rfl | (simp; done), A3.out⟩
end
end Go.Proofs.Ytfpkhlhojjmgiaa.Cells
