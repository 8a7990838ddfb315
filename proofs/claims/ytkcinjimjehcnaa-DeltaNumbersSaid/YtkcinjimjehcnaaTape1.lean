/- engramkeep.Tape: the next number. -/
import Derived.Test.YtkcinjimjehcnaaBook
import Derived.Test.YtkcinjimjehcnaaSep
import Derived.Deep.QuietTactic
import Derived.Deep.RegionWith
import Derived.Deep.LoopGhost
namespace Go.Proofs.Ytkcinjimjehcnaa.Tape
set_option linter.unusedVariables false
set_option linter.unusedSimpArgs false
open Go.RowKit Go.Proofs.YtkcinjimjehcnaaW.PrintWords Go.Proofs.YtkcinjimjehcnaaW.PrintLast Go.Proofs.YtkcinjimjehcnaaW.PrintMore Go.Proofs.Ytkcinjimjehcnaa.Kit
abbrev I64 : Kd Int := Kd.int .i64
/-- What Next says of its number. -/
def okN (n r : Int) : Prop := 0 ≤ r ∧ (1 ≤ n → r < n) ∧ (n < 1 → r = 0)
/-- The tape in its block. -/
abbrev Tp (g : Nat) (A : Option Addr) (n c : Nat) (at_ : Int) : HP := Blk g 50 #[.slice A n c, .int .i64 at_]
set_option maxHeartbeats 1600000 in
set_option maxRecDepth 100000 in
theorem next_ {w0 W : World} {F : List HP} {g : Nat} {A : Option Addr} {n c : Nat} {L : List Int} {p : Int} (ht : I64.C w0 A n L) (hp : 0 ≤ p) (h : Sep w0 W (Tp g A n c p :: F)) (k : Int) :
    Calls Try.prog 42 #[.pointer (some ⟨g, 0, none⟩), .int .i64 k] W fun e w' => ∃ r p', e = .returned (.int .i64 r) ∧ okN k r ∧ 0 ≤ p' ∧ Sep w0 w' (Tp g A n c p' :: F) := by
  obtain rfl : L.length = n := ht.1
  have hm : L.length ≤ 9223372036854775807 := ht.2.1
  have AH := Aside0.mk h
  have AT := Aside0.mk ht
  have c0 : ∀ q, (W.drewN q).cell? ⟨g, 0, none⟩ = some (.slice A L.length c) := fun q => ((h.drewN q).cell 0).trans rfl
  have c1 : ∀ q, (W.drewN q).cell? ⟨g, 1, none⟩ = some (.int .i64 p) := fun q => ((h.drewN q).cell 1).trans rfl
  clear h ht
  by_cases h1 : (L.length : Int) ≤ p
  · go_enter Try.func42, Try.ntmps42
    go_wp2_with fail
    go_quiet (fail)
    go_wp2_with fail
    go_ret
    exact ⟨0, p, by first | rfl | (simp; done), ⟨by decide, fun h => by omega, fun _ => rfl⟩, hp, AH.out.drewN _⟩
  · have h1' : decide ((L.length : Int) ≤ p) = false := decide_eq_false h1
    by_cases h2 : k < 1
    · go_enter Try.func42, Try.ntmps42
      go_wp2_with fail
      go_quiet (fail)
      go_wp2_with fail
      go_ret
      exact ⟨0, p, by first | rfl | (simp; done), ⟨by decide, fun h => by omega, fun _ => rfl⟩, hp, AH.out.drewN _⟩
    · have h2' : decide (k < 1) = false := decide_eq_false h2
      obtain ⟨N, rfl⟩ := Int.eq_ofNat_of_zero_le hp
      have hN : N < L.length := by omega
      obtain ⟨ad, hA, hc⟩ := Kd.at_int AT.out (N : Int) (by omega) (by omega)
      subst hA
      rw [Int.toNat_natCast] at hc
      have HX := Aside0.mk hc
      generalize rd L (N : Int) = x at *
      go_enter Try.func42, Try.ntmps42
      go_wp2_with fail
      go_quiet (fail)
      have hcell1 := c1 nq
      have hfr : (W.drewN nq).frozen? ⟨g, 1, none⟩ = false := (AH.out.drewN nq).frozen 1
      have hNl : (N : Int) < (L.length : Int) := by omega
      have hw1 : wrap64 ((N : Int) + 1) = (N : Int) + 1 := IntWalk.wrap64_in _ (by omega)
      clear c0 c1 hc
      go_wp2_with fail
      have S3 := (AH.out.drewN nq).setBlk 1 (.int .i64 ((N : Int) + 1))
      obtain ⟨w3, hw3⟩ : ∃ w3, (W.drewN nq).setCell ⟨g, 1, none⟩ (.int .i64 ((N : Int) + 1)) = w3 := ⟨_, rfl⟩
      rw [hw3] at S3 ⊢
      replace S3 : Sep w0 w3 (Tp g (some ad) L.length c ((N : Int) + 1) :: F) := S3
      have d0 : w3.drew.cell? ⟨g, 0, none⟩ = some (.slice (some ad) L.length c) := (S3.drew.cell 0).trans rfl
      have d1 : w3.drew.cell? ⟨g, 1, none⟩ = some (.int .i64 ((N : Int) + 1)) := (S3.drew.cell 1).trans rfl
      have d2 : w3.drew.cell? (ad.add N) = some (.int .i64 x) := cell_later S3.drew.toBelow HX.out
      have A3 := Aside0.mk S3.drew
      have hws : wrap64 (N : Int) = (N : Int) := IntWalk.wrap64_in _ (by omega)
      have hin := Book.withinF_in (n := x) (lo := 0) (hi := 1073741824) (by decide)
      have hr : okN k ((Book.withinF x 0 1073741824).tmod k) := ⟨Int.tmod_nonneg _ hin.1, fun _ => Int.tmod_lt_of_pos _ (by omega), fun h => by omega⟩
      have AR := Aside0.mk hr
      have hk0 : ¬ k = 0 := by omega
      have hb := hin.2
      have ha := hin.1
      clear hin hr hw3 S3 hcell1 hfr hw1
      refine start_ (n := 15) (S := fun w' => w'.cell? ⟨g, 0, none⟩ = some (.slice (some ad) L.length c) ∧ w'.cell? ⟨g, 1, none⟩ = some (.int .i64 ((N : Int) + 1)) ∧ w'.cell? (ad.add N) = some (.int .i64 x)) (ds := [11]) #[false, false, false, false, false, false, false, false, false, false, false, false, false, false, false] (by kernel_rfl) rfl rfl ⟨d0, d1, d2⟩ (fun hHeld => ?_)
      refine pure_ (i := 0) (N := some 26) (v := ?_) (a' := ?_) #[true, false, false, false, false, false, false, false, false, false, false, false, false, false, false] rfl rfl (by kernel_rfl) (fun _ _ _ h => h) (Or.inl ⟨by rfl, ?_⟩) ?_ ?_
      rotate_left
      · intro w'
        go_simp
        with_reducible rfl
      rotate_left
      · simp only [Act.put, List.setIfInBounds_toArray, List.set_cons_zero, List.set_cons_succ, i64_w, i32_w]
        rfl
      refine pure_ (i := 1) (N := some 27) (v := ?_) (a' := ?_) #[true, true, false, false, false, false, false, false, false, false, false, false, false, false, false] rfl rfl (by kernel_rfl) (fun _ _ _ h => h) (Or.inl ⟨by rfl, ?_⟩) ?_ ?_
      rotate_left
      · intro w'
        go_simp
        with_reducible rfl
      rotate_left
      · simp only [Act.put, List.setIfInBounds_toArray, List.set_cons_zero, List.set_cons_succ, i64_w, i32_w]
        rfl
      refine pure_ (i := 2) (N := some 28) (v := ?_) (a' := ?_) #[true, true, true, false, false, false, false, false, false, false, false, false, false, false, false] rfl rfl (by kernel_rfl) (fun _ _ _ h => h) (Or.inl ⟨by rfl, ?_⟩) ?_ ?_
      rotate_left
      · intro w'
        go_simp
        with_reducible rfl
      rotate_left
      · simp only [Act.put, List.setIfInBounds_toArray, List.set_cons_zero, List.set_cons_succ, i64_w, i32_w]
        rfl
      refine pure_ (i := 4) (N := some 30) (v := ?_) (a' := ?_) #[true, true, true, false, true, false, false, false, false, false, false, false, false, false, false] rfl rfl (by kernel_rfl) (fun _ _ _ h => h) (Or.inl ⟨by rfl, ?_⟩) ?_ ?_
      rotate_left
      · intro w'
        go_simp
        with_reducible rfl
      rotate_left
      · simp only [Act.put, List.setIfInBounds_toArray, List.set_cons_zero, List.set_cons_succ, i64_w, i32_w]
        rfl
      refine pure_ (i := 5) (N := some 31) (v := ?_) (a' := ?_) #[true, true, true, false, true, true, false, false, false, false, false, false, false, false, false] rfl rfl (by kernel_rfl) (fun _ _ _ h => h) (Or.inl ⟨by rfl, ?_⟩) ?_ ?_
      rotate_left
      · intro w'
        go_simp
        with_reducible rfl
      rotate_left
      · simp only [Act.put, List.setIfInBounds_toArray, List.set_cons_zero, List.set_cons_succ, i64_w, i32_w]
        rfl
      refine pure_ (i := 6) (N := some 32) (v := ?_) (a' := ?_) #[true, true, true, false, true, true, true, false, false, false, false, false, false, false, false] rfl rfl (by kernel_rfl) (fun _ _ _ h => h) (Or.inl ⟨by rfl, ?_⟩) ?_ ?_
      rotate_left
      · intro w'
        go_simp
        with_reducible rfl
      rotate_left
      · simp only [Act.put, List.setIfInBounds_toArray, List.set_cons_zero, List.set_cons_succ, i64_w, i32_w]
        rfl
      refine pure_ (i := 12) (N := some 38) (v := ?_) (a' := ?_) #[true, true, true, false, true, true, true, false, false, false, false, false, true, false, false] rfl rfl (by kernel_rfl) (fun _ _ _ h => h) (Or.inl ⟨by rfl, ?_⟩) ?_ ?_
      rotate_left
      · intro w'
        go_simp
        with_reducible rfl
      rotate_left
      · simp only [Act.put, List.setIfInBounds_toArray, List.set_cons_zero, List.set_cons_succ, i64_w, i32_w]
        rfl
      refine take_ (i := 3) (N := some 29) (v := ?_) (a' := ?_) #[true, true, true, true, true, true, true, false, false, false, false, false, true, false, false] rfl rfl (by kernel_rfl) (fun _ _ _ h => h) (Or.inl ⟨by rfl, ?_⟩) hHeld ?_ ?_
      rotate_left
      · rintro w' ⟨s0, s1, s2⟩
        go_simp
        with_reducible rfl
      rotate_left
      · simp only [Act.put, List.setIfInBounds_toArray, List.set_cons_zero, List.set_cons_succ, i64_w, i32_w]
        rfl
      refine take_ (i := 7) (N := some 33) (v := ?_) (a' := ?_) #[true, true, true, true, true, true, true, true, false, false, false, false, true, false, false] rfl rfl (by kernel_rfl) (fun _ _ _ h => h) (Or.inl ⟨by rfl, ?_⟩) hHeld ?_ ?_
      rotate_left
      · rintro w' ⟨s0, s1, s2⟩
        go_simp
        with_reducible rfl
      rotate_left
      · simp only [Act.put, List.setIfInBounds_toArray, List.set_cons_zero, List.set_cons_succ, i64_w, i32_w]
        rfl
      refine pure_ (i := 8) (N := some 34) (v := ?_) (a' := ?_) #[true, true, true, true, true, true, true, true, true, false, false, false, true, false, false] rfl rfl (by kernel_rfl) (fun _ _ _ h => h) (Or.inl ⟨by rfl, ?_⟩) ?_ ?_
      rotate_left
      · intro w'
        go_simp
        with_reducible rfl
      rotate_left
      · simp only [Act.put, List.setIfInBounds_toArray, List.set_cons_zero, List.set_cons_succ, i64_w, i32_w]
        rfl
      refine pure_ (i := 9) (N := some 35) (v := ?_) (a' := ?_) #[true, true, true, true, true, true, true, true, true, true, false, false, true, false, false] rfl rfl (by kernel_rfl) (fun _ _ _ h => h) (Or.inl ⟨by rfl, ?_⟩) ?_ ?_
      rotate_left
      · intro w'
        go_simp
        with_reducible rfl
      rotate_left
      · simp only [Act.put, List.setIfInBounds_toArray, List.set_cons_zero, List.set_cons_succ, i64_w, i32_w]
        rfl
      refine take_ (i := 10) (N := some 36) (v := ?_) (a' := ?_) #[true, true, true, true, true, true, true, true, true, true, true, false, true, false, false] rfl rfl (by kernel_rfl) (fun _ _ _ h => h) (Or.inl ⟨by rfl, ?_⟩) hHeld ?_ ?_
      rotate_left
      · rintro w' ⟨s0, s1, s2⟩
        go_simp
        with_reducible rfl
      rotate_left
      · simp only [Act.put, List.setIfInBounds_toArray, List.set_cons_zero, List.set_cons_succ, i64_w, i32_w]
        rfl
      refine last_ (i := 11) (N := some 37) #[true, true, true, true, true, true, true, true, true, true, true, true, true, false, false] rfl rfl (by kernel_rfl) (by decide) (fun K hK => ?_)
      refine goes_ Try.func17 (by kernel_rfl) rfl #[.int .i64 x, .int .i64 0, .int .i64 1073741824] (by rfl) rfl rfl (by simp only [List.map_toArray, List.map_cons, List.map_nil]; rfl) ?_
      with_reducible refine (Book.within_ _ _ _ _ (by decide) (by decide) (by decide)).mono ?_
      rintro e w4 ⟨rfl, rfl⟩
      refine ⟨_, rfl, ?_⟩
      refine hK.out _ _ ?_
      clear hK K
      refine norm_ (a' := ?_) ?_ ?_
      rotate_left
      · show Act.put _ (some 37) _ = _
        simp only [Act.put, List.setIfInBounds_toArray, List.set_cons_zero, List.set_cons_succ, i64_w, i32_w]
        rfl
      refine pure_ (i := 13) (N := some 39) (v := ?_) (a' := ?_) #[true, true, true, true, true, true, true, true, true, true, true, true, true, true, false] rfl rfl (by kernel_rfl) (fun _ _ _ h => h) (Or.inl ⟨by rfl, ?_⟩) ?_ ?_
      rotate_left
      · intro w'
        go_simp
        with_reducible rfl
      rotate_left
      · simp only [Act.put, List.setIfInBounds_toArray, List.set_cons_zero, List.set_cons_succ, i64_w, i32_w]
        rfl
      refine pure_ (i := 14) (N := some 4) (v := ?_) (a' := ?_) #[true, true, true, true, true, true, true, true, true, true, true, true, true, true, true] rfl rfl (by kernel_rfl) (fun _ _ _ h => h) (Or.inl ⟨by rfl, ?_⟩) ?_ ?_
      rotate_left
      · intro w'
        go_simp
        with_reducible rfl
      rotate_left
      · simp only [Act.put, List.setIfInBounds_toArray, List.set_cons_zero, List.set_cons_succ, i64_w, i32_w]
        rfl
      refine done_ (by kernel_rfl) ?_
      go_wp2_with fail
      go_ret
      exact ⟨_, _, by first | rfl | (simp; done), AR.out, by omega, A3.out⟩
end Go.Proofs.Ytkcinjimjehcnaa.Tape
