/- Home1, StCheck: what HealTwice needs. -/
import Derived.Test.YtjngnigelkgekaaGreatThealTwice10
set_option linter.unusedVariables false
set_option linter.unusedSimpArgs false
namespace Go.Proofs.YtjngnigelkgekaaGreat.Home
open Go.RowKit Go.Proofs.YtjngnigelkgekaaGreatW.PrintWords Go.Proofs.YtjngnigelkgekaaGreatW.PrintLast Go.Proofs.YtjngnigelkgekaaGreatW.PrintMore Go.Proofs.YtjngnigelkgekaaGreat.Kit Go.Proofs.YtjngnigelkgekaaGreat.Plain Go.Proofs.YtjngnigelkgekaaGreat.Disk Go.Proofs.YtjngnigelkgekaaGreat.Root
def mayF (n : Nat) (a b c i : Int) : Bool := rightR a b c n && decide (0 ≤ i) && decide (i < b)
def atF (a i : Int) : Nat := (2 + a + i).toNat
theorem may_in {n : Nat} {a b c i : Int} (h : mayF n a b c i = true) : 1 ≤ a ∧ a ≤ 64 ∧ 1 ≤ b ∧ b ≤ 64 ∧ 2 + a + b ≤ n ∧ 1 ≤ c ∧ 0 ≤ i ∧ i < b := by
  unfold mayF rightR at h
  simp only [Bool.and_eq_true, decide_eq_true_eq] at h
  omega
theorem home_at {n : Nat} {a b c i : Int} (h : mayF n a b c i = true) : homeF a b i = (atF a i : Int) ∧ atF a i < n := by
  have h2 := may_in h
  unfold homeF atF
  rw [if_neg (by omega), IntWalk.wrap64_in (2 + a) (by omega), IntWalk.wrap64_in _ (by omega)]
  omega
def pageF (n : Nat) (las : List Int) (wt : Wt) (a b c i : Int) : List Int := if mayF n a b c i = true then secF n las wt (atF a i) else []
def putP (n : Nat) (wt : Wt) (a b c i : Int) (x : List Int) : Wt := if mayF n a b c i = true then putW n wt (atF a i) x else wt
abbrev K2 : Kd (List Int) := Kd.slice 5 (Kd.int .u8)
def pagesF (n : Nat) (las : List Int) (wt : Wt) (a b c : Int) : List (List Int) := if rightR a b c n = true then (List.range b.toNat).map (fun i : Nat => pageF n las wt a b c (i : Int)) else []
section
variable {w0 W : World} {F : List HP} {g n : Nat} {las : List Int} {wt : Wt}
set_option maxHeartbeats 800000 in
set_option maxRecDepth 100000 in
theorem may_ (h : Sep w0 W (Dsk g las wt :: F)) (hl : las.length = 64 * n) (a b c i : Int) :
    Calls Tryz.prog 119 #[.pointer (some ⟨g, 0, none⟩), .agg #[.int .i64 a, .int .i64 b, .int .u32 c], .int .i64 i] W fun e w' => e = .returned (.bool (mayF n a b c i)) ∧ Sep w0 w' (Dsk g las wt :: F) := by
  have A0 := Aside0.mk ((h.newBlk 80 #[.int .i64 a, .int .i64 b, .int .u32 c]).drew)
  have HLN : Aside0 ((las.length : Int) / 64 = (n : Int)) := ⟨by omega⟩
  clear h hl
  cases hrt : rightR a b c n with
  | false =>
    have HV : Aside0 (mayF n a b c i = false) := ⟨by unfold mayF; rw [hrt]; rfl⟩
    have HRT := Aside0.mk hrt
    clear hrt
    go_enter Tryz.func119, Tryz.ntmps119
    go_wp2_with fail
    refine start_ (n := 19) (S := fun w' => w'.cell? ⟨W.heap.size, 0, none⟩ = some (.int .i64 a) ∧ w'.cell? ⟨W.heap.size, 1, none⟩ = some (.int .i64 b) ∧ w'.cell? ⟨W.heap.size, 2, none⟩ = some (.int .u32 c)) (ds := []) #[Z,Z,Z,Z,Z,Z,Z,Z,Z,Z,Z,Z,Z,Z,Z,Z,Z,Z,Z] (by kernel_rfl) rfl rfl ⟨(A0.out.cell 0).trans rfl, (A0.out.cell 1).trans rfl, (A0.out.cell 2).trans rfl⟩ (fun hHeld => ?_)
    refine pu_ 0 7 ?_ #[J,Z,Z,Z,Z,Z,Z,Z,Z,Z,Z,Z,Z,Z,Z,Z,Z,Z,Z] rfl rfl ?_ ?_ ?_ ?_
    rotate_left
    · intro w'
      go_simp
      with_reducible rfl
    rotate_left
    · simp only [aP]
      rfl
    refine pu_ 1 8 ?_ #[J,J,Z,Z,Z,Z,Z,Z,Z,Z,Z,Z,Z,Z,Z,Z,Z,Z,Z] rfl rfl ?_ ?_ ?_ ?_
    rotate_left
    · intro w'
      go_simp
      with_reducible rfl
    rotate_left
    · simp only [aP]
      rfl
    refine pu_ 2 9 ?_ #[J,J,J,Z,Z,Z,Z,Z,Z,Z,Z,Z,Z,Z,Z,Z,Z,Z,Z] rfl rfl ?_ ?_ ?_ ?_
    rotate_left
    · intro w'
      go_simp
      with_reducible rfl
    rotate_left
    · simp only [aP]
      rfl
    refine pu_ 4 11 ?_ #[J,J,J,Z,J,Z,Z,Z,Z,Z,Z,Z,Z,Z,Z,Z,Z,Z,Z] rfl rfl ?_ ?_ ?_ ?_
    rotate_left
    · intro w'
      go_simp
      with_reducible rfl
    rotate_left
    · simp only [aP]
      rfl
    refine ta_ 3 10 ?_ #[J,J,J,J,J,Z,Z,Z,Z,Z,Z,Z,Z,Z,Z,Z,Z,Z,Z] rfl rfl ?_ hHeld ?_ ?_ ?_
    rotate_left
    · rintro w' ⟨s0, s1, s2⟩
      go_simp
      with_reducible rfl
    rotate_left
    · simp only [aP]
      rfl
    refine one_ (i := 5) (N := some 12) #[J,J,J,J,J,J,Z,Z,Z,Z,Z,Z,Z,Z,Z,Z,Z,Z,Z] rfl rfl (by kernel_rfl) (by decide) (fun K hK => ?_)
    refine goes_ Tryz.func65 (by kernel_rfl) rfl #[.pointer (some ⟨g, 0, none⟩)] (by rfl) rfl rfl (by simp only [List.map_toArray, List.map_cons, List.map_nil]; rfl) ?_
    with_reducible refine (len_ A0.out.at2).mono ?_
    rintro e w4 ⟨rfl, rfl⟩
    refine ⟨_, rfl, ?_⟩
    rw [HLN.out]
    refine hK.out _ _ ⟨(A0.out.cell 0).trans rfl, (A0.out.cell 1).trans rfl, (A0.out.cell 2).trans rfl⟩ (fun hHeld => ?_)
    clear hK K
    refine norm_ (a' := ?_) ?_ ?_
    rotate_left
    · show Act.put _ (some 12) _ = _
      simp only [aP]
      rfl
    refine one_ (i := 6) (N := some 13) #[J,J,J,J,J,J,J,Z,Z,Z,Z,Z,Z,Z,Z,Z,Z,Z,Z] rfl rfl (by kernel_rfl) (by decide) (fun K hK => ?_)
    refine goes_ Tryz.func64 (by kernel_rfl) rfl #[.agg #[.int .i64 a, .int .i64 b, .int .u32 c], .int .i64 (n : Int)] (by rfl) rfl rfl (by simp only [List.map_toArray, List.map_cons, List.map_nil]; rfl) ?_
    with_reducible refine (right_ a b c (n : Int) _).mono ?_
    rintro e w5 ⟨rfl, hb5⟩
    refine ⟨_, rfl, ?_⟩
    rw [HRT.out]
    have A5 := Aside0.mk (A0.out.below hb5)
    clear hb5
    refine hK.out _ _ ⟨(A5.out.cell 0).trans rfl, (A5.out.cell 1).trans rfl, (A5.out.cell 2).trans rfl⟩ (fun hHeld => ?_)
    clear hK K
    refine norm_ (a' := ?_) ?_ ?_
    rotate_left
    · show Act.put _ (some 13) _ = _
      simp only [aP]
      rfl
    refine pu_ 7 14 ?_ #[J,J,J,J,J,J,J,J,Z,Z,Z,Z,Z,Z,Z,Z,Z,Z,Z] rfl rfl ?_ ?_ ?_ ?_
    rotate_left
    · intro w'
      go_simp
      with_reducible rfl
    rotate_left
    · simp only [aP]
      rfl
    refine pu_ 8 15 ?_ #[J,J,J,J,J,J,J,J,J,Z,Z,Z,Z,Z,Z,Z,Z,Z,Z] rfl rfl ?_ ?_ ?_ ?_
    rotate_left
    · intro w'
      go_simp
      with_reducible rfl
    rotate_left
    · simp only [aP]
      rfl
    refine pure_ (i := 9) (N := some 16) (v := undef) (a' := ?_) #[J,J,J,J,J,J,J,J,J,J,Z,Z,Z,Z,Z,Z,Z,Z,Z] rfl rfl (by kernel_rfl) (fun _ _ _ h => h) (Or.inr ⟨by rfl, rfl⟩) ?_ ?_
    rotate_left
    · simp only [aP]
      rfl
    refine pure_ (i := 10) (N := some 17) (v := undef) (a' := ?_) #[J,J,J,J,J,J,J,J,J,J,J,Z,Z,Z,Z,Z,Z,Z,Z] rfl rfl (by kernel_rfl) (fun _ _ _ h => h) (Or.inr ⟨by rfl, rfl⟩) ?_ ?_
    rotate_left
    · simp only [aP]
      rfl
    refine pu_ 11 18 ?_ #[J,J,J,J,J,J,J,J,J,J,J,J,Z,Z,Z,Z,Z,Z,Z] rfl rfl ?_ ?_ ?_ ?_
    rotate_left
    · intro w'
      go_simp
      with_reducible rfl
    rotate_left
    · simp only [aP]
      rfl
    refine pu_ 12 19 ?_ #[J,J,J,J,J,J,J,J,J,J,J,J,J,Z,Z,Z,Z,Z,Z] rfl rfl ?_ ?_ ?_ ?_
    rotate_left
    · intro w'
      go_simp
      with_reducible rfl
    rotate_left
    · simp only [aP]
      rfl
    refine pure_ (i := 13) (N := some 20) (v := undef) (a' := ?_) #[J,J,J,J,J,J,J,J,J,J,J,J,J,J,Z,Z,Z,Z,Z] rfl rfl (by kernel_rfl) (fun _ _ _ h => h) (Or.inr ⟨by rfl, rfl⟩) ?_ ?_
    rotate_left
    · simp only [aP]
      rfl
    refine pure_ (i := 14) (N := some 21) (v := undef) (a' := ?_) #[J,J,J,J,J,J,J,J,J,J,J,J,J,J,J,Z,Z,Z,Z] rfl rfl (by kernel_rfl) (fun _ _ _ h => h) (Or.inr ⟨by rfl, rfl⟩) ?_ ?_
    rotate_left
    · simp only [aP]
      rfl
    refine pure_ (i := 15) (N := some 22) (v := undef) (a' := ?_) #[J,J,J,J,J,J,J,J,J,J,J,J,J,J,J,J,Z,Z,Z] rfl rfl (by kernel_rfl) (fun _ _ _ h => h) (Or.inr ⟨by rfl, rfl⟩) ?_ ?_
    rotate_left
    · simp only [aP]
      rfl
    refine pure_ (i := 16) (N := some 23) (v := undef) (a' := ?_) #[J,J,J,J,J,J,J,J,J,J,J,J,J,J,J,J,J,Z,Z] rfl rfl (by kernel_rfl) (fun _ _ _ h => h) (Or.inr ⟨by rfl, rfl⟩) ?_ ?_
    rotate_left
    · simp only [aP]
      rfl
    refine pu_ 17 24 ?_ #[J,J,J,J,J,J,J,J,J,J,J,J,J,J,J,J,J,J,Z] rfl rfl ?_ ?_ ?_ ?_
    rotate_left
    · intro w'
      go_simp
      with_reducible rfl
    rotate_left
    · simp only [aP]
      rfl
    refine pu_ 18 6 ?_ #[J,J,J,J,J,J,J,J,J,J,J,J,J,J,J,J,J,J,J] rfl rfl ?_ ?_ ?_ ?_
    rotate_left
    · intro w'
      go_simp
      with_reducible rfl
    rotate_left
    · simp only [aP]
      rfl
    refine done_ (by kernel_rfl) ?_
    go_wp2_with fail
    go_ret
    exact ⟨by rw [HV.out]; first | rfl | (simp; done), A5.out.tail⟩
  | true =>
    by_cases hi : i < 0
    case pos =>
      have hd : decide (0 ≤ i) = false := decide_eq_false (by omega)
      have HV : Aside0 (mayF n a b c i = false) := ⟨by unfold mayF; rw [hd]; simp⟩
      have HRT := Aside0.mk hrt
      clear hrt
      go_enter Tryz.func119, Tryz.ntmps119
      go_wp2_with fail
      refine start_ (n := 19) (S := fun w' => w'.cell? ⟨W.heap.size, 0, none⟩ = some (.int .i64 a) ∧ w'.cell? ⟨W.heap.size, 1, none⟩ = some (.int .i64 b) ∧ w'.cell? ⟨W.heap.size, 2, none⟩ = some (.int .u32 c)) (ds := []) #[Z,Z,Z,Z,Z,Z,Z,Z,Z,Z,Z,Z,Z,Z,Z,Z,Z,Z,Z] (by kernel_rfl) rfl rfl ⟨(A0.out.cell 0).trans rfl, (A0.out.cell 1).trans rfl, (A0.out.cell 2).trans rfl⟩ (fun hHeld => ?_)
      refine pu_ 0 7 ?_ #[J,Z,Z,Z,Z,Z,Z,Z,Z,Z,Z,Z,Z,Z,Z,Z,Z,Z,Z] rfl rfl ?_ ?_ ?_ ?_
      rotate_left
      · intro w'
        go_simp
        with_reducible rfl
      rotate_left
      · simp only [aP]
        rfl
      refine pu_ 1 8 ?_ #[J,J,Z,Z,Z,Z,Z,Z,Z,Z,Z,Z,Z,Z,Z,Z,Z,Z,Z] rfl rfl ?_ ?_ ?_ ?_
      rotate_left
      · intro w'
        go_simp
        with_reducible rfl
      rotate_left
      · simp only [aP]
        rfl
      refine pu_ 2 9 ?_ #[J,J,J,Z,Z,Z,Z,Z,Z,Z,Z,Z,Z,Z,Z,Z,Z,Z,Z] rfl rfl ?_ ?_ ?_ ?_
      rotate_left
      · intro w'
        go_simp
        with_reducible rfl
      rotate_left
      · simp only [aP]
        rfl
      refine pu_ 4 11 ?_ #[J,J,J,Z,J,Z,Z,Z,Z,Z,Z,Z,Z,Z,Z,Z,Z,Z,Z] rfl rfl ?_ ?_ ?_ ?_
      rotate_left
      · intro w'
        go_simp
        with_reducible rfl
      rotate_left
      · simp only [aP]
        rfl
      refine ta_ 3 10 ?_ #[J,J,J,J,J,Z,Z,Z,Z,Z,Z,Z,Z,Z,Z,Z,Z,Z,Z] rfl rfl ?_ hHeld ?_ ?_ ?_
      rotate_left
      · rintro w' ⟨s0, s1, s2⟩
        go_simp
        with_reducible rfl
      rotate_left
      · simp only [aP]
        rfl
      refine one_ (i := 5) (N := some 12) #[J,J,J,J,J,J,Z,Z,Z,Z,Z,Z,Z,Z,Z,Z,Z,Z,Z] rfl rfl (by kernel_rfl) (by decide) (fun K hK => ?_)
      refine goes_ Tryz.func65 (by kernel_rfl) rfl #[.pointer (some ⟨g, 0, none⟩)] (by rfl) rfl rfl (by simp only [List.map_toArray, List.map_cons, List.map_nil]; rfl) ?_
      with_reducible refine (len_ A0.out.at2).mono ?_
      rintro e w4 ⟨rfl, rfl⟩
      refine ⟨_, rfl, ?_⟩
      rw [HLN.out]
      refine hK.out _ _ ⟨(A0.out.cell 0).trans rfl, (A0.out.cell 1).trans rfl, (A0.out.cell 2).trans rfl⟩ (fun hHeld => ?_)
      clear hK K
      refine norm_ (a' := ?_) ?_ ?_
      rotate_left
      · show Act.put _ (some 12) _ = _
        simp only [aP]
        rfl
      refine one_ (i := 6) (N := some 13) #[J,J,J,J,J,J,J,Z,Z,Z,Z,Z,Z,Z,Z,Z,Z,Z,Z] rfl rfl (by kernel_rfl) (by decide) (fun K hK => ?_)
      refine goes_ Tryz.func64 (by kernel_rfl) rfl #[.agg #[.int .i64 a, .int .i64 b, .int .u32 c], .int .i64 (n : Int)] (by rfl) rfl rfl (by simp only [List.map_toArray, List.map_cons, List.map_nil]; rfl) ?_
      with_reducible refine (right_ a b c (n : Int) _).mono ?_
      rintro e w5 ⟨rfl, hb5⟩
      refine ⟨_, rfl, ?_⟩
      rw [HRT.out]
      have A5 := Aside0.mk (A0.out.below hb5)
      clear hb5
      refine hK.out _ _ ⟨(A5.out.cell 0).trans rfl, (A5.out.cell 1).trans rfl, (A5.out.cell 2).trans rfl⟩ (fun hHeld => ?_)
      clear hK K
      refine norm_ (a' := ?_) ?_ ?_
      rotate_left
      · show Act.put _ (some 13) _ = _
        simp only [aP]
        rfl
      refine pu_ 7 14 ?_ #[J,J,J,J,J,J,J,J,Z,Z,Z,Z,Z,Z,Z,Z,Z,Z,Z] rfl rfl ?_ ?_ ?_ ?_
      rotate_left
      · intro w'
        go_simp
        with_reducible rfl
      rotate_left
      · simp only [aP]
        rfl
      refine pu_ 8 15 ?_ #[J,J,J,J,J,J,J,J,J,Z,Z,Z,Z,Z,Z,Z,Z,Z,Z] rfl rfl ?_ ?_ ?_ ?_
      rotate_left
      · intro w'
        go_simp
        with_reducible rfl
      rotate_left
      · simp only [aP]
        rfl
      refine pu_ 9 16 ?_ #[J,J,J,J,J,J,J,J,J,J,Z,Z,Z,Z,Z,Z,Z,Z,Z] rfl rfl ?_ ?_ ?_ ?_
      rotate_left
      · intro w'
        go_simp
        with_reducible rfl
      rotate_left
      · simp only [aP]
        rfl
      refine pu_ 10 17 ?_ #[J,J,J,J,J,J,J,J,J,J,J,Z,Z,Z,Z,Z,Z,Z,Z] rfl rfl ?_ ?_ ?_ ?_
      rotate_left
      · intro w'
        go_simp
        with_reducible rfl
      rotate_left
      · simp only [aP]
        rfl
      refine pu_ 11 18 ?_ #[J,J,J,J,J,J,J,J,J,J,J,J,Z,Z,Z,Z,Z,Z,Z] rfl rfl ?_ ?_ ?_ ?_
      rotate_left
      · intro w'
        go_simp
        with_reducible rfl
      rotate_left
      · simp only [aP]
        rfl
      refine pu_ 12 19 ?_ #[J,J,J,J,J,J,J,J,J,J,J,J,J,Z,Z,Z,Z,Z,Z] rfl rfl ?_ ?_ ?_ ?_
      rotate_left
      · intro w'
        go_simp
        with_reducible rfl
      rotate_left
      · simp only [aP]
        rfl
      refine pure_ (i := 13) (N := some 20) (v := undef) (a' := ?_) #[J,J,J,J,J,J,J,J,J,J,J,J,J,J,Z,Z,Z,Z,Z] rfl rfl (by kernel_rfl) (fun _ _ _ h => h) (Or.inr ⟨by rfl, rfl⟩) ?_ ?_
      rotate_left
      · simp only [aP]
        rfl
      refine pure_ (i := 14) (N := some 21) (v := undef) (a' := ?_) #[J,J,J,J,J,J,J,J,J,J,J,J,J,J,J,Z,Z,Z,Z] rfl rfl (by kernel_rfl) (fun _ _ _ h => h) (Or.inr ⟨by rfl, rfl⟩) ?_ ?_
      rotate_left
      · simp only [aP]
        rfl
      refine pure_ (i := 15) (N := some 22) (v := undef) (a' := ?_) #[J,J,J,J,J,J,J,J,J,J,J,J,J,J,J,J,Z,Z,Z] rfl rfl (by kernel_rfl) (fun _ _ _ h => h) (Or.inr ⟨by rfl, rfl⟩) ?_ ?_
      rotate_left
      · simp only [aP]
        rfl
      refine pure_ (i := 16) (N := some 23) (v := undef) (a' := ?_) #[J,J,J,J,J,J,J,J,J,J,J,J,J,J,J,J,J,Z,Z] rfl rfl (by kernel_rfl) (fun _ _ _ h => h) (Or.inr ⟨by rfl, rfl⟩) ?_ ?_
      rotate_left
      · simp only [aP]
        rfl
      refine pu_ 17 24 ?_ #[J,J,J,J,J,J,J,J,J,J,J,J,J,J,J,J,J,J,Z] rfl rfl ?_ ?_ ?_ ?_
      rotate_left
      · intro w'
        go_simp
        with_reducible rfl
      rotate_left
      · simp only [aP]
        rfl
      refine pu_ 18 6 ?_ #[J,J,J,J,J,J,J,J,J,J,J,J,J,J,J,J,J,J,J] rfl rfl ?_ ?_ ?_ ?_
      rotate_left
      · intro w'
        go_simp
        with_reducible rfl
      rotate_left
      · simp only [aP]
        rfl
      refine done_ (by kernel_rfl) ?_
      go_wp2_with fail
      go_ret
      exact ⟨by rw [HV.out]; first | rfl | (simp; done), A5.out.tail⟩
    case neg =>
      have hd : decide (0 ≤ i) = true := decide_eq_true (by omega)
      by_cases hib : i < b
      case pos =>
        have hd2 : decide (i < b) = true := decide_eq_true hib
        have HV : Aside0 (mayF n a b c i = true) := ⟨by unfold mayF; rw [hrt, hd, hd2]; rfl⟩
        have HRT := Aside0.mk hrt
        clear hrt
        go_enter Tryz.func119, Tryz.ntmps119
        go_wp2_with fail
        refine start_ (n := 19) (S := fun w' => w'.cell? ⟨W.heap.size, 0, none⟩ = some (.int .i64 a) ∧ w'.cell? ⟨W.heap.size, 1, none⟩ = some (.int .i64 b) ∧ w'.cell? ⟨W.heap.size, 2, none⟩ = some (.int .u32 c)) (ds := []) #[Z,Z,Z,Z,Z,Z,Z,Z,Z,Z,Z,Z,Z,Z,Z,Z,Z,Z,Z] (by kernel_rfl) rfl rfl ⟨(A0.out.cell 0).trans rfl, (A0.out.cell 1).trans rfl, (A0.out.cell 2).trans rfl⟩ (fun hHeld => ?_)
        refine pu_ 0 7 ?_ #[J,Z,Z,Z,Z,Z,Z,Z,Z,Z,Z,Z,Z,Z,Z,Z,Z,Z,Z] rfl rfl ?_ ?_ ?_ ?_
        rotate_left
        · intro w'
          go_simp
          with_reducible rfl
        rotate_left
        · simp only [aP]
          rfl
        refine pu_ 1 8 ?_ #[J,J,Z,Z,Z,Z,Z,Z,Z,Z,Z,Z,Z,Z,Z,Z,Z,Z,Z] rfl rfl ?_ ?_ ?_ ?_
        rotate_left
        · intro w'
          go_simp
          with_reducible rfl
        rotate_left
        · simp only [aP]
          rfl
        refine pu_ 2 9 ?_ #[J,J,J,Z,Z,Z,Z,Z,Z,Z,Z,Z,Z,Z,Z,Z,Z,Z,Z] rfl rfl ?_ ?_ ?_ ?_
        rotate_left
        · intro w'
          go_simp
          with_reducible rfl
        rotate_left
        · simp only [aP]
          rfl
        refine pu_ 4 11 ?_ #[J,J,J,Z,J,Z,Z,Z,Z,Z,Z,Z,Z,Z,Z,Z,Z,Z,Z] rfl rfl ?_ ?_ ?_ ?_
        rotate_left
        · intro w'
          go_simp
          with_reducible rfl
        rotate_left
        · simp only [aP]
          rfl
        refine ta_ 3 10 ?_ #[J,J,J,J,J,Z,Z,Z,Z,Z,Z,Z,Z,Z,Z,Z,Z,Z,Z] rfl rfl ?_ hHeld ?_ ?_ ?_
        rotate_left
        · rintro w' ⟨s0, s1, s2⟩
          go_simp
          with_reducible rfl
        rotate_left
        · simp only [aP]
          rfl
        refine one_ (i := 5) (N := some 12) #[J,J,J,J,J,J,Z,Z,Z,Z,Z,Z,Z,Z,Z,Z,Z,Z,Z] rfl rfl (by kernel_rfl) (by decide) (fun K hK => ?_)
        refine goes_ Tryz.func65 (by kernel_rfl) rfl #[.pointer (some ⟨g, 0, none⟩)] (by rfl) rfl rfl (by simp only [List.map_toArray, List.map_cons, List.map_nil]; rfl) ?_
        with_reducible refine (len_ A0.out.at2).mono ?_
        rintro e w4 ⟨rfl, rfl⟩
        refine ⟨_, rfl, ?_⟩
        rw [HLN.out]
        refine hK.out _ _ ⟨(A0.out.cell 0).trans rfl, (A0.out.cell 1).trans rfl, (A0.out.cell 2).trans rfl⟩ (fun hHeld => ?_)
        clear hK K
        refine norm_ (a' := ?_) ?_ ?_
        rotate_left
        · show Act.put _ (some 12) _ = _
          simp only [aP]
          rfl
        refine one_ (i := 6) (N := some 13) #[J,J,J,J,J,J,J,Z,Z,Z,Z,Z,Z,Z,Z,Z,Z,Z,Z] rfl rfl (by kernel_rfl) (by decide) (fun K hK => ?_)
        refine goes_ Tryz.func64 (by kernel_rfl) rfl #[.agg #[.int .i64 a, .int .i64 b, .int .u32 c], .int .i64 (n : Int)] (by rfl) rfl rfl (by simp only [List.map_toArray, List.map_cons, List.map_nil]; rfl) ?_
        with_reducible refine (right_ a b c (n : Int) _).mono ?_
        rintro e w5 ⟨rfl, hb5⟩
        refine ⟨_, rfl, ?_⟩
        rw [HRT.out]
        have A5 := Aside0.mk (A0.out.below hb5)
        clear hb5
        refine hK.out _ _ ⟨(A5.out.cell 0).trans rfl, (A5.out.cell 1).trans rfl, (A5.out.cell 2).trans rfl⟩ (fun hHeld => ?_)
        clear hK K
        refine norm_ (a' := ?_) ?_ ?_
        rotate_left
        · show Act.put _ (some 13) _ = _
          simp only [aP]
          rfl
        refine pu_ 7 14 ?_ #[J,J,J,J,J,J,J,J,Z,Z,Z,Z,Z,Z,Z,Z,Z,Z,Z] rfl rfl ?_ ?_ ?_ ?_
        rotate_left
        · intro w'
          go_simp
          with_reducible rfl
        rotate_left
        · simp only [aP]
          rfl
        refine pu_ 8 15 ?_ #[J,J,J,J,J,J,J,J,J,Z,Z,Z,Z,Z,Z,Z,Z,Z,Z] rfl rfl ?_ ?_ ?_ ?_
        rotate_left
        · intro w'
          go_simp
          with_reducible rfl
        rotate_left
        · simp only [aP]
          rfl
        refine pu_ 9 16 ?_ #[J,J,J,J,J,J,J,J,J,J,Z,Z,Z,Z,Z,Z,Z,Z,Z] rfl rfl ?_ ?_ ?_ ?_
        rotate_left
        · intro w'
          go_simp
          with_reducible rfl
        rotate_left
        · simp only [aP]
          rfl
        refine pu_ 10 17 ?_ #[J,J,J,J,J,J,J,J,J,J,J,Z,Z,Z,Z,Z,Z,Z,Z] rfl rfl ?_ ?_ ?_ ?_
        rotate_left
        · intro w'
          go_simp
          with_reducible rfl
        rotate_left
        · simp only [aP]
          rfl
        refine pu_ 11 18 ?_ #[J,J,J,J,J,J,J,J,J,J,J,J,Z,Z,Z,Z,Z,Z,Z] rfl rfl ?_ ?_ ?_ ?_
        rotate_left
        · intro w'
          go_simp
          with_reducible rfl
        rotate_left
        · simp only [aP]
          rfl
        refine pu_ 12 19 ?_ #[J,J,J,J,J,J,J,J,J,J,J,J,J,Z,Z,Z,Z,Z,Z] rfl rfl ?_ ?_ ?_ ?_
        rotate_left
        · intro w'
          go_simp
          with_reducible rfl
        rotate_left
        · simp only [aP]
          rfl
        refine pu_ 13 20 ?_ #[J,J,J,J,J,J,J,J,J,J,J,J,J,J,Z,Z,Z,Z,Z] rfl rfl ?_ ?_ ?_ ?_
        rotate_left
        · intro w'
          go_simp
          with_reducible rfl
        rotate_left
        · simp only [aP]
          rfl
        refine pu_ 14 21 ?_ #[J,J,J,J,J,J,J,J,J,J,J,J,J,J,J,Z,Z,Z,Z] rfl rfl ?_ ?_ ?_ ?_
        rotate_left
        · intro w'
          go_simp
          with_reducible rfl
        rotate_left
        · simp only [aP]
          rfl
        refine ta_ 15 22 ?_ #[J,J,J,J,J,J,J,J,J,J,J,J,J,J,J,J,Z,Z,Z] rfl rfl ?_ hHeld ?_ ?_ ?_
        rotate_left
        · rintro w' ⟨s0, s1, s2⟩
          go_simp
          with_reducible rfl
        rotate_left
        · simp only [aP]
          rfl
        refine pu_ 16 23 ?_ #[J,J,J,J,J,J,J,J,J,J,J,J,J,J,J,J,J,Z,Z] rfl rfl ?_ ?_ ?_ ?_
        rotate_left
        · intro w'
          go_simp
          with_reducible rfl
        rotate_left
        · simp only [aP]
          rfl
        refine pu_ 17 24 ?_ #[J,J,J,J,J,J,J,J,J,J,J,J,J,J,J,J,J,J,Z] rfl rfl ?_ ?_ ?_ ?_
        rotate_left
        · intro w'
          go_simp
          with_reducible rfl
        rotate_left
        · simp only [aP]
          rfl
        refine pu_ 18 6 ?_ #[J,J,J,J,J,J,J,J,J,J,J,J,J,J,J,J,J,J,J] rfl rfl ?_ ?_ ?_ ?_
        rotate_left
        · intro w'
          go_simp
          with_reducible rfl
        rotate_left
        · simp only [aP]
          rfl
        refine done_ (by kernel_rfl) ?_
        go_wp2_with fail
        go_ret
        exact ⟨by rw [HV.out]; first | rfl | (simp; done), A5.out.tail⟩
      case neg =>
        have hd2 : decide (i < b) = false := decide_eq_false hib
        have HV : Aside0 (mayF n a b c i = false) := ⟨by unfold mayF; rw [hd2]; simp⟩
        have HRT := Aside0.mk hrt
        clear hrt
        go_enter Tryz.func119, Tryz.ntmps119
        go_wp2_with fail
        refine start_ (n := 19) (S := fun w' => w'.cell? ⟨W.heap.size, 0, none⟩ = some (.int .i64 a) ∧ w'.cell? ⟨W.heap.size, 1, none⟩ = some (.int .i64 b) ∧ w'.cell? ⟨W.heap.size, 2, none⟩ = some (.int .u32 c)) (ds := []) #[Z,Z,Z,Z,Z,Z,Z,Z,Z,Z,Z,Z,Z,Z,Z,Z,Z,Z,Z] (by kernel_rfl) rfl rfl ⟨(A0.out.cell 0).trans rfl, (A0.out.cell 1).trans rfl, (A0.out.cell 2).trans rfl⟩ (fun hHeld => ?_)
        refine pu_ 0 7 ?_ #[J,Z,Z,Z,Z,Z,Z,Z,Z,Z,Z,Z,Z,Z,Z,Z,Z,Z,Z] rfl rfl ?_ ?_ ?_ ?_
        rotate_left
        · intro w'
          go_simp
          with_reducible rfl
        rotate_left
        · simp only [aP]
          rfl
        refine pu_ 1 8 ?_ #[J,J,Z,Z,Z,Z,Z,Z,Z,Z,Z,Z,Z,Z,Z,Z,Z,Z,Z] rfl rfl ?_ ?_ ?_ ?_
        rotate_left
        · intro w'
          go_simp
          with_reducible rfl
        rotate_left
        · simp only [aP]
          rfl
        refine pu_ 2 9 ?_ #[J,J,J,Z,Z,Z,Z,Z,Z,Z,Z,Z,Z,Z,Z,Z,Z,Z,Z] rfl rfl ?_ ?_ ?_ ?_
        rotate_left
        · intro w'
          go_simp
          with_reducible rfl
        rotate_left
        · simp only [aP]
          rfl
        refine pu_ 4 11 ?_ #[J,J,J,Z,J,Z,Z,Z,Z,Z,Z,Z,Z,Z,Z,Z,Z,Z,Z] rfl rfl ?_ ?_ ?_ ?_
        rotate_left
        · intro w'
          go_simp
          with_reducible rfl
        rotate_left
        · simp only [aP]
          rfl
        refine ta_ 3 10 ?_ #[J,J,J,J,J,Z,Z,Z,Z,Z,Z,Z,Z,Z,Z,Z,Z,Z,Z] rfl rfl ?_ hHeld ?_ ?_ ?_
        rotate_left
        · rintro w' ⟨s0, s1, s2⟩
          go_simp
          with_reducible rfl
        rotate_left
        · simp only [aP]
          rfl
        refine one_ (i := 5) (N := some 12) #[J,J,J,J,J,J,Z,Z,Z,Z,Z,Z,Z,Z,Z,Z,Z,Z,Z] rfl rfl (by kernel_rfl) (by decide) (fun K hK => ?_)
        refine goes_ Tryz.func65 (by kernel_rfl) rfl #[.pointer (some ⟨g, 0, none⟩)] (by rfl) rfl rfl (by simp only [List.map_toArray, List.map_cons, List.map_nil]; rfl) ?_
        with_reducible refine (len_ A0.out.at2).mono ?_
        rintro e w4 ⟨rfl, rfl⟩
        refine ⟨_, rfl, ?_⟩
        rw [HLN.out]
        refine hK.out _ _ ⟨(A0.out.cell 0).trans rfl, (A0.out.cell 1).trans rfl, (A0.out.cell 2).trans rfl⟩ (fun hHeld => ?_)
        clear hK K
        refine norm_ (a' := ?_) ?_ ?_
        rotate_left
        · show Act.put _ (some 12) _ = _
          simp only [aP]
          rfl
        refine one_ (i := 6) (N := some 13) #[J,J,J,J,J,J,J,Z,Z,Z,Z,Z,Z,Z,Z,Z,Z,Z,Z] rfl rfl (by kernel_rfl) (by decide) (fun K hK => ?_)
        refine goes_ Tryz.func64 (by kernel_rfl) rfl #[.agg #[.int .i64 a, .int .i64 b, .int .u32 c], .int .i64 (n : Int)] (by rfl) rfl rfl (by simp only [List.map_toArray, List.map_cons, List.map_nil]; rfl) ?_
        with_reducible refine (right_ a b c (n : Int) _).mono ?_
        rintro e w5 ⟨rfl, hb5⟩
        refine ⟨_, rfl, ?_⟩
        rw [HRT.out]
        have A5 := Aside0.mk (A0.out.below hb5)
        clear hb5
        refine hK.out _ _ ⟨(A5.out.cell 0).trans rfl, (A5.out.cell 1).trans rfl, (A5.out.cell 2).trans rfl⟩ (fun hHeld => ?_)
        clear hK K
        refine norm_ (a' := ?_) ?_ ?_
        rotate_left
        · show Act.put _ (some 13) _ = _
          simp only [aP]
          rfl
        refine pu_ 7 14 ?_ #[J,J,J,J,J,J,J,J,Z,Z,Z,Z,Z,Z,Z,Z,Z,Z,Z] rfl rfl ?_ ?_ ?_ ?_
        rotate_left
        · intro w'
          go_simp
          with_reducible rfl
        rotate_left
        · simp only [aP]
          rfl
        refine pu_ 8 15 ?_ #[J,J,J,J,J,J,J,J,J,Z,Z,Z,Z,Z,Z,Z,Z,Z,Z] rfl rfl ?_ ?_ ?_ ?_
        rotate_left
        · intro w'
          go_simp
          with_reducible rfl
        rotate_left
        · simp only [aP]
          rfl
        refine pu_ 9 16 ?_ #[J,J,J,J,J,J,J,J,J,J,Z,Z,Z,Z,Z,Z,Z,Z,Z] rfl rfl ?_ ?_ ?_ ?_
        rotate_left
        · intro w'
          go_simp
          with_reducible rfl
        rotate_left
        · simp only [aP]
          rfl
        refine pu_ 10 17 ?_ #[J,J,J,J,J,J,J,J,J,J,J,Z,Z,Z,Z,Z,Z,Z,Z] rfl rfl ?_ ?_ ?_ ?_
        rotate_left
        · intro w'
          go_simp
          with_reducible rfl
        rotate_left
        · simp only [aP]
          rfl
        refine pu_ 11 18 ?_ #[J,J,J,J,J,J,J,J,J,J,J,J,Z,Z,Z,Z,Z,Z,Z] rfl rfl ?_ ?_ ?_ ?_
        rotate_left
        · intro w'
          go_simp
          with_reducible rfl
        rotate_left
        · simp only [aP]
          rfl
        refine pu_ 12 19 ?_ #[J,J,J,J,J,J,J,J,J,J,J,J,J,Z,Z,Z,Z,Z,Z] rfl rfl ?_ ?_ ?_ ?_
        rotate_left
        · intro w'
          go_simp
          with_reducible rfl
        rotate_left
        · simp only [aP]
          rfl
        refine pu_ 13 20 ?_ #[J,J,J,J,J,J,J,J,J,J,J,J,J,J,Z,Z,Z,Z,Z] rfl rfl ?_ ?_ ?_ ?_
        rotate_left
        · intro w'
          go_simp
          with_reducible rfl
        rotate_left
        · simp only [aP]
          rfl
        refine pu_ 14 21 ?_ #[J,J,J,J,J,J,J,J,J,J,J,J,J,J,J,Z,Z,Z,Z] rfl rfl ?_ ?_ ?_ ?_
        rotate_left
        · intro w'
          go_simp
          with_reducible rfl
        rotate_left
        · simp only [aP]
          rfl
        refine ta_ 15 22 ?_ #[J,J,J,J,J,J,J,J,J,J,J,J,J,J,J,J,Z,Z,Z] rfl rfl ?_ hHeld ?_ ?_ ?_
        rotate_left
        · rintro w' ⟨s0, s1, s2⟩
          go_simp
          with_reducible rfl
        rotate_left
        · simp only [aP]
          rfl
        refine pu_ 16 23 ?_ #[J,J,J,J,J,J,J,J,J,J,J,J,J,J,J,J,J,Z,Z] rfl rfl ?_ ?_ ?_ ?_
        rotate_left
        · intro w'
          go_simp
          with_reducible rfl
        rotate_left
        · simp only [aP]
          rfl
        refine pu_ 17 24 ?_ #[J,J,J,J,J,J,J,J,J,J,J,J,J,J,J,J,J,J,Z] rfl rfl ?_ ?_ ?_ ?_
        rotate_left
        · intro w'
          go_simp
          with_reducible rfl
        rotate_left
        · simp only [aP]
          rfl
        refine pu_ 18 6 ?_ #[J,J,J,J,J,J,J,J,J,J,J,J,J,J,J,J,J,J,J] rfl rfl ?_ ?_ ?_ ?_
        rotate_left
        · intro w'
          go_simp
          with_reducible rfl
        rotate_left
        · simp only [aP]
          rfl
        refine done_ (by kernel_rfl) ?_
        go_wp2_with fail
        go_ret
        exact ⟨by rw [HV.out]; first | rfl | (simp; done), A5.out.tail⟩
set_option maxHeartbeats 800000 in
set_option maxRecDepth 100000 in
theorem page_ (h : Sep w0 W (Dsk g las wt :: F)) (hl : las.length = 64 * n) (a b c i : Int) :
    Calls Tryz.prog 133 #[.pointer (some ⟨g, 0, none⟩), .agg #[.int .i64 a, .int .i64 b, .int .u32 c], .int .i64 i] W fun e w' => ∃ v, e = .returned (.tuple #[v, .bool (mayF n a b c i)]) ∧ Sep w0 w' (Row U8 5 v (pageF n las wt a b c i) :: Dsk g las wt :: F) := by
  have A0 := Aside0.mk (h.newBlk 80 #[.int .i64 a, .int .i64 b, .int .u32 c])
  have HL := Aside0.mk hl
  have z0 := (A0.out.cell 0).trans rfl
  have z1 := (A0.out.cell 1).trans rfl
  have z2 := (A0.out.cell 2).trans rfl
  clear h hl
  go_enter Tryz.func133, Tryz.ntmps133
  go_wp2_with fail
  refine (may_ A0.out.at2 HL.out a b c i).mono ?_
  rintro e w1 ⟨rfl, hS1⟩
  have A1 := Aside0.mk hS1.at2
  clear hS1 z0 z1 z2
  cases hm : mayF n a b c i with
  | false =>
    have HP : Aside0 (pageF n las wt a b c i = []) := ⟨by unfold pageF; rw [hm]; rfl⟩
    have HM := Aside0.mk hm
    clear hm
    go_wp2_with fail
    go_ret2
    exact ⟨_, by rw [HM.out]; first | rfl | (simp; done), by rw [HP.out]; exact A1.out.tail.nilRow _ _⟩
  | true =>
    have HP : Aside0 (pageF n las wt a b c i = secF n las wt (atF a i)) := ⟨by unfold pageF; rw [hm]; rfl⟩
    have HA := Aside0.mk (home_at hm)
    have HM := Aside0.mk hm
    clear hm
    have z0 := (A1.out.cell 0).trans rfl
    have z1 := (A1.out.cell 1).trans rfl
    have z2 := (A1.out.cell 2).trans rfl
    go_wp2_with fail
    refine (home_ a b c i _).mono ?_
    rintro e w2 ⟨rfl, hb2⟩
    have A2 := Aside0.mk (A1.out.below hb2).tail
    rw [HA.out.1]
    clear hb2 z0 z1 z2
    go_wp2_with fail
    refine (read_in A2.out (atF a i) (by have := HL.out; have := HA.out.2; omega)).mono ?_
    rintro e w3 ⟨v3, rfl, hS3⟩
    have A3 : Aside0 (Sep w0 w3 (Row U8 5 v3 (secF n las wt (atF a i)) :: Dsk g las wt :: F)) := ⟨by unfold secF; rw [if_pos HA.out.2]; exact hS3⟩
    clear hS3
    go_wp2_with fail
    go_ret2
    exact ⟨_, by rw [HM.out]; first | rfl | (simp; done), by rw [HP.out]; exact A3.out⟩
set_option maxHeartbeats 800000 in
set_option maxRecDepth 100000 in
theorem put_ (h : Sep w0 W (Dsk g las wt :: F)) (hl : las.length = 64 * n) (hn : n ≤ 160) (a b c i : Int) {A : Option Addr} {m cp : Nat} {x : List Int} (hx : ∀ W', Sep w0 W' F → U8.C W' A m x) (hcp : m ≤ cp) :
    Calls Tryz.prog 94 #[.pointer (some ⟨g, 0, none⟩), .agg #[.int .i64 a, .int .i64 b, .int .u32 c], .int .i64 i, .slice A m cp] W fun e w' => e = .returned (.bool (mayF n a b c i && decide (x.length = 64))) ∧ Sep w0 w' (Dsk g las (putP n wt a b c i x) :: F) := by
  have A0 := Aside0.mk (h.newBlk 80 #[.int .i64 a, .int .i64 b, .int .u32 c])
  have HL := Aside0.mk hl
  have HX := Aside0.mk (And.intro hx hcp)
  have HN := Aside0.mk hn
  have z0 := (A0.out.cell 0).trans rfl
  have z1 := (A0.out.cell 1).trans rfl
  have z2 := (A0.out.cell 2).trans rfl
  clear h hl hx hcp hn
  go_enter Tryz.func94, Tryz.ntmps94
  go_wp2_with fail
  refine (may_ A0.out.at2 HL.out a b c i).mono ?_
  rintro e w1 ⟨rfl, hS1⟩
  have A1 := Aside0.mk hS1.at2
  clear hS1 z0 z1 z2
  cases hm : mayF n a b c i with
  | false =>
    have HP : Aside0 (putP n wt a b c i x = wt) := ⟨by unfold putP; rw [hm]; rfl⟩
    have HM := Aside0.mk hm
    clear hm
    go_wp2_with fail
    go_ret
    exact ⟨by rw [HM.out]; first | rfl | (simp; done), by rw [HP.out]; exact A1.out.tail⟩
  | true =>
    have HP : Aside0 (putP n wt a b c i x = putW n wt (atF a i) x) := ⟨by unfold putP; rw [hm]; rfl⟩
    have HA := Aside0.mk (home_at hm)
    have HM := Aside0.mk hm
    clear hm
    have z0 := (A1.out.cell 0).trans rfl
    have z1 := (A1.out.cell 1).trans rfl
    have z2 := (A1.out.cell 2).trans rfl
    go_wp2_with fail
    refine (home_ a b c i _).mono ?_
    rintro e w2 ⟨rfl, hb2⟩
    have A2 := Aside0.mk (A1.out.below hb2).tail
    rw [HA.out.1]
    clear hb2 z0 z1 z2
    go_wp2_with fail
    refine (dwrite_ A2.out HL.out HN.out (atF a i) (HX.out.1 _ A2.out.tail) HX.out.2).mono ?_
    rintro e w3 ⟨rfl, hS3⟩
    have HD : Aside0 (decide (atF a i < n ∧ x.length = 64) = (true && decide (x.length = 64))) := ⟨by
      have := HA.out.2
      by_cases h64 : x.length = 64
      · rw [decide_eq_true ⟨this, h64⟩, decide_eq_true h64]; rfl
      · rw [decide_eq_false (fun h => h64 h.2), decide_eq_false h64]; rfl⟩
    have A3 := Aside0.mk hS3
    rw [HD.out]
    clear hS3
    go_wp2_with fail
    go_ret
    exact ⟨by rw [HM.out]; first | rfl | (simp; done), by rw [HP.out]; exact A3.out⟩
theorem infoS : (Tryz.prog.info? 24).map (fun i => (i.zero, i.size, i.bytes)) = some (some (.slice none 0 0), 1, 24) := by kernel_rfl
set_option maxHeartbeats 800000 in
set_option maxRecDepth 100000 in
theorem all_ (h : Sep w0 W (Dsk g las wt :: F)) (hl : las.length = 64 * n) (a b c : Int) :
    Calls Tryz.prog 123 #[.pointer (some ⟨g, 0, none⟩), .agg #[.int .i64 a, .int .i64 b, .int .u32 c]] W fun e w' => ∃ v, e = .returned v ∧ Sep w0 w' (Row K2 24 v (pagesF n las wt a b c) :: Dsk g las wt :: F) := by
  have A0 := Aside0.mk (h.newBlk 80 #[.int .i64 a, .int .i64 b, .int .u32 c])
  have HL := Aside0.mk hl
  have z0 := (A0.out.cell 0).trans rfl
  have z1 := (A0.out.cell 1).trans rfl
  have z2 := (A0.out.cell 2).trans rfl
  clear h hl
  go_enter Tryz.func123, Tryz.ntmps123
  go_wp2_with fail
  refine (may_ A0.out.at2 HL.out a b c 0).mono ?_
  rintro e w1 ⟨rfl, hS1⟩
  have A1 := Aside0.mk hS1.at2
  clear hS1 z0 z1 z2
  cases hm : mayF n a b c 0 with
  | false =>
    have HP : Aside0 (pagesF n las wt a b c = []) := ⟨by
      unfold pagesF
      cases hr : rightR a b c n with
      | false => rfl
      | true =>
        exfalso
        have h1 : 1 ≤ b := by unfold rightR at hr; exact (of_decide_eq_true hr).2.2.1
        have : mayF n a b c 0 = true := by unfold mayF; rw [hr, decide_eq_true (show (0 : Int) ≤ 0 by omega), decide_eq_true (show (0 : Int) < b by omega)]; rfl
        rw [this] at hm; cases hm⟩
    clear hm
    go_wp2_with fail
    go_ret
    exact ⟨_, by first | rfl | (simp; done), by rw [HP.out]; exact A1.out.tail.nilRow _ _⟩
  | true =>
    obtain ⟨h1, h2, h3, h4, h5, h6, h7, h8⟩ := may_in hm
    have hr : rightR a b c n = true := by unfold rightR; exact decide_eq_true ⟨h1, h2, h3, h4, h5, h6⟩
    obtain ⟨B, rfl⟩ := Int.eq_ofNat_of_zero_le (show 0 ≤ b by omega)
    have HP : Aside0 (pagesF n las wt a (B : Int) c = (List.range B).map (fun i : Nat => pageF n las wt a (B : Int) c (i : Int))) := ⟨by unfold pagesF; rw [if_pos hr, Int.toNat_natCast]⟩
    have hB : B ≤ 64 := by omega
    have HMI : Aside0 (∀ i : Nat, i < B → mayF n a (B : Int) c (i : Int) = true) := ⟨fun i hi => by
      unfold mayF; rw [hr, decide_eq_true (show (0 : Int) ≤ (i : Int) by omega), decide_eq_true (show (i : Int) < (B : Int) by omega)]; rfl⟩
    clear hm h1 h2 h3 h4 h5 h6 h7 h8 hr
    have z0 := (A1.out.cell 0).trans rfl
    have z1 := (A1.out.cell 1).trans rfl
    have z2 := (A1.out.cell 2).trans rfl
    have A2 := Aside0.mk (A1.out.nilRow K2 24)
    go_wp2_with fail
    clear z0 z1 z2
    go_loopg [5, 15] B (fun m v p wr => ∃ j : Nat, p = .int .i64 (j : Int) ∧ j + m = B ∧ Sep w0 wr (Row K2 24 v ((List.range j).map (fun i : Nat => pageF n las wt a (B : Int) c (i : Int))) :: Blk W.heap.size 80 #[.int .i64 a, .int .i64 (B : Int), .int .u32 c] :: Dsk g las wt :: F))
    case atStart => exact ⟨0, rfl, by omega, A2.out⟩
    case round =>
      obtain ⟨j, rfl, hjm, hS⟩ := hrel
      have AK := Aside0.mk hjm
      have AS := Aside0.mk hS
      obtain ⟨A3, c3, rfl⟩ := hS.rowN (n := j) (by simp)
      clear hS
      by_cases hj : j < B
      · have hjl : (j : Int) < (B : Int) := by omega
        have z0 := (AS.out.at2.cell 0).trans rfl
        have z1 := (AS.out.at2.cell 1).trans rfl
        have z2 := (AS.out.at2.cell 2).trans rfl
        have HSN : Aside0 ((List.range (j + 1)).map (fun i : Nat => pageF n las wt a (B : Int) c (i : Int)) = (List.range j).map (fun i : Nat => pageF n las wt a (B : Int) c (i : Int)) ++ [pageF n las wt a (B : Int) c (j : Int)]) := ⟨by rw [List.range_succ, List.map_append]; rfl⟩
        clear hjm
        go_wp2_with fail
        refine (page_ AS.out.at3 HL.out a (B : Int) c (j : Int)).mono ?_
        rintro e w3 ⟨v3, rfl, hS3⟩
        rw [HMI.out j hj]
        obtain ⟨A4, c4, rfl⟩ := hS3.rowV
        have L3 := Aside0.mk (hS3.elSlice.at3)
        clear hS3 z0 z1 z2
        generalize pageF n las wt a (B : Int) c (j : Int) = x at *
        go_wp2_with (first | (refine gate_builtin (b := .append) (xs := #[.tmp 25, .tmp 27]) rfl ?_; go_loud (refine L3.out.appendDeep rfl (.tmp 25) (.tmp 27) 49 _ 24 rfl Tryz.underlying49 infoS rfl (by decide) (by decide) rfl rfl (by simp; omega) ?_; intro v6 w6 hs6 hS6; have A6 := Aside0.mk hS6; clear hS6)))
        go_roundg (gk - 1)
        case measure => have := AK.out; omega
        case rel => exact ⟨j + 1, by go_num, by have := AK.out; omega, by rw [HSN.out]; exact A6.out.sw23⟩
      · obtain rfl : j = B := by omega
        clear hjm
        go_wp2_with fail
        go_ret
        exact ⟨_, by first | rfl | (simp; done), by rw [HP.out]; exact AS.out.drop2⟩
end
end Go.Proofs.YtjngnigelkgekaaGreat.Home
namespace Go.Proofs.YtjngnigelkgekaaGreat.Store
open Go.RowKit Go.Proofs.YtjngnigelkgekaaGreatW.PrintWords Go.Proofs.YtjngnigelkgekaaGreatW.PrintLast Go.Proofs.YtjngnigelkgekaaGreatW.PrintMore Go.Proofs.YtjngnigelkgekaaGreat.Kit Go.Proofs.YtjngnigelkgekaaGreat.Plain Go.Proofs.YtjngnigelkgekaaGreat.Disk Go.Proofs.YtjngnigelkgekaaGreat.Root
open Go.Proofs.YtjngnigelkgekaaGreat.Home (putP put_ mayF atF)
theorem sortedS {w0 W : World} {F : List HP} {m : Nat} {ks : List Int} (h : Sep w0 W (SetM m ks :: F)) :
    Calls Tryz.prog 92 #[.func (.func 118) #[] #[.pointer (some ⟨W.heap.size, 0, none⟩)]] (W.alloc (.cells #[.map (some m)] 106)) fun e w' => ∃ v, e = .returned v ∧ Sep W w' [Row I64 3 v (sortK ks)] := by
  obtain ⟨l, clock, hok, hl, hS⟩ := set_open h
  exact sortedB_ hok hS.map (by rw [hl]; exact sortK_perm ks) (sortK_sorted ks)
theorem to6 {w0 W : World} {p q r s t u : HP} {F : List HP} (h : Sep w0 W (p :: q :: r :: s :: t :: u :: F)) : Sep w0 W (q :: r :: s :: t :: u :: p :: F) := (h.at2.at2.to4.perm (.cons _ (.cons _ (.cons _ ((List.Perm.swap _ _ _).trans (.cons _ (.swap _ _ _))))))).perm (.refl _)
theorem at6 {w0 W : World} {p q r s t u : HP} {F : List HP} (h : Sep w0 W (p :: q :: r :: s :: t :: u :: F)) : Sep w0 W (u :: p :: q :: r :: s :: t :: F) := (h.perm (.cons p (.cons q (.cons r ((List.Perm.cons s (.swap _ _ _)).trans (.swap _ _ _)))))).at4
theorem ov_at {W : World} {pages : List (List Int)} {cs : List OV} (hE : EachV KP pages cs W) {k : Nat} (hk : k < pages.length) : ∃ (hc : k < cs.length) (B : Option Addr) (cB : Nat), (cs[k]).1 = .slice B (pages[k]).length cB ∧ (pages[k]).length ≤ cB := by
  have hc : k < cs.length := by rw [← hE.1]; exact hk
  obtain ⟨B, cB, h1, h2, _⟩ := hE.2 k _ _ (List.getElem?_eq_getElem hk) (List.getElem?_eq_getElem hc)
  exact ⟨hc, B, cB, (List.cons.inj h1).1, h2⟩
theorem ov_C {W : World} {pages : List (List Int)} {cs : List OV} (hE : EachV KP pages cs W) {k : Nat} (hk : k < pages.length) (hc : k < cs.length) {B : Option Addr} {cB : Nat} (hv : (cs[k]).1 = .slice B (pages[k]).length cB) : (Kd.int .u8).C W B (pages[k]).length pages[k] := by
  obtain ⟨B', cB', h1, _, h3⟩ := hE.2 k _ _ (List.getElem?_eq_getElem hk) (List.getElem?_eq_getElem hc)
  have h4 := (List.cons.inj h1).1
  rw [hv] at h4
  cases h4
  exact h3
def homeW (n : Nat) (a b c : Int) (pages : List (List Int)) : List Int → Wt → Wt
  | [], wt => wt
  | k :: t, wt => homeW n a b c pages t (putP n wt a b c k (pages.getD k.toNat []))
theorem homeW_snoc (n : Nat) (a b c : Int) (pages : List (List Int)) (k : Int) : ∀ (l : List Int) (wt : Wt), homeW n a b c pages (l ++ [k]) wt = putP n (homeW n a b c pages l wt) a b c k (pages.getD k.toNat [])
  | [], wt => rfl
  | x :: t, wt => homeW_snoc n a b c pages k t _
theorem putP_len {n : Nat} {wt : Wt} {a b c i : Int} {x : List Int} (hw : ∀ i b, wt i = some b → b.length = 64) : ∀ k y, putP n wt a b c i x k = some y → y.length = 64 := by
  unfold putP
  split
  · exact putW_len hw
  · exact hw
theorem homeW_len {n : Nat} {a b c : Int} {pages : List (List Int)} : ∀ (l : List Int) {wt : Wt}, (∀ i b, wt i = some b → b.length = 64) → ∀ k y, homeW n a b c pages l wt k = some y → y.length = 64
  | [], _, h => h
  | _ :: t, _, h => homeW_len t (putP_len h)
def chkL (n : Nat) (las : List Int) (wt : Wt) (a b ep : Int) (pages : List (List Int)) (named : List Int) : List Int :=
  flushed (flushed (flushed las wt) (homeW n a b ep pages (sortK named) (fun _ => none))) (putW n (fun _ => none) ((ep + 1) % 2).toNat (rootF (m32 a) (m32 b) (ep + 1)))
section
variable {w0 W : World} {F : List HP} {gs g m n : Nat} {a b ep : Int} {pages : List (List Int)} {named : List Int} {used seq : Nat} {las : List Int} {wt : Wt}
set_option maxHeartbeats 1600000 in
set_option maxRecDepth 100000 in
theorem check_full (h : Sep w0 W (StB gs g m a b 4294967295 pages named used seq :: F)) : Calls Tryz.prog 47 #[.pointer (some ⟨gs, 0, none⟩)] W fun e w' => e = .returned (.int .i64 24) ∧ W = w' := by
  obtain ⟨A, c, hs⟩ := stb_open h
  have z3 := (hs.cell 3).trans rfl
  clear h hs
  go_enter Tryz.func47, Tryz.ntmps47
  go_wp2_with fail
  go_ret
  exact ⟨by first | rfl | (simp; done), rfl⟩
set_option maxHeartbeats 1600000 in
set_option maxRecDepth 100000 in
theorem check_ (h : Sep w0 W (StB gs g m a b ep pages named used seq :: Dsk g las wt :: F)) (hl : las.length = 64 * n) (hn : n ≤ 160) (hw : ∀ i b, wt i = some b → b.length = 64) (hep : 0 ≤ ep ∧ ep < 4294967295) (hk : ∀ k ∈ named, 0 ≤ k ∧ k < (pages.length : Int)) (hpn : pages.length ≤ 100000) :
    Calls Tryz.prog 47 #[.pointer (some ⟨gs, 0, none⟩)] W fun e w' => e = .returned (.int .i64 0) ∧ Sep w0 w' (StB gs g m a b (ep + 1) pages [] 0 0 :: Dsk g (chkL n las wt a b ep pages named) (fun _ => none) :: F) := by
  obtain ⟨A, c, hs⟩ := stb_open h
  obtain ⟨cs, hs2⟩ := hs.at2.rowV_open
  obtain ⟨N, hN⟩ : ∃ N, pages.length = N := ⟨_, rfl⟩
  rw [hN] at hs2
  have B0 := Aside0.mk hs2.at5
  have HN := Aside0.mk hN
  have HL := Aside0.mk (And.intro hl (And.intro hn hw))
  have HK := Aside0.mk hk
  have HEP := Aside0.mk hep
  have HL1 := Aside0.mk (Ref.flushed_len hl hw)
  obtain ⟨L1, hL1⟩ : ∃ L, flushed las wt = L := ⟨_, rfl⟩
  have HL1E := Aside0.mk hL1
  rw [hL1] at HL1
  obtain ⟨ks, hks⟩ : ∃ ks, sortK named = ks := ⟨_, rfl⟩
  have HKS := Aside0.mk hks
  have HKM : Aside0 (∀ k ∈ ks, 0 ≤ k ∧ k < (N : Int)) := ⟨fun k hk' => by rw [← hks] at hk'; rw [← hN]; exact hk k ((sortK_perm named).mem_iff.2 hk')⟩
  obtain ⟨nk, hnk⟩ : ∃ n, ks.length = n := ⟨_, rfl⟩
  have HNK := Aside0.mk hnk
  have z0 := (B0.out.at4.cell 0).trans rfl
  have z3 := (B0.out.at4.cell 3).trans rfl
  have hep2 : (ep == 4294967295) = false := by simp; omega
  have hep3 : ¬ ep = 4294967295 := by omega
  clear h hs hs2 hN hl hn hw hk hep hpn hL1 hks hnk
  go_enter Tryz.func47, Tryz.ntmps47
  go_wp2_with fail
  refine (flush_ B0.out).mono ?_
  rintro e w1 ⟨rfl, hS1⟩
  rw [HL1E.out] at hS1
  have B1 := Aside0.mk hS1
  clear hS1 z0 z3
  have z5 := (B1.out.at4.cell 5).trans rfl
  go_wp2_with fail
  refine (keysB_ m _).mono ?_
  rintro e w2 ⟨rfl, rfl⟩
  go_wp2_with fail
  refine (sortedS B1.out.at5).mono ?_
  rintro e w3 ⟨v3, rfl, hS3⟩
  rw [HKS.out] at hS3
  obtain ⟨A3, c3, rfl⟩ := hS3.rowN HNK.out
  have B3 := Aside0.mk (to6 (B1.out.lift1 hS3))
  have hnb : nk ≤ 9223372036854775807 := hS3.rowC'.2.1
  clear hS3 z5
  go_wp2_with fail
  go_loopg [23] nk (fun k_ p wr => ∃ (j : Nat), p = .int .i64 (j : Int) ∧ j + k_ = nk ∧ Sep w0 wr (Dsk g L1 (homeW n a b ep pages (ks.take j) (fun _ => none)) :: Row KV 24 (.slice A N c) cs :: Fx (EachV KP pages cs) :: Blk gs 108 #[.pointer (some ⟨g, 0, none⟩), .int .i64 a, .int .i64 b, .int .u32 ep, .slice A N c, .map (some m), .int .i64 (used : Int), .int .u32 (seq : Int)] :: SetM m named :: Row I64 3 (.slice A3 nk c3) ks :: F))
  case atStart => exact ⟨0, rfl, by omega, B3.out⟩
  case round =>
    obtain ⟨j, rfl, hjk, hS⟩ := hrel
    have AK := Aside0.mk hjk
    have AS := Aside0.mk hS
    clear hS
    by_cases cj : j < nk
    case pos =>
      have hjl : (j : Int) < (nk : Int) := by omega
      obtain ⟨ad, hA, hcc⟩ := Kd.at_int (at6 AS.out).rowC' (j : Int) (by omega) (by omega)
      rw [Int.toNat_natCast] at hcc
      have hjx : j < ks.length := by rw [HNK.out]; exact cj
      obtain ⟨kk, hkk⟩ := Int.eq_ofNat_of_zero_le (HKM.out _ (List.getElem_mem hjx)).1
      have hkN : kk < N := by have := (HKM.out _ (List.getElem_mem hjx)).2; omega
      have hgd : rd ks (j : Int) = (kk : Int) := by unfold rd; rw [Int.toNat_natCast, List.getD_eq_getElem?_getD, List.getElem?_eq_getElem hjx]; exact hkk
      rw [hgd] at hcc
      have hkp : kk < pages.length := by rw [HN.out]; exact hkN
      have BD := Aside0.mk AS.out.drew
      obtain ⟨hc', B, cB, hov, hlc⟩ := ov_at BD.out.at3.fx hkp
      have HCX : Aside0 (∀ W', Sep w0 W' (Row KV 24 (.slice A N c) cs :: Fx (EachV KP pages cs) :: Blk gs 108 #[.pointer (some ⟨g, 0, none⟩), .int .i64 a, .int .i64 b, .int .u32 ep, .slice A N c, .map (some m), .int .i64 (used : Int), .int .u32 (seq : Int)] :: SetM m named :: Row I64 3 (.slice A3 nk c3) ks :: F) → (Kd.int .u8).C W' B (pages[kk]).length pages[kk]) := ⟨fun W' hW => ov_C hW.at2.fx hkp hc' hov⟩
      obtain ⟨_, ap, cs1, hAp, hK1, hc0, _⟩ := elem_ (d := KV) BD.out.at2.rowC' hkN
      have hK2 : cs1 = [(cs[kk]).1] := hK1
      subst hK2
      have hcell := hc0 _ rfl
      rw [show kk * KV.sz = kk from Nat.mul_one kk, hov] at hcell
      obtain ⟨XL, hXL⟩ : ∃ L, (pages[kk]).length = L := ⟨_, rfl⟩
      obtain ⟨x, hx⟩ : ∃ x, pages[kk] = x := ⟨_, rfl⟩
      rw [hXL] at hcell hlc HCX
      rw [hx] at HCX
      have HCL := Aside0.mk hcell
      have HLC := Aside0.mk hlc
      have HPG : Aside0 (homeW n a b ep pages (ks.take (j + 1)) (fun _ => none) = putP n (homeW n a b ep pages (ks.take j) (fun _ => none)) a b ep (kk : Int) x) := ⟨by
        rw [List.take_add_one, List.getElem?_eq_getElem hjx, hkk]
        show homeW n a b ep pages (ks.take j ++ [(kk : Int)]) _ = _
        rw [homeW_snoc, Int.toNat_natCast, List.getD_eq_getElem?_getD, List.getElem?_eq_getElem hkp, ← hx]
        rfl⟩
      subst hA hAp
      have hkl : (kk : Int) < (N : Int) := by omega
      clear hjk cj hkk hgd hov hXL hx hcell hc0 hlc hjx
      go_wp2_with fail
      refine start_ (n := 17) (S := fun w' => w'.cell? ⟨gs, 0, none⟩ = some (.pointer (some ⟨g, 0, none⟩)) ∧ w'.cell? ⟨gs, 1, none⟩ = some (.int .i64 a) ∧ w'.cell? ⟨gs, 2, none⟩ = some (.int .i64 b) ∧ w'.cell? ⟨gs, 3, none⟩ = some (.int .u32 ep) ∧ w'.cell? ⟨gs, 4, none⟩ = some (.slice (some ap) N c) ∧ w'.cell? (ap.add kk) = some (.slice B XL cB)) (ds := [16]) #[Z,Z,Z,Z,Z,Z,Z,Z,Z,Z,Z,Z,Z,Z,Z,Z,Z] (by kernel_rfl) rfl rfl ⟨(BD.out.at4.cell 0).trans rfl, (BD.out.at4.cell 1).trans rfl, (BD.out.at4.cell 2).trans rfl, (BD.out.at4.cell 3).trans rfl, (BD.out.at4.cell 4).trans rfl, HCL.out⟩ (fun hHeld => ?_)
      refine pu_ 0 27 ?_ #[J,Z,Z,Z,Z,Z,Z,Z,Z,Z,Z,Z,Z,Z,Z,Z,Z] rfl rfl ?_ ?_ ?_ ?_
      rotate_left
      · intro w'
        go_simp
        with_reducible rfl
      rotate_left
      · simp only [aP]
        rfl
      refine pu_ 1 28 ?_ #[J,J,Z,Z,Z,Z,Z,Z,Z,Z,Z,Z,Z,Z,Z,Z,Z] rfl rfl ?_ ?_ ?_ ?_
      rotate_left
      · intro w'
        go_simp
        with_reducible rfl
      rotate_left
      · simp only [aP]
        rfl
      refine pu_ 2 29 ?_ #[J,J,J,Z,Z,Z,Z,Z,Z,Z,Z,Z,Z,Z,Z,Z,Z] rfl rfl ?_ ?_ ?_ ?_
      rotate_left
      · intro w'
        go_simp
        with_reducible rfl
      rotate_left
      · simp only [aP]
        rfl
      refine pu_ 4 31 ?_ #[J,J,J,Z,J,Z,Z,Z,Z,Z,Z,Z,Z,Z,Z,Z,Z] rfl rfl ?_ ?_ ?_ ?_
      rotate_left
      · intro w'
        go_simp
        with_reducible rfl
      rotate_left
      · simp only [aP]
        rfl
      refine pu_ 5 32 ?_ #[J,J,J,Z,J,J,Z,Z,Z,Z,Z,Z,Z,Z,Z,Z,Z] rfl rfl ?_ ?_ ?_ ?_
      rotate_left
      · intro w'
        go_simp
        with_reducible rfl
      rotate_left
      · simp only [aP]
        rfl
      refine pu_ 6 33 ?_ #[J,J,J,Z,J,J,J,Z,Z,Z,Z,Z,Z,Z,Z,Z,Z] rfl rfl ?_ ?_ ?_ ?_
      rotate_left
      · intro w'
        go_simp
        with_reducible rfl
      rotate_left
      · simp only [aP]
        rfl
      refine pu_ 8 35 ?_ #[J,J,J,Z,J,J,J,Z,J,Z,Z,Z,Z,Z,Z,Z,Z] rfl rfl ?_ ?_ ?_ ?_
      rotate_left
      · intro w'
        go_simp
        with_reducible rfl
      rotate_left
      · simp only [aP]
        rfl
      refine pu_ 9 36 ?_ #[J,J,J,Z,J,J,J,Z,J,J,Z,Z,Z,Z,Z,Z,Z] rfl rfl ?_ ?_ ?_ ?_
      rotate_left
      · intro w'
        go_simp
        with_reducible rfl
      rotate_left
      · simp only [aP]
        rfl
      refine pu_ 10 37 ?_ #[J,J,J,Z,J,J,J,Z,J,J,J,Z,Z,Z,Z,Z,Z] rfl rfl ?_ ?_ ?_ ?_
      rotate_left
      · intro w'
        go_simp
        with_reducible rfl
      rotate_left
      · simp only [aP]
        rfl
      refine pu_ 11 38 ?_ #[J,J,J,Z,J,J,J,Z,J,J,J,J,Z,Z,Z,Z,Z] rfl rfl ?_ ?_ ?_ ?_
      rotate_left
      · intro w'
        go_simp
        with_reducible rfl
      rotate_left
      · simp only [aP]
        rfl
      refine pu_ 13 40 ?_ #[J,J,J,Z,J,J,J,Z,J,J,J,J,Z,J,Z,Z,Z] rfl rfl ?_ ?_ ?_ ?_
      rotate_left
      · intro w'
        go_simp
        with_reducible rfl
      rotate_left
      · simp only [aP]
        rfl
      refine ta_ 3 30 ?_ #[J,J,J,J,J,J,J,Z,J,J,J,J,Z,J,Z,Z,Z] rfl rfl ?_ hHeld ?_ ?_ ?_
      rotate_left
      · rintro w' ⟨s0, s1, s2, s3, s4, s5⟩
        go_simp
        with_reducible rfl
      rotate_left
      · simp only [aP]
        rfl
      refine ta_ 7 34 ?_ #[J,J,J,J,J,J,J,J,J,J,J,J,Z,J,Z,Z,Z] rfl rfl ?_ hHeld ?_ ?_ ?_
      rotate_left
      · rintro w' ⟨s0, s1, s2, s3, s4, s5⟩
        go_simp
        with_reducible rfl
      rotate_left
      · simp only [aP]
        rfl
      refine ta_ 12 39 ?_ #[J,J,J,J,J,J,J,J,J,J,J,J,J,J,Z,Z,Z] rfl rfl ?_ hHeld ?_ ?_ ?_
      rotate_left
      · rintro w' ⟨s0, s1, s2, s3, s4, s5⟩
        go_simp
        with_reducible rfl
      rotate_left
      · simp only [aP]
        rfl
      refine pu_ 14 41 ?_ #[J,J,J,J,J,J,J,J,J,J,J,J,J,J,J,Z,Z] rfl rfl ?_ ?_ ?_ ?_
      rotate_left
      · intro w'
        go_simp
        with_reducible rfl
      rotate_left
      · simp only [aP]
        rfl
      refine ta_ 15 42 ?_ #[J,J,J,J,J,J,J,J,J,J,J,J,J,J,J,J,Z] rfl rfl ?_ hHeld ?_ ?_ ?_
      rotate_left
      · rintro w' ⟨s0, s1, s2, s3, s4, s5⟩
        go_simp
        with_reducible rfl
      rotate_left
      · simp only [aP]
        rfl
      refine last_ (i := 16) (N := some 43) #[J,J,J,J,J,J,J,J,J,J,J,J,J,J,J,J,J] rfl rfl (by kernel_rfl) (by decide) (fun K hK => ?_)
      refine goes_ Tryz.func94 (by kernel_rfl) rfl #[.pointer (some ⟨g, 0, none⟩), .agg #[.int .i64 a, .int .i64 b, .int .u32 ep], .int .i64 (kk : Int), .slice B XL cB] (by rfl) rfl rfl (by simp only [List.map_toArray, List.map_cons, List.map_nil]; rfl) ?_
      with_reducible refine (put_ BD.out HL1.out HL.out.2.1 a b ep (kk : Int) HCX.out HLC.out).mono ?_
      rintro e w6 ⟨rfl, hS6⟩
      refine ⟨_, rfl, ?_⟩
      rw [← HPG.out] at hS6
      have B6 := Aside0.mk hS6
      clear hS6
      refine hK.out _ _ ?_
      clear hK K
      refine norm_ (a' := ?_) ?_ ?_
      rotate_left
      · show Act.put _ (some 43) _ = _
        simp only [aP]
        rfl
      refine done_ (by kernel_rfl) ?_
      go_wp2_with fail
      go_roundg (gk - 1)
      case measure => have := AK.out; omega
      case rel => exact ⟨j + 1, by go_num, by have := AK.out; omega, B6.out⟩
    case neg =>
    obtain rfl : j = nk := by omega
    have hjl : ¬ (j : Int) < (j : Int) := by omega
    have HTK : Aside0 (ks.take j = ks) := ⟨List.take_of_length_le (by rw [HNK.out]; exact Nat.le_refl _)⟩
    have z0 := (AS.out.at4.cell 0).trans rfl
    clear hjk cj
    go_wp2_with fail
    refine (flush_ AS.out).mono ?_
    rintro e w4 ⟨rfl, hS4⟩
    rw [HTK.out] at hS4
    obtain ⟨L2, hL2⟩ : ∃ L, flushed L1 (homeW n a b ep pages ks (fun _ => none)) = L := ⟨_, rfl⟩
    have HL2 := Aside0.mk (show L2.length = 64 * n by rw [← hL2]; exact Ref.flushed_len HL1.out (homeW_len ks Ref.none_len))
    have HL2E := Aside0.mk hL2
    rw [hL2] at hS4
    have B4 := Aside0.mk hS4.at4
    clear hS4 z0 hL2
    have z3 := (B4.out.cell 3).trans rfl
    have f3 := B4.out.frozen 3
    obtain ⟨E, hE⟩ : ∃ E, ep + 1 = E := ⟨_, rfl⟩
    have HE := Aside0.mk hE
    have HEB : Aside0 (0 ≤ E ∧ E ≤ 4294967295) := ⟨by have := HEP.out; omega⟩
    have B5 := Aside0.mk (B4.out.setBlk 3 (.int .u32 E))
    have hu1 : IntKind.u32.wrap (ep + 1) = E := by have := HEP.out; rw [IntKind.wrap_u32]; omega
    obtain ⟨jj, hjj⟩ := Int.eq_ofNat_of_zero_le (show 0 ≤ E % 2 by omega)
    have HJJ : Aside0 (((ep + 1) % 2).toNat = jj) := ⟨by rw [hE, hjj, Int.toNat_natCast]⟩
    have hjt : E.tmod 2 = (jj : Int) := by rw [Int.tmod_eq_emod_of_nonneg HEB.out.1]; exact hjj
    have hjw : IntKind.i64.wrap (jj : Int) = (jj : Int) := by rw [IntKind.wrap_i64]; omega
    have hjw2 : IntKind.u32.wrap (jj : Int) = (jj : Int) := by rw [IntKind.wrap_u32]; omega
    clear hE hep3 hep2
    go_upto_if 68 with fail
    obtain ⟨w5, hw5⟩ : ∃ x, w4.setCell ⟨gs, 3, none⟩ (.int .u32 E) = x := ⟨_, rfl⟩
    rw [hw5] at B5 ⊢
    have B6 : Aside0 (Sep w0 w5.drew (Blk gs 108 #[.pointer (some ⟨g, 0, none⟩), .int .i64 a, .int .i64 b, .int .u32 E, .slice A N c, .map (some m), .int .i64 (used : Int), .int .u32 (seq : Int)] :: Dsk g L2 (fun _ => none) :: Row KV 24 (.slice A N c) cs :: Fx (EachV KP pages cs) :: SetM m named :: Row I64 3 (.slice A3 j c3) ks :: F)) := ⟨B5.out.drew⟩
    clear hw5 B5 z3 f3 hu1
    refine start_ (n := 17) (S := fun w' => w'.cell? ⟨gs, 0, none⟩ = some (.pointer (some ⟨g, 0, none⟩)) ∧ w'.cell? ⟨gs, 1, none⟩ = some (.int .i64 a) ∧ w'.cell? ⟨gs, 2, none⟩ = some (.int .i64 b) ∧ w'.cell? ⟨gs, 3, none⟩ = some (.int .u32 E)) (ds := [16]) #[Z,Z,Z,Z,Z,Z,Z,Z,Z,Z,Z,Z,Z,Z,Z,Z,Z] (by kernel_rfl) rfl rfl ⟨(B6.out.cell 0).trans rfl, (B6.out.cell 1).trans rfl, (B6.out.cell 2).trans rfl, (B6.out.cell 3).trans rfl⟩ (fun hHeld => ?_)
    refine pu_ 0 59 ?_ #[J,Z,Z,Z,Z,Z,Z,Z,Z,Z,Z,Z,Z,Z,Z,Z,Z] rfl rfl ?_ ?_ ?_ ?_
    rotate_left
    · intro w'
      go_simp
      with_reducible rfl
    rotate_left
    · simp only [aP]
      rfl
    refine pu_ 1 60 ?_ #[J,J,Z,Z,Z,Z,Z,Z,Z,Z,Z,Z,Z,Z,Z,Z,Z] rfl rfl ?_ ?_ ?_ ?_
    rotate_left
    · intro w'
      go_simp
      with_reducible rfl
    rotate_left
    · simp only [aP]
      rfl
    refine pu_ 2 61 ?_ #[J,J,J,Z,Z,Z,Z,Z,Z,Z,Z,Z,Z,Z,Z,Z,Z] rfl rfl ?_ ?_ ?_ ?_
    rotate_left
    · intro w'
      go_simp
      with_reducible rfl
    rotate_left
    · simp only [aP]
      rfl
    refine pu_ 4 63 ?_ #[J,J,J,Z,J,Z,Z,Z,Z,Z,Z,Z,Z,Z,Z,Z,Z] rfl rfl ?_ ?_ ?_ ?_
    rotate_left
    · intro w'
      go_simp
      with_reducible rfl
    rotate_left
    · simp only [aP]
      rfl
    refine pu_ 5 64 ?_ #[J,J,J,Z,J,J,Z,Z,Z,Z,Z,Z,Z,Z,Z,Z,Z] rfl rfl ?_ ?_ ?_ ?_
    rotate_left
    · intro w'
      go_simp
      with_reducible rfl
    rotate_left
    · simp only [aP]
      rfl
    refine pu_ 6 65 ?_ #[J,J,J,Z,J,J,J,Z,Z,Z,Z,Z,Z,Z,Z,Z,Z] rfl rfl ?_ ?_ ?_ ?_
    rotate_left
    · intro w'
      go_simp
      with_reducible rfl
    rotate_left
    · simp only [aP]
      rfl
    refine pu_ 7 66 ?_ #[J,J,J,Z,J,J,J,J,Z,Z,Z,Z,Z,Z,Z,Z,Z] rfl rfl ?_ ?_ ?_ ?_
    rotate_left
    · intro w'
      go_simp
      with_reducible rfl
    rotate_left
    · simp only [aP]
      rfl
    refine pu_ 11 70 ?_ #[J,J,J,Z,J,J,J,J,Z,Z,Z,J,Z,Z,Z,Z,Z] rfl rfl ?_ ?_ ?_ ?_
    rotate_left
    · intro w'
      go_simp
      with_reducible rfl
    rotate_left
    · simp only [aP]
      rfl
    refine pu_ 12 71 ?_ #[J,J,J,Z,J,J,J,J,Z,Z,Z,J,J,Z,Z,Z,Z] rfl rfl ?_ ?_ ?_ ?_
    rotate_left
    · intro w'
      go_simp
      with_reducible rfl
    rotate_left
    · simp only [aP]
      rfl
    refine pu_ 13 72 ?_ #[J,J,J,Z,J,J,J,J,Z,Z,Z,J,J,J,Z,Z,Z] rfl rfl ?_ ?_ ?_ ?_
    rotate_left
    · intro w'
      go_simp
      with_reducible rfl
    rotate_left
    · simp only [aP]
      rfl
    refine ta_ 3 62 ?_ #[J,J,J,J,J,J,J,J,Z,Z,Z,J,J,J,Z,Z,Z] rfl rfl ?_ hHeld ?_ ?_ ?_
    rotate_left
    · rintro w' ⟨s0, s1, s2, s3⟩
      go_simp
      with_reducible rfl
    rotate_left
    · simp only [aP]
      rfl
    refine ta_ 8 67 ?_ #[J,J,J,J,J,J,J,J,J,Z,Z,J,J,J,Z,Z,Z] rfl rfl ?_ hHeld ?_ ?_ ?_
    rotate_left
    · rintro w' ⟨s0, s1, s2, s3⟩
      go_simp
      with_reducible rfl
    rotate_left
    · simp only [aP]
      rfl
    refine pu_ 9 68 ?_ #[J,J,J,J,J,J,J,J,J,J,Z,J,J,J,Z,Z,Z] rfl rfl ?_ ?_ ?_ ?_
    rotate_left
    · intro w'
      go_simp
      with_reducible rfl
    rotate_left
    · simp only [aP]
      rfl
    refine pu_ 10 69 ?_ #[J,J,J,J,J,J,J,J,J,J,J,J,J,J,Z,Z,Z] rfl rfl ?_ ?_ ?_ ?_
    rotate_left
    · intro w'
      go_simp
      with_reducible rfl
    rotate_left
    · simp only [aP]
      rfl
    refine ta_ 14 73 ?_ #[J,J,J,J,J,J,J,J,J,J,J,J,J,J,J,Z,Z] rfl rfl ?_ hHeld ?_ ?_ ?_
    rotate_left
    · rintro w' ⟨s0, s1, s2, s3⟩
      go_simp
      with_reducible rfl
    rotate_left
    · simp only [aP]
      rfl
    refine one_ (i := 15) (N := some 74) #[J,J,J,J,J,J,J,J,J,J,J,J,J,J,J,J,Z] rfl rfl (by kernel_rfl) (by decide) (fun K hK => ?_)
    refine goes_ Tryz.func68 (by kernel_rfl) rfl #[.agg #[.int .i64 a, .int .i64 b, .int .u32 E]] (by rfl) rfl rfl (by simp only [List.map_toArray, List.map_cons, List.map_nil]; rfl) ?_
    with_reducible refine (Root.bytes_ a b E HEB.out _).mono ?_
    rintro e w6 ⟨v6, rfl, hS6⟩
    refine ⟨_, rfl, ?_⟩
    obtain ⟨R6, hR6⟩ : ∃ R, rootF (m32 a) (m32 b) E = R := ⟨_, rfl⟩
    have HR6 := Aside0.mk hR6
    rw [hR6] at hS6
    obtain ⟨n6, hn6⟩ : ∃ n, R6.length = n := ⟨_, rfl⟩
    obtain ⟨A6, c6, rfl⟩ := hS6.rowN hn6
    have B7 := Aside0.mk (B6.out.lift1 hS6)
    clear hS6 hR6 hn6
    refine hK.out _ _ ⟨(B7.out.at2.cell 0).trans rfl, (B7.out.at2.cell 1).trans rfl, (B7.out.at2.cell 2).trans rfl, (B7.out.at2.cell 3).trans rfl⟩ (fun hHeld => ?_)
    clear hK K
    refine norm_ (a' := ?_) ?_ ?_
    rotate_left
    · show Act.put _ (some 74) _ = _
      simp only [aP]
      rfl
    refine last_ (i := 16) (N := some 75) #[J,J,J,J,J,J,J,J,J,J,J,J,J,J,J,J,J] rfl rfl (by kernel_rfl) (by decide) (fun K hK => ?_)
    refine goes_ Tryz.func66 (by kernel_rfl) rfl #[.pointer (some ⟨g, 0, none⟩), .int .i64 (jj : Int), .slice A6 n6 c6] (by rfl) rfl rfl (by simp only [List.map_toArray, List.map_cons, List.map_nil]; rfl) ?_
    with_reducible refine (dwrite_ B7.out.at3 HL2.out HL.out.2.1 jj B7.out.rowC' B7.out.rowC.2.1).mono ?_
    rintro e w7 ⟨rfl, hS7⟩
    refine ⟨_, rfl, ?_⟩
    have B8 := Aside0.mk hS7
    clear hS7
    refine hK.out _ _ ?_
    clear hK K
    refine norm_ (a' := ?_) ?_ ?_
    rotate_left
    · show Act.put _ (some 75) _ = _
      simp only [aP]
      rfl
    refine done_ (by kernel_rfl) ?_
    have z0 := (B8.out.at3.cell 0).trans rfl
    clear hjt hjw hjw2
    go_wp2_with fail
    refine (flush_ B8.out).mono ?_
    rintro e w8 ⟨rfl, hS8⟩
    have HCH : Aside0 (flushed L2 (putW n (fun _ => none) jj R6) = chkL n las wt a b ep pages named) := ⟨by unfold chkL; rw [HL1E.out, HKS.out, HL2E.out, HJJ.out, HE.out, HR6.out]⟩
    rw [HCH.out] at hS8
    have B9 := Aside0.mk (at6 hS8)
    clear hS8 z0
    obtain ⟨w9, hcl, hS9⟩ := set_clear B9.out 0
    have B10 := Aside0.mk hS9.at4
    have z5 := (B9.out.at4.cell 5).trans rfl
    have z6 := (B10.out.cell 6).trans rfl
    have f6 := B10.out.frozen 6
    have B11 := Aside0.mk (B10.out.setBlk 6 (.int .i64 0))
    have z7 := (B11.out.cell 7).trans rfl
    have f7 := B11.out.frozen 7
    have B12 := Aside0.mk (B11.out.setBlk 7 (.int .u32 0))
    go_wp2_with fail
    go_ret
    refine ⟨by first | rfl | (simp; done), ?_⟩
    rw [HE.out]
    exact stb_shut (Sep.rowV_shut (at6 B12.out.at4.tail).tail.at5.at5).at2
end
end Go.Proofs.YtjngnigelkgekaaGreat.Store
