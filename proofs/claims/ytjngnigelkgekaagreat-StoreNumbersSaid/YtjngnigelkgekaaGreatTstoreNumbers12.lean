/- Home1, Home2, StDeed: what StoreNumbers needs. -/
import Derived.Test.YtjngnigelkgekaaGreatTstoreNumbers11
set_option linter.unusedVariables false
set_option linter.unusedSimpArgs false
namespace Go.Proofs.YtjngnigelkgekaaGreat.Home
open Go.RowKit Go.Proofs.YtjngnigelkgekaaGreatW.PrintWords Go.Proofs.YtjngnigelkgekaaGreatW.PrintLast Go.Proofs.YtjngnigelkgekaaGreatW.PrintMore Go.Proofs.YtjngnigelkgekaaGreat.Kit Go.Proofs.YtjngnigelkgekaaGreat.Plain Go.Proofs.YtjngnigelkgekaaGreat.Disk Go.Proofs.YtjngnigelkgekaaGreat.Root
def mayF (n : Nat) (a b c i : Int) : Bool := rightR a b c n && decide (0 ≤ i) && decide (i < b)
def atF (a i : Int) : Nat := (2 + a + i).toNat
theorem may_in {n : Nat} {a b c i : Int} (h : mayF n a b c i = true) : 1 ≤ a ∧ a ≤ 64 ∧ 1 ≤ b ∧ b ≤ 64 ∧ 2 + a + b ≤ n ∧ 1 ≤ c ∧ 0 ≤ i ∧ i < b := by
  unfold mayF rightR at h
  simp only [Bool.and_eq_true, decide_eq_true_eq] at h
  omega
theorem home_at {n : Nat} {a b c i : Int} (h : mayF n a b c i = true) : homeF a b i = (atF a i : Int) ∧ atF a i < n := by
  have h2 := may_in h
  unfold homeF atF
  rw [if_neg (by omega), IntWalk.wrap64_in (2 + a) (by omega), IntWalk.wrap64_in _ (by omega)]
  omega
def pageF (n : Nat) (las : List Int) (wt : Wt) (a b c i : Int) : List Int := if mayF n a b c i = true then secF n las wt (atF a i) else []
def putP (n : Nat) (wt : Wt) (a b c i : Int) (x : List Int) : Wt := if mayF n a b c i = true then putW n wt (atF a i) x else wt
abbrev K2 : Kd (List Int) := Kd.slice 5 (Kd.int .u8)
def pagesF (n : Nat) (las : List Int) (wt : Wt) (a b c : Int) : List (List Int) := if rightR a b c n = true then (List.range b.toNat).map (fun i : Nat => pageF n las wt a b c (i : Int)) else []
section
variable {w0 W : World} {F : List HP} {g n : Nat} {las : List Int} {wt : Wt}
set_option maxHeartbeats 800000 in
set_option maxRecDepth 100000 in
theorem may_ (h : Sep w0 W (Dsk g las wt :: F)) (hl : las.length = 64 * n) (a b c i : Int) :
    Calls Tryz.prog 119 #[.pointer (some ⟨g, 0, none⟩), .agg #[.int .i64 a, .int .i64 b, .int .u32 c], .int .i64 i] W fun e w' => e = .returned (.bool (mayF n a b c i)) ∧ Sep w0 w' (Dsk g las wt :: F) := by
  have A0 := Aside0.mk ((h.newBlk 80 #[.int .i64 a, .int .i64 b, .int .u32 c]).drew)
  have HLN : Aside0 ((las.length : Int) / 64 = (n : Int)) := ⟨by omega⟩
  clear h hl
  cases hrt : rightR a b c n with
  | false =>
    have HV : Aside0 (mayF n a b c i = false) := ⟨by unfold mayF; rw [hrt]; rfl⟩
    have HRT := Aside0.mk hrt
    clear hrt
    go_enter Tryz.func119, Tryz.ntmps119
    go_wp2_with fail
    refine start_ (n := 19) (S := fun w' => w'.cell? ⟨W.heap.size, 0, none⟩ = some (.int .i64 a) ∧ w'.cell? ⟨W.heap.size, 1, none⟩ = some (.int .i64 b) ∧ w'.cell? ⟨W.heap.size, 2, none⟩ = some (.int .u32 c)) (ds := []) #[Z,Z,Z,Z,Z,Z,Z,Z,Z,Z,Z,Z,Z,Z,Z,Z,Z,Z,Z] (by kernel_rfl) rfl rfl ⟨(A0.out.cell 0).trans rfl, (A0.out.cell 1).trans rfl, (A0.out.cell 2).trans rfl⟩ (fun hHeld => ?_)
    refine pu_ 0 7 ?_ #[J,Z,Z,Z,Z,Z,Z,Z,Z,Z,Z,Z,Z,Z,Z,Z,Z,Z,Z] rfl rfl ?_ ?_ ?_ ?_
    rotate_left
    · intro w'
      go_simp
      with_reducible rfl
    rotate_left
    · simp only [aP]
      rfl
    refine pu_ 1 8 ?_ #[J,J,Z,Z,Z,Z,Z,Z,Z,Z,Z,Z,Z,Z,Z,Z,Z,Z,Z] rfl rfl ?_ ?_ ?_ ?_
    rotate_left
    · intro w'
      go_simp
      with_reducible rfl
    rotate_left
    · simp only [aP]
      rfl
    refine pu_ 2 9 ?_ #[J,J,J,Z,Z,Z,Z,Z,Z,Z,Z,Z,Z,Z,Z,Z,Z,Z,Z] rfl rfl ?_ ?_ ?_ ?_
    rotate_left
    · intro w'
      go_simp
      with_reducible rfl
    rotate_left
    · simp only [aP]
      rfl
    refine pu_ 4 11 ?_ #[J,J,J,Z,J,Z,Z,Z,Z,Z,Z,Z,Z,Z,Z,Z,Z,Z,Z] rfl rfl ?_ ?_ ?_ ?_
    rotate_left
    · intro w'
      go_simp
      with_reducible rfl
    rotate_left
    · simp only [aP]
      rfl
    refine ta_ 3 10 ?_ #[J,J,J,J,J,Z,Z,Z,Z,Z,Z,Z,Z,Z,Z,Z,Z,Z,Z] rfl rfl ?_ hHeld ?_ ?_ ?_
    rotate_left
    · rintro w' ⟨s0, s1, s2⟩
      go_simp
      with_reducible rfl
    rotate_left
    · simp only [aP]
      rfl
    refine one_ (i := 5) (N := some 12) #[J,J,J,J,J,J,Z,Z,Z,Z,Z,Z,Z,Z,Z,Z,Z,Z,Z] rfl rfl (by kernel_rfl) (by decide) (fun K hK => ?_)
    refine goes_ Tryz.func65 (by kernel_rfl) rfl #[.pointer (some ⟨g, 0, none⟩)] (by rfl) rfl rfl (by simp only [List.map_toArray, List.map_cons, List.map_nil]; rfl) ?_
    with_reducible refine (len_ A0.out.at2).mono ?_
    rintro e w4 ⟨rfl, rfl⟩
    refine ⟨_, rfl, ?_⟩
    rw [HLN.out]
    refine hK.out _ _ ⟨(A0.out.cell 0).trans rfl, (A0.out.cell 1).trans rfl, (A0.out.cell 2).trans rfl⟩ (fun hHeld => ?_)
    clear hK K
    refine norm_ (a' := ?_) ?_ ?_
    rotate_left
    · show Act.put _ (some 12) _ = _
      simp only [aP]
      rfl
    refine one_ (i := 6) (N := some 13) #[J,J,J,J,J,J,J,Z,Z,Z,Z,Z,Z,Z,Z,Z,Z,Z,Z] rfl rfl (by kernel_rfl) (by decide) (fun K hK => ?_)
    refine goes_ Tryz.func64 (by kernel_rfl) rfl #[.agg #[.int .i64 a, .int .i64 b, .int .u32 c], .int .i64 (n : Int)] (by rfl) rfl rfl (by simp only [List.map_toArray, List.map_cons, List.map_nil]; rfl) ?_
    with_reducible refine (right_ a b c (n : Int) _).mono ?_
    rintro e w5 ⟨rfl, hb5⟩
    refine ⟨_, rfl, ?_⟩
    rw [HRT.out]
    have A5 := Aside0.mk (A0.out.below hb5)
    clear hb5
    refine hK.out _ _ ⟨(A5.out.cell 0).trans rfl, (A5.out.cell 1).trans rfl, (A5.out.cell 2).trans rfl⟩ (fun hHeld => ?_)
    clear hK K
    refine norm_ (a' := ?_) ?_ ?_
    rotate_left
    · show Act.put _ (some 13) _ = _
      simp only [aP]
      rfl
    refine pu_ 7 14 ?_ #[J,J,J,J,J,J,J,J,Z,Z,Z,Z,Z,Z,Z,Z,Z,Z,Z] rfl rfl ?_ ?_ ?_ ?_
    rotate_left
    · intro w'
      go_simp
      with_reducible rfl
    rotate_left
    · simp only [aP]
      rfl
    refine pu_ 8 15 ?_ #[J,J,J,J,J,J,J,J,J,Z,Z,Z,Z,Z,Z,Z,Z,Z,Z] rfl rfl ?_ ?_ ?_ ?_
    rotate_left
    · intro w'
      go_simp
      with_reducible rfl
    rotate_left
    · simp only [aP]
      rfl
    refine pure_ (i := 9) (N := some 16) (v := undef) (a' := ?_) #[J,J,J,J,J,J,J,J,J,J,Z,Z,Z,Z,Z,Z,Z,Z,Z] rfl rfl (by kernel_rfl) (fun _ _ _ h => h) (Or.inr ⟨by rfl, rfl⟩) ?_ ?_
    rotate_left
    · simp only [aP]
      rfl
    refine pure_ (i := 10) (N := some 17) (v := undef) (a' := ?_) #[J,J,J,J,J,J,J,J,J,J,J,Z,Z,Z,Z,Z,Z,Z,Z] rfl rfl (by kernel_rfl) (fun _ _ _ h => h) (Or.inr ⟨by rfl, rfl⟩) ?_ ?_
    rotate_left
    · simp only [aP]
      rfl
    refine pu_ 11 18 ?_ #[J,J,J,J,J,J,J,J,J,J,J,J,Z,Z,Z,Z,Z,Z,Z] rfl rfl ?_ ?_ ?_ ?_
    rotate_left
    · intro w'
      go_simp
      with_reducible rfl
    rotate_left
    · simp only [aP]
      rfl
    refine pu_ 12 19 ?_ #[J,J,J,J,J,J,J,J,J,J,J,J,J,Z,Z,Z,Z,Z,Z] rfl rfl ?_ ?_ ?_ ?_
    rotate_left
    · intro w'
      go_simp
      with_reducible rfl
    rotate_left
    · simp only [aP]
      rfl
    refine pure_ (i := 13) (N := some 20) (v := undef) (a' := ?_) #[J,J,J,J,J,J,J,J,J,J,J,J,J,J,Z,Z,Z,Z,Z] rfl rfl (by kernel_rfl) (fun _ _ _ h => h) (Or.inr ⟨by rfl, rfl⟩) ?_ ?_
    rotate_left
    · simp only [aP]
      rfl
    refine pure_ (i := 14) (N := some 21) (v := undef) (a' := ?_) #[J,J,J,J,J,J,J,J,J,J,J,J,J,J,J,Z,Z,Z,Z] rfl rfl (by kernel_rfl) (fun _ _ _ h => h) (Or.inr ⟨by rfl, rfl⟩) ?_ ?_
    rotate_left
    · simp only [aP]
      rfl
    refine pure_ (i := 15) (N := some 22) (v := undef) (a' := ?_) #[J,J,J,J,J,J,J,J,J,J,J,J,J,J,J,J,Z,Z,Z] rfl rfl (by kernel_rfl) (fun _ _ _ h => h) (Or.inr ⟨by rfl, rfl⟩) ?_ ?_
    rotate_left
    · simp only [aP]
      rfl
    refine pure_ (i := 16) (N := some 23) (v := undef) (a' := ?_) #[J,J,J,J,J,J,J,J,J,J,J,J,J,J,J,J,J,Z,Z] rfl rfl (by kernel_rfl) (fun _ _ _ h => h) (Or.inr ⟨by rfl, rfl⟩) ?_ ?_
    rotate_left
    · simp only [aP]
      rfl
    refine pu_ 17 24 ?_ #[J,J,J,J,J,J,J,J,J,J,J,J,J,J,J,J,J,J,Z] rfl rfl ?_ ?_ ?_ ?_
    rotate_left
    · intro w'
      go_simp
      with_reducible rfl
    rotate_left
    · simp only [aP]
      rfl
    refine pu_ 18 6 ?_ #[J,J,J,J,J,J,J,J,J,J,J,J,J,J,J,J,J,J,J] rfl rfl ?_ ?_ ?_ ?_
    rotate_left
    · intro w'
      go_simp
      with_reducible rfl
    rotate_left
    · simp only [aP]
      rfl
    refine done_ (by kernel_rfl) ?_
    go_wp2_with fail
    go_ret
    exact ⟨by rw [HV.out]; first | rfl | (simp; done), A5.out.tail⟩
  | true =>
    by_cases hi : i < 0
    case pos =>
      have hd : decide (0 ≤ i) = false := decide_eq_false (by omega)
      have HV : Aside0 (mayF n a b c i = false) := ⟨by unfold mayF; rw [hd]; simp⟩
      have HRT := Aside0.mk hrt
      clear hrt
      go_enter Tryz.func119, Tryz.ntmps119
      go_wp2_with fail
      refine start_ (n := 19) (S := fun w' => w'.cell? ⟨W.heap.size, 0, none⟩ = some (.int .i64 a) ∧ w'.cell? ⟨W.heap.size, 1, none⟩ = some (.int .i64 b) ∧ w'.cell? ⟨W.heap.size, 2, none⟩ = some (.int .u32 c)) (ds := []) #[Z,Z,Z,Z,Z,Z,Z,Z,Z,Z,Z,Z,Z,Z,Z,Z,Z,Z,Z] (by kernel_rfl) rfl rfl ⟨(A0.out.cell 0).trans rfl, (A0.out.cell 1).trans rfl, (A0.out.cell 2).trans rfl⟩ (fun hHeld => ?_)
      refine pu_ 0 7 ?_ #[J,Z,Z,Z,Z,Z,Z,Z,Z,Z,Z,Z,Z,Z,Z,Z,Z,Z,Z] rfl rfl ?_ ?_ ?_ ?_
      rotate_left
      · intro w'
        go_simp
        with_reducible rfl
      rotate_left
      · simp only [aP]
        rfl
      refine pu_ 1 8 ?_ #[J,J,Z,Z,Z,Z,Z,Z,Z,Z,Z,Z,Z,Z,Z,Z,Z,Z,Z] rfl rfl ?_ ?_ ?_ ?_
      rotate_left
      · intro w'
        go_simp
        with_reducible rfl
      rotate_left
      · simp only [aP]
        rfl
      refine pu_ 2 9 ?_ #[J,J,J,Z,Z,Z,Z,Z,Z,Z,Z,Z,Z,Z,Z,Z,Z,Z,Z] rfl rfl ?_ ?_ ?_ ?_
      rotate_left
      · intro w'
        go_simp
        with_reducible rfl
      rotate_left
      · simp only [aP]
        rfl
      refine pu_ 4 11 ?_ #[J,J,J,Z,J,Z,Z,Z,Z,Z,Z,Z,Z,Z,Z,Z,Z,Z,Z] rfl rfl ?_ ?_ ?_ ?_
      rotate_left
      · intro w'
        go_simp
        with_reducible rfl
      rotate_left
      · simp only [aP]
        rfl
      refine ta_ 3 10 ?_ #[J,J,J,J,J,Z,Z,Z,Z,Z,Z,Z,Z,Z,Z,Z,Z,Z,Z] rfl rfl ?_ hHeld ?_ ?_ ?_
      rotate_left
      · rintro w' ⟨s0, s1, s2⟩
        go_simp
        with_reducible rfl
      rotate_left
      · simp only [aP]
        rfl
      refine one_ (i := 5) (N := some 12) #[J,J,J,J,J,J,Z,Z,Z,Z,Z,Z,Z,Z,Z,Z,Z,Z,Z] rfl rfl (by kernel_rfl) (by decide) (fun K hK => ?_)
      refine goes_ Tryz.func65 (by kernel_rfl) rfl #[.pointer (some ⟨g, 0, none⟩)] (by rfl) rfl rfl (by simp only [List.map_toArray, List.map_cons, List.map_nil]; rfl) ?_
      with_reducible refine (len_ A0.out.at2).mono ?_
      rintro e w4 ⟨rfl, rfl⟩
      refine ⟨_, rfl, ?_⟩
      rw [HLN.out]
      refine hK.out _ _ ⟨(A0.out.cell 0).trans rfl, (A0.out.cell 1).trans rfl, (A0.out.cell 2).trans rfl⟩ (fun hHeld => ?_)
      clear hK K
      refine norm_ (a' := ?_) ?_ ?_
      rotate_left
      · show Act.put _ (some 12) _ = _
        simp only [aP]
        rfl
      refine one_ (i := 6) (N := some 13) #[J,J,J,J,J,J,J,Z,Z,Z,Z,Z,Z,Z,Z,Z,Z,Z,Z] rfl rfl (by kernel_rfl) (by decide) (fun K hK => ?_)
      refine goes_ Tryz.func64 (by kernel_rfl) rfl #[.agg #[.int .i64 a, .int .i64 b, .int .u32 c], .int .i64 (n : Int)] (by rfl) rfl rfl (by simp only [List.map_toArray, List.map_cons, List.map_nil]; rfl) ?_
      with_reducible refine (right_ a b c (n : Int) _).mono ?_
      rintro e w5 ⟨rfl, hb5⟩
      refine ⟨_, rfl, ?_⟩
      rw [HRT.out]
      have A5 := Aside0.mk (A0.out.below hb5)
      clear hb5
      refine hK.out _ _ ⟨(A5.out.cell 0).trans rfl, (A5.out.cell 1).trans rfl, (A5.out.cell 2).trans rfl⟩ (fun hHeld => ?_)
      clear hK K
      refine norm_ (a' := ?_) ?_ ?_
      rotate_left
      · show Act.put _ (some 13) _ = _
        simp only [aP]
        rfl
      refine pu_ 7 14 ?_ #[J,J,J,J,J,J,J,J,Z,Z,Z,Z,Z,Z,Z,Z,Z,Z,Z] rfl rfl ?_ ?_ ?_ ?_
      rotate_left
      · intro w'
        go_simp
        with_reducible rfl
      rotate_left
      · simp only [aP]
        rfl
      refine pu_ 8 15 ?_ #[J,J,J,J,J,J,J,J,J,Z,Z,Z,Z,Z,Z,Z,Z,Z,Z] rfl rfl ?_ ?_ ?_ ?_
      rotate_left
      · intro w'
        go_simp
        with_reducible rfl
      rotate_left
      · simp only [aP]
        rfl
      refine pu_ 9 16 ?_ #[J,J,J,J,J,J,J,J,J,J,Z,Z,Z,Z,Z,Z,Z,Z,Z] rfl rfl ?_ ?_ ?_ ?_
      rotate_left
      · intro w'
        go_simp
        with_reducible rfl
      rotate_left
      · simp only [aP]
        rfl
      refine pu_ 10 17 ?_ #[J,J,J,J,J,J,J,J,J,J,J,Z,Z,Z,Z,Z,Z,Z,Z] rfl rfl ?_ ?_ ?_ ?_
      rotate_left
      · intro w'
        go_simp
        with_reducible rfl
      rotate_left
      · simp only [aP]
        rfl
      refine pu_ 11 18 ?_ #[J,J,J,J,J,J,J,J,J,J,J,J,Z,Z,Z,Z,Z,Z,Z] rfl rfl ?_ ?_ ?_ ?_
      rotate_left
      · intro w'
        go_simp
        with_reducible rfl
      rotate_left
      · simp only [aP]
        rfl
      refine pu_ 12 19 ?_ #[J,J,J,J,J,J,J,J,J,J,J,J,J,Z,Z,Z,Z,Z,Z] rfl rfl ?_ ?_ ?_ ?_
      rotate_left
      · intro w'
        go_simp
        with_reducible rfl
      rotate_left
      · simp only [aP]
        rfl
      refine pure_ (i := 13) (N := some 20) (v := undef) (a' := ?_) #[J,J,J,J,J,J,J,J,J,J,J,J,J,J,Z,Z,Z,Z,Z] rfl rfl (by kernel_rfl) (fun _ _ _ h => h) (Or.inr ⟨by rfl, rfl⟩) ?_ ?_
      rotate_left
      · simp only [aP]
        rfl
      refine pure_ (i := 14) (N := some 21) (v := undef) (a' := ?_) #[J,J,J,J,J,J,J,J,J,J,J,J,J,J,J,Z,Z,Z,Z] rfl rfl (by kernel_rfl) (fun _ _ _ h => h) (Or.inr ⟨by rfl, rfl⟩) ?_ ?_
      rotate_left
      · simp only [aP]
        rfl
      refine pure_ (i := 15) (N := some 22) (v := undef) (a' := ?_) #[J,J,J,J,J,J,J,J,J,J,J,J,J,J,J,J,Z,Z,Z] rfl rfl (by kernel_rfl) (fun _ _ _ h => h) (Or.inr ⟨by rfl, rfl⟩) ?_ ?_
      rotate_left
      · simp only [aP]
        rfl
      refine pure_ (i := 16) (N := some 23) (v := undef) (a' := ?_) #[J,J,J,J,J,J,J,J,J,J,J,J,J,J,J,J,J,Z,Z] rfl rfl (by kernel_rfl) (fun _ _ _ h => h) (Or.inr ⟨by rfl, rfl⟩) ?_ ?_
      rotate_left
      · simp only [aP]
        rfl
      refine pu_ 17 24 ?_ #[J,J,J,J,J,J,J,J,J,J,J,J,J,J,J,J,J,J,Z] rfl rfl ?_ ?_ ?_ ?_
      rotate_left
      · intro w'
        go_simp
        with_reducible rfl
      rotate_left
      · simp only [aP]
        rfl
      refine pu_ 18 6 ?_ #[J,J,J,J,J,J,J,J,J,J,J,J,J,J,J,J,J,J,J] rfl rfl ?_ ?_ ?_ ?_
      rotate_left
      · intro w'
        go_simp
        with_reducible rfl
      rotate_left
      · simp only [aP]
        rfl
      refine done_ (by kernel_rfl) ?_
      go_wp2_with fail
      go_ret
      exact ⟨by rw [HV.out]; first | rfl | (simp; done), A5.out.tail⟩
    case neg =>
      have hd : decide (0 ≤ i) = true := decide_eq_true (by omega)
      by_cases hib : i < b
      case pos =>
        have hd2 : decide (i < b) = true := decide_eq_true hib
        have HV : Aside0 (mayF n a b c i = true) := ⟨by unfold mayF; rw [hrt, hd, hd2]; rfl⟩
        have HRT := Aside0.mk hrt
        clear hrt
        go_enter Tryz.func119, Tryz.ntmps119
        go_wp2_with fail
        refine start_ (n := 19) (S := fun w' => w'.cell? ⟨W.heap.size, 0, none⟩ = some (.int .i64 a) ∧ w'.cell? ⟨W.heap.size, 1, none⟩ = some (.int .i64 b) ∧ w'.cell? ⟨W.heap.size, 2, none⟩ = some (.int .u32 c)) (ds := []) #[Z,Z,Z,Z,Z,Z,Z,Z,Z,Z,Z,Z,Z,Z,Z,Z,Z,Z,Z] (by kernel_rfl) rfl rfl ⟨(A0.out.cell 0).trans rfl, (A0.out.cell 1).trans rfl, (A0.out.cell 2).trans rfl⟩ (fun hHeld => ?_)
        refine pu_ 0 7 ?_ #[J,Z,Z,Z,Z,Z,Z,Z,Z,Z,Z,Z,Z,Z,Z,Z,Z,Z,Z] rfl rfl ?_ ?_ ?_ ?_
        rotate_left
        · intro w'
          go_simp
          with_reducible rfl
        rotate_left
        · simp only [aP]
          rfl
        refine pu_ 1 8 ?_ #[J,J,Z,Z,Z,Z,Z,Z,Z,Z,Z,Z,Z,Z,Z,Z,Z,Z,Z] rfl rfl ?_ ?_ ?_ ?_
        rotate_left
        · intro w'
          go_simp
          with_reducible rfl
        rotate_left
        · simp only [aP]
          rfl
        refine pu_ 2 9 ?_ #[J,J,J,Z,Z,Z,Z,Z,Z,Z,Z,Z,Z,Z,Z,Z,Z,Z,Z] rfl rfl ?_ ?_ ?_ ?_
        rotate_left
        · intro w'
          go_simp
          with_reducible rfl
        rotate_left
        · simp only [aP]
          rfl
        refine pu_ 4 11 ?_ #[J,J,J,Z,J,Z,Z,Z,Z,Z,Z,Z,Z,Z,Z,Z,Z,Z,Z] rfl rfl ?_ ?_ ?_ ?_
        rotate_left
        · intro w'
          go_simp
          with_reducible rfl
        rotate_left
        · simp only [aP]
          rfl
        refine ta_ 3 10 ?_ #[J,J,J,J,J,Z,Z,Z,Z,Z,Z,Z,Z,Z,Z,Z,Z,Z,Z] rfl rfl ?_ hHeld ?_ ?_ ?_
        rotate_left
        · rintro w' ⟨s0, s1, s2⟩
          go_simp
          with_reducible rfl
        rotate_left
        · simp only [aP]
          rfl
        refine one_ (i := 5) (N := some 12) #[J,J,J,J,J,J,Z,Z,Z,Z,Z,Z,Z,Z,Z,Z,Z,Z,Z] rfl rfl (by kernel_rfl) (by decide) (fun K hK => ?_)
        refine goes_ Tryz.func65 (by kernel_rfl) rfl #[.pointer (some ⟨g, 0, none⟩)] (by rfl) rfl rfl (by simp only [List.map_toArray, List.map_cons, List.map_nil]; rfl) ?_
        with_reducible refine (len_ A0.out.at2).mono ?_
        rintro e w4 ⟨rfl, rfl⟩
        refine ⟨_, rfl, ?_⟩
        rw [HLN.out]
        refine hK.out _ _ ⟨(A0.out.cell 0).trans rfl, (A0.out.cell 1).trans rfl, (A0.out.cell 2).trans rfl⟩ (fun hHeld => ?_)
        clear hK K
        refine norm_ (a' := ?_) ?_ ?_
        rotate_left
        · show Act.put _ (some 12) _ = _
          simp only [aP]
          rfl
        refine one_ (i := 6) (N := some 13) #[J,J,J,J,J,J,J,Z,Z,Z,Z,Z,Z,Z,Z,Z,Z,Z,Z] rfl rfl (by kernel_rfl) (by decide) (fun K hK => ?_)
        refine goes_ Tryz.func64 (by kernel_rfl) rfl #[.agg #[.int .i64 a, .int .i64 b, .int .u32 c], .int .i64 (n : Int)] (by rfl) rfl rfl (by simp only [List.map_toArray, List.map_cons, List.map_nil]; rfl) ?_
        with_reducible refine (right_ a b c (n : Int) _).mono ?_
        rintro e w5 ⟨rfl, hb5⟩
        refine ⟨_, rfl, ?_⟩
        rw [HRT.out]
        have A5 := Aside0.mk (A0.out.below hb5)
        clear hb5
        refine hK.out _ _ ⟨(A5.out.cell 0).trans rfl, (A5.out.cell 1).trans rfl, (A5.out.cell 2).trans rfl⟩ (fun hHeld => ?_)
        clear hK K
        refine norm_ (a' := ?_) ?_ ?_
        rotate_left
        · show Act.put _ (some 13) _ = _
          simp only [aP]
          rfl
        refine pu_ 7 14 ?_ #[J,J,J,J,J,J,J,J,Z,Z,Z,Z,Z,Z,Z,Z,Z,Z,Z] rfl rfl ?_ ?_ ?_ ?_
        rotate_left
        · intro w'
          go_simp
          with_reducible rfl
        rotate_left
        · simp only [aP]
          rfl
        refine pu_ 8 15 ?_ #[J,J,J,J,J,J,J,J,J,Z,Z,Z,Z,Z,Z,Z,Z,Z,Z] rfl rfl ?_ ?_ ?_ ?_
        rotate_left
        · intro w'
          go_simp
          with_reducible rfl
        rotate_left
        · simp only [aP]
          rfl
        refine pu_ 9 16 ?_ #[J,J,J,J,J,J,J,J,J,J,Z,Z,Z,Z,Z,Z,Z,Z,Z] rfl rfl ?_ ?_ ?_ ?_
        rotate_left
        · intro w'
          go_simp
          with_reducible rfl
        rotate_left
        · simp only [aP]
          rfl
        refine pu_ 10 17 ?_ #[J,J,J,J,J,J,J,J,J,J,J,Z,Z,Z,Z,Z,Z,Z,Z] rfl rfl ?_ ?_ ?_ ?_
        rotate_left
        · intro w'
          go_simp
          with_reducible rfl
        rotate_left
        · simp only [aP]
          rfl
        refine pu_ 11 18 ?_ #[J,J,J,J,J,J,J,J,J,J,J,J,Z,Z,Z,Z,Z,Z,Z] rfl rfl ?_ ?_ ?_ ?_
        rotate_left
        · intro w'
          go_simp
          with_reducible rfl
        rotate_left
        · simp only [aP]
          rfl
        refine pu_ 12 19 ?_ #[J,J,J,J,J,J,J,J,J,J,J,J,J,Z,Z,Z,Z,Z,Z] rfl rfl ?_ ?_ ?_ ?_
        rotate_left
        · intro w'
          go_simp
          with_reducible rfl
        rotate_left
        · simp only [aP]
          rfl
        refine pu_ 13 20 ?_ #[J,J,J,J,J,J,J,J,J,J,J,J,J,J,Z,Z,Z,Z,Z] rfl rfl ?_ ?_ ?_ ?_
        rotate_left
        · intro w'
          go_simp
          with_reducible rfl
        rotate_left
        · simp only [aP]
          rfl
        refine pu_ 14 21 ?_ #[J,J,J,J,J,J,J,J,J,J,J,J,J,J,J,Z,Z,Z,Z] rfl rfl ?_ ?_ ?_ ?_
        rotate_left
        · intro w'
          go_simp
          with_reducible rfl
        rotate_left
        · simp only [aP]
          rfl
        refine ta_ 15 22 ?_ #[J,J,J,J,J,J,J,J,J,J,J,J,J,J,J,J,Z,Z,Z] rfl rfl ?_ hHeld ?_ ?_ ?_
        rotate_left
        · rintro w' ⟨s0, s1, s2⟩
          go_simp
          with_reducible rfl
        rotate_left
        · simp only [aP]
          rfl
        refine pu_ 16 23 ?_ #[J,J,J,J,J,J,J,J,J,J,J,J,J,J,J,J,J,Z,Z] rfl rfl ?_ ?_ ?_ ?_
        rotate_left
        · intro w'
          go_simp
          with_reducible rfl
        rotate_left
        · simp only [aP]
          rfl
        refine pu_ 17 24 ?_ #[J,J,J,J,J,J,J,J,J,J,J,J,J,J,J,J,J,J,Z] rfl rfl ?_ ?_ ?_ ?_
        rotate_left
        · intro w'
          go_simp
          with_reducible rfl
        rotate_left
        · simp only [aP]
          rfl
        refine pu_ 18 6 ?_ #[J,J,J,J,J,J,J,J,J,J,J,J,J,J,J,J,J,J,J] rfl rfl ?_ ?_ ?_ ?_
        rotate_left
        · intro w'
          go_simp
          with_reducible rfl
        rotate_left
        · simp only [aP]
          rfl
        refine done_ (by kernel_rfl) ?_
        go_wp2_with fail
        go_ret
        exact ⟨by rw [HV.out]; first | rfl | (simp; done), A5.out.tail⟩
      case neg =>
        have hd2 : decide (i < b) = false := decide_eq_false hib
        have HV : Aside0 (mayF n a b c i = false) := ⟨by unfold mayF; rw [hd2]; simp⟩
        have HRT := Aside0.mk hrt
        clear hrt
        go_enter Tryz.func119, Tryz.ntmps119
        go_wp2_with fail
        refine start_ (n := 19) (S := fun w' => w'.cell? ⟨W.heap.size, 0, none⟩ = some (.int .i64 a) ∧ w'.cell? ⟨W.heap.size, 1, none⟩ = some (.int .i64 b) ∧ w'.cell? ⟨W.heap.size, 2, none⟩ = some (.int .u32 c)) (ds := []) #[Z,Z,Z,Z,Z,Z,Z,Z,Z,Z,Z,Z,Z,Z,Z,Z,Z,Z,Z] (by kernel_rfl) rfl rfl ⟨(A0.out.cell 0).trans rfl, (A0.out.cell 1).trans rfl, (A0.out.cell 2).trans rfl⟩ (fun hHeld => ?_)
        refine pu_ 0 7 ?_ #[J,Z,Z,Z,Z,Z,Z,Z,Z,Z,Z,Z,Z,Z,Z,Z,Z,Z,Z] rfl rfl ?_ ?_ ?_ ?_
        rotate_left
        · intro w'
          go_simp
          with_reducible rfl
        rotate_left
        · simp only [aP]
          rfl
        refine pu_ 1 8 ?_ #[J,J,Z,Z,Z,Z,Z,Z,Z,Z,Z,Z,Z,Z,Z,Z,Z,Z,Z] rfl rfl ?_ ?_ ?_ ?_
        rotate_left
        · intro w'
          go_simp
          with_reducible rfl
        rotate_left
        · simp only [aP]
          rfl
        refine pu_ 2 9 ?_ #[J,J,J,Z,Z,Z,Z,Z,Z,Z,Z,Z,Z,Z,Z,Z,Z,Z,Z] rfl rfl ?_ ?_ ?_ ?_
        rotate_left
        · intro w'
          go_simp
          with_reducible rfl
        rotate_left
        · simp only [aP]
          rfl
        refine pu_ 4 11 ?_ #[J,J,J,Z,J,Z,Z,Z,Z,Z,Z,Z,Z,Z,Z,Z,Z,Z,Z] rfl rfl ?_ ?_ ?_ ?_
        rotate_left
        · intro w'
          go_simp
          with_reducible rfl
        rotate_left
        · simp only [aP]
          rfl
        refine ta_ 3 10 ?_ #[J,J,J,J,J,Z,Z,Z,Z,Z,Z,Z,Z,Z,Z,Z,Z,Z,Z] rfl rfl ?_ hHeld ?_ ?_ ?_
        rotate_left
        · rintro w' ⟨s0, s1, s2⟩
          go_simp
          with_reducible rfl
        rotate_left
        · simp only [aP]
          rfl
        refine one_ (i := 5) (N := some 12) #[J,J,J,J,J,J,Z,Z,Z,Z,Z,Z,Z,Z,Z,Z,Z,Z,Z] rfl rfl (by kernel_rfl) (by decide) (fun K hK => ?_)
        refine goes_ Tryz.func65 (by kernel_rfl) rfl #[.pointer (some ⟨g, 0, none⟩)] (by rfl) rfl rfl (by simp only [List.map_toArray, List.map_cons, List.map_nil]; rfl) ?_
        with_reducible refine (len_ A0.out.at2).mono ?_
        rintro e w4 ⟨rfl, rfl⟩
        refine ⟨_, rfl, ?_⟩
        rw [HLN.out]
        refine hK.out _ _ ⟨(A0.out.cell 0).trans rfl, (A0.out.cell 1).trans rfl, (A0.out.cell 2).trans rfl⟩ (fun hHeld => ?_)
        clear hK K
        refine norm_ (a' := ?_) ?_ ?_
        rotate_left
        · show Act.put _ (some 12) _ = _
          simp only [aP]
          rfl
        refine one_ (i := 6) (N := some 13) #[J,J,J,J,J,J,J,Z,Z,Z,Z,Z,Z,Z,Z,Z,Z,Z,Z] rfl rfl (by kernel_rfl) (by decide) (fun K hK => ?_)
        refine goes_ Tryz.func64 (by kernel_rfl) rfl #[.agg #[.int .i64 a, .int .i64 b, .int .u32 c], .int .i64 (n : Int)] (by rfl) rfl rfl (by simp only [List.map_toArray, List.map_cons, List.map_nil]; rfl) ?_
        with_reducible refine (right_ a b c (n : Int) _).mono ?_
        rintro e w5 ⟨rfl, hb5⟩
        refine ⟨_, rfl, ?_⟩
        rw [HRT.out]
        have A5 := Aside0.mk (A0.out.below hb5)
        clear hb5
        refine hK.out _ _ ⟨(A5.out.cell 0).trans rfl, (A5.out.cell 1).trans rfl, (A5.out.cell 2).trans rfl⟩ (fun hHeld => ?_)
        clear hK K
        refine norm_ (a' := ?_) ?_ ?_
        rotate_left
        · show Act.put _ (some 13) _ = _
          simp only [aP]
          rfl
        refine pu_ 7 14 ?_ #[J,J,J,J,J,J,J,J,Z,Z,Z,Z,Z,Z,Z,Z,Z,Z,Z] rfl rfl ?_ ?_ ?_ ?_
        rotate_left
        · intro w'
          go_simp
          with_reducible rfl
        rotate_left
        · simp only [aP]
          rfl
        refine pu_ 8 15 ?_ #[J,J,J,J,J,J,J,J,J,Z,Z,Z,Z,Z,Z,Z,Z,Z,Z] rfl rfl ?_ ?_ ?_ ?_
        rotate_left
        · intro w'
          go_simp
          with_reducible rfl
        rotate_left
        · simp only [aP]
          rfl
        refine pu_ 9 16 ?_ #[J,J,J,J,J,J,J,J,J,J,Z,Z,Z,Z,Z,Z,Z,Z,Z] rfl rfl ?_ ?_ ?_ ?_
        rotate_left
        · intro w'
          go_simp
          with_reducible rfl
        rotate_left
        · simp only [aP]
          rfl
        refine pu_ 10 17 ?_ #[J,J,J,J,J,J,J,J,J,J,J,Z,Z,Z,Z,Z,Z,Z,Z] rfl rfl ?_ ?_ ?_ ?_
        rotate_left
        · intro w'
          go_simp
          with_reducible rfl
        rotate_left
        · simp only [aP]
          rfl
        refine pu_ 11 18 ?_ #[J,J,J,J,J,J,J,J,J,J,J,J,Z,Z,Z,Z,Z,Z,Z] rfl rfl ?_ ?_ ?_ ?_
        rotate_left
        · intro w'
          go_simp
          with_reducible rfl
        rotate_left
        · simp only [aP]
          rfl
        refine pu_ 12 19 ?_ #[J,J,J,J,J,J,J,J,J,J,J,J,J,Z,Z,Z,Z,Z,Z] rfl rfl ?_ ?_ ?_ ?_
        rotate_left
        · intro w'
          go_simp
          with_reducible rfl
        rotate_left
        · simp only [aP]
          rfl
        refine pu_ 13 20 ?_ #[J,J,J,J,J,J,J,J,J,J,J,J,J,J,Z,Z,Z,Z,Z] rfl rfl ?_ ?_ ?_ ?_
        rotate_left
        · intro w'
          go_simp
          with_reducible rfl
        rotate_left
        · simp only [aP]
          rfl
        refine pu_ 14 21 ?_ #[J,J,J,J,J,J,J,J,J,J,J,J,J,J,J,Z,Z,Z,Z] rfl rfl ?_ ?_ ?_ ?_
        rotate_left
        · intro w'
          go_simp
          with_reducible rfl
        rotate_left
        · simp only [aP]
          rfl
        refine ta_ 15 22 ?_ #[J,J,J,J,J,J,J,J,J,J,J,J,J,J,J,J,Z,Z,Z] rfl rfl ?_ hHeld ?_ ?_ ?_
        rotate_left
        · rintro w' ⟨s0, s1, s2⟩
          go_simp
          with_reducible rfl
        rotate_left
        · simp only [aP]
          rfl
        refine pu_ 16 23 ?_ #[J,J,J,J,J,J,J,J,J,J,J,J,J,J,J,J,J,Z,Z] rfl rfl ?_ ?_ ?_ ?_
        rotate_left
        · intro w'
          go_simp
          with_reducible rfl
        rotate_left
        · simp only [aP]
          rfl
        refine pu_ 17 24 ?_ #[J,J,J,J,J,J,J,J,J,J,J,J,J,J,J,J,J,J,Z] rfl rfl ?_ ?_ ?_ ?_
        rotate_left
        · intro w'
          go_simp
          with_reducible rfl
        rotate_left
        · simp only [aP]
          rfl
        refine pu_ 18 6 ?_ #[J,J,J,J,J,J,J,J,J,J,J,J,J,J,J,J,J,J,J] rfl rfl ?_ ?_ ?_ ?_
        rotate_left
        · intro w'
          go_simp
          with_reducible rfl
        rotate_left
        · simp only [aP]
          rfl
        refine done_ (by kernel_rfl) ?_
        go_wp2_with fail
        go_ret
        exact ⟨by rw [HV.out]; first | rfl | (simp; done), A5.out.tail⟩
set_option maxHeartbeats 800000 in
set_option maxRecDepth 100000 in
theorem page_ (h : Sep w0 W (Dsk g las wt :: F)) (hl : las.length = 64 * n) (a b c i : Int) :
    Calls Tryz.prog 133 #[.pointer (some ⟨g, 0, none⟩), .agg #[.int .i64 a, .int .i64 b, .int .u32 c], .int .i64 i] W fun e w' => ∃ v, e = .returned (.tuple #[v, .bool (mayF n a b c i)]) ∧ Sep w0 w' (Row U8 5 v (pageF n las wt a b c i) :: Dsk g las wt :: F) := by
  have A0 := Aside0.mk (h.newBlk 80 #[.int .i64 a, .int .i64 b, .int .u32 c])
  have HL := Aside0.mk hl
  have z0 := (A0.out.cell 0).trans rfl
  have z1 := (A0.out.cell 1).trans rfl
  have z2 := (A0.out.cell 2).trans rfl
  clear h hl
  go_enter Tryz.func133, Tryz.ntmps133
  go_wp2_with fail
  refine (may_ A0.out.at2 HL.out a b c i).mono ?_
  rintro e w1 ⟨rfl, hS1⟩
  have A1 := Aside0.mk hS1.at2
  clear hS1 z0 z1 z2
  cases hm : mayF n a b c i with
  | false =>
    have HP : Aside0 (pageF n las wt a b c i = []) := ⟨by unfold pageF; rw [hm]; rfl⟩
    have HM := Aside0.mk hm
    clear hm
    go_wp2_with fail
    go_ret2
    exact ⟨_, by rw [HM.out]; first | rfl | (simp; done), by rw [HP.out]; exact A1.out.tail.nilRow _ _⟩
  | true =>
    have HP : Aside0 (pageF n las wt a b c i = secF n las wt (atF a i)) := ⟨by unfold pageF; rw [hm]; rfl⟩
    have HA := Aside0.mk (home_at hm)
    have HM := Aside0.mk hm
    clear hm
    have z0 := (A1.out.cell 0).trans rfl
    have z1 := (A1.out.cell 1).trans rfl
    have z2 := (A1.out.cell 2).trans rfl
    go_wp2_with fail
    refine (home_ a b c i _).mono ?_
    rintro e w2 ⟨rfl, hb2⟩
    have A2 := Aside0.mk (A1.out.below hb2).tail
    rw [HA.out.1]
    clear hb2 z0 z1 z2
    go_wp2_with fail
    refine (read_in A2.out (atF a i) (by have := HL.out; have := HA.out.2; omega)).mono ?_
    rintro e w3 ⟨v3, rfl, hS3⟩
    have A3 : Aside0 (Sep w0 w3 (Row U8 5 v3 (secF n las wt (atF a i)) :: Dsk g las wt :: F)) := ⟨by unfold secF; rw [if_pos HA.out.2]; exact hS3⟩
    clear hS3
    go_wp2_with fail
    go_ret2
    exact ⟨_, by rw [HM.out]; first | rfl | (simp; done), by rw [HP.out]; exact A3.out⟩
set_option maxHeartbeats 800000 in
set_option maxRecDepth 100000 in
theorem put_ (h : Sep w0 W (Dsk g las wt :: F)) (hl : las.length = 64 * n) (hn : n ≤ 160) (a b c i : Int) {A : Option Addr} {m cp : Nat} {x : List Int} (hx : ∀ W', Sep w0 W' F → U8.C W' A m x) (hcp : m ≤ cp) :
    Calls Tryz.prog 94 #[.pointer (some ⟨g, 0, none⟩), .agg #[.int .i64 a, .int .i64 b, .int .u32 c], .int .i64 i, .slice A m cp] W fun e w' => e = .returned (.bool (mayF n a b c i && decide (x.length = 64))) ∧ Sep w0 w' (Dsk g las (putP n wt a b c i x) :: F) := by
  have A0 := Aside0.mk (h.newBlk 80 #[.int .i64 a, .int .i64 b, .int .u32 c])
  have HL := Aside0.mk hl
  have HX := Aside0.mk (And.intro hx hcp)
  have HN := Aside0.mk hn
  have z0 := (A0.out.cell 0).trans rfl
  have z1 := (A0.out.cell 1).trans rfl
  have z2 := (A0.out.cell 2).trans rfl
  clear h hl hx hcp hn
  go_enter Tryz.func94, Tryz.ntmps94
  go_wp2_with fail
  refine (may_ A0.out.at2 HL.out a b c i).mono ?_
  rintro e w1 ⟨rfl, hS1⟩
  have A1 := Aside0.mk hS1.at2
  clear hS1 z0 z1 z2
  cases hm : mayF n a b c i with
  | false =>
    have HP : Aside0 (putP n wt a b c i x = wt) := ⟨by unfold putP; rw [hm]; rfl⟩
    have HM := Aside0.mk hm
    clear hm
    go_wp2_with fail
    go_ret
    exact ⟨by rw [HM.out]; first | rfl | (simp; done), by rw [HP.out]; exact A1.out.tail⟩
  | true =>
    have HP : Aside0 (putP n wt a b c i x = putW n wt (atF a i) x) := ⟨by unfold putP; rw [hm]; rfl⟩
    have HA := Aside0.mk (home_at hm)
    have HM := Aside0.mk hm
    clear hm
    have z0 := (A1.out.cell 0).trans rfl
    have z1 := (A1.out.cell 1).trans rfl
    have z2 := (A1.out.cell 2).trans rfl
    go_wp2_with fail
    refine (home_ a b c i _).mono ?_
    rintro e w2 ⟨rfl, hb2⟩
    have A2 := Aside0.mk (A1.out.below hb2).tail
    rw [HA.out.1]
    clear hb2 z0 z1 z2
    go_wp2_with fail
    refine (dwrite_ A2.out HL.out HN.out (atF a i) (HX.out.1 _ A2.out.tail) HX.out.2).mono ?_
    rintro e w3 ⟨rfl, hS3⟩
    have HD : Aside0 (decide (atF a i < n ∧ x.length = 64) = (true && decide (x.length = 64))) := ⟨by
      have := HA.out.2
      by_cases h64 : x.length = 64
      · rw [decide_eq_true ⟨this, h64⟩, decide_eq_true h64]; rfl
      · rw [decide_eq_false (fun h => h64 h.2), decide_eq_false h64]; rfl⟩
    have A3 := Aside0.mk hS3
    rw [HD.out]
    clear hS3
    go_wp2_with fail
    go_ret
    exact ⟨by rw [HM.out]; first | rfl | (simp; done), by rw [HP.out]; exact A3.out⟩
theorem infoS : (Tryz.prog.info? 24).map (fun i => (i.zero, i.size, i.bytes)) = some (some (.slice none 0 0), 1, 24) := by kernel_rfl
set_option maxHeartbeats 800000 in
set_option maxRecDepth 100000 in
theorem all_ (h : Sep w0 W (Dsk g las wt :: F)) (hl : las.length = 64 * n) (a b c : Int) :
    Calls Tryz.prog 123 #[.pointer (some ⟨g, 0, none⟩), .agg #[.int .i64 a, .int .i64 b, .int .u32 c]] W fun e w' => ∃ v, e = .returned v ∧ Sep w0 w' (Row K2 24 v (pagesF n las wt a b c) :: Dsk g las wt :: F) := by
  have A0 := Aside0.mk (h.newBlk 80 #[.int .i64 a, .int .i64 b, .int .u32 c])
  have HL := Aside0.mk hl
  have z0 := (A0.out.cell 0).trans rfl
  have z1 := (A0.out.cell 1).trans rfl
  have z2 := (A0.out.cell 2).trans rfl
  clear h hl
  go_enter Tryz.func123, Tryz.ntmps123
  go_wp2_with fail
  refine (may_ A0.out.at2 HL.out a b c 0).mono ?_
  rintro e w1 ⟨rfl, hS1⟩
  have A1 := Aside0.mk hS1.at2
  clear hS1 z0 z1 z2
  cases hm : mayF n a b c 0 with
  | false =>
    have HP : Aside0 (pagesF n las wt a b c = []) := ⟨by
      unfold pagesF
      cases hr : rightR a b c n with
      | false => rfl
      | true =>
        exfalso
        have h1 : 1 ≤ b := by unfold rightR at hr; exact (of_decide_eq_true hr).2.2.1
        have : mayF n a b c 0 = true := by unfold mayF; rw [hr, decide_eq_true (show (0 : Int) ≤ 0 by omega), decide_eq_true (show (0 : Int) < b by omega)]; rfl
        rw [this] at hm; cases hm⟩
    clear hm
    go_wp2_with fail
    go_ret
    exact ⟨_, by first | rfl | (simp; done), by rw [HP.out]; exact A1.out.tail.nilRow _ _⟩
  | true =>
    obtain ⟨h1, h2, h3, h4, h5, h6, h7, h8⟩ := may_in hm
    have hr : rightR a b c n = true := by unfold rightR; exact decide_eq_true ⟨h1, h2, h3, h4, h5, h6⟩
    obtain ⟨B, rfl⟩ := Int.eq_ofNat_of_zero_le (show 0 ≤ b by omega)
    have HP : Aside0 (pagesF n las wt a (B : Int) c = (List.range B).map (fun i : Nat => pageF n las wt a (B : Int) c (i : Int))) := ⟨by unfold pagesF; rw [if_pos hr, Int.toNat_natCast]⟩
    have hB : B ≤ 64 := by omega
    have HMI : Aside0 (∀ i : Nat, i < B → mayF n a (B : Int) c (i : Int) = true) := ⟨fun i hi => by
      unfold mayF; rw [hr, decide_eq_true (show (0 : Int) ≤ (i : Int) by omega), decide_eq_true (show (i : Int) < (B : Int) by omega)]; rfl⟩
    clear hm h1 h2 h3 h4 h5 h6 h7 h8 hr
    have z0 := (A1.out.cell 0).trans rfl
    have z1 := (A1.out.cell 1).trans rfl
    have z2 := (A1.out.cell 2).trans rfl
    have A2 := Aside0.mk (A1.out.nilRow K2 24)
    go_wp2_with fail
    clear z0 z1 z2
    go_loopg [5, 15] B (fun m v p wr => ∃ j : Nat, p = .int .i64 (j : Int) ∧ j + m = B ∧ Sep w0 wr (Row K2 24 v ((List.range j).map (fun i : Nat => pageF n las wt a (B : Int) c (i : Int))) :: Blk W.heap.size 80 #[.int .i64 a, .int .i64 (B : Int), .int .u32 c] :: Dsk g las wt :: F))
    case atStart => exact ⟨0, rfl, by omega, A2.out⟩
    case round =>
      obtain ⟨j, rfl, hjm, hS⟩ := hrel
      have AK := Aside0.mk hjm
      have AS := Aside0.mk hS
      obtain ⟨A3, c3, rfl⟩ := hS.rowN (n := j) (by simp)
      clear hS
      by_cases hj : j < B
      · have hjl : (j : Int) < (B : Int) := by omega
        have z0 := (AS.out.at2.cell 0).trans rfl
        have z1 := (AS.out.at2.cell 1).trans rfl
        have z2 := (AS.out.at2.cell 2).trans rfl
        have HSN : Aside0 ((List.range (j + 1)).map (fun i : Nat => pageF n las wt a (B : Int) c (i : Int)) = (List.range j).map (fun i : Nat => pageF n las wt a (B : Int) c (i : Int)) ++ [pageF n las wt a (B : Int) c (j : Int)]) := ⟨by rw [List.range_succ, List.map_append]; rfl⟩
        clear hjm
        go_wp2_with fail
        refine (page_ AS.out.at3 HL.out a (B : Int) c (j : Int)).mono ?_
        rintro e w3 ⟨v3, rfl, hS3⟩
        rw [HMI.out j hj]
        obtain ⟨A4, c4, rfl⟩ := hS3.rowV
        have L3 := Aside0.mk (hS3.elSlice.at3)
        clear hS3 z0 z1 z2
        generalize pageF n las wt a (B : Int) c (j : Int) = x at *
        go_wp2_with (first | (refine gate_builtin (b := .append) (xs := #[.tmp 25, .tmp 27]) rfl ?_; go_loud (refine L3.out.appendDeep rfl (.tmp 25) (.tmp 27) 49 _ 24 rfl Tryz.underlying49 infoS rfl (by decide) (by decide) rfl rfl (by simp; omega) ?_; intro v6 w6 hs6 hS6; have A6 := Aside0.mk hS6; clear hS6)))
        go_roundg (gk - 1)
        case measure => have := AK.out; omega
        case rel => exact ⟨j + 1, by go_num, by have := AK.out; omega, by rw [HSN.out]; exact A6.out.sw23⟩
      · obtain rfl : j = B := by omega
        clear hjm
        go_wp2_with fail
        go_ret
        exact ⟨_, by first | rfl | (simp; done), by rw [HP.out]; exact AS.out.drop2⟩
end
end Go.Proofs.YtjngnigelkgekaaGreat.Home
namespace Go.Proofs.YtjngnigelkgekaaGreat.Ref
end Go.Proofs.YtjngnigelkgekaaGreat.Ref
namespace Go.Proofs.YtjngnigelkgekaaGreat.Home
open Go.RowKit Go.Proofs.YtjngnigelkgekaaGreatW.PrintWords Go.Proofs.YtjngnigelkgekaaGreatW.PrintLast Go.Proofs.YtjngnigelkgekaaGreatW.PrintMore Go.Proofs.YtjngnigelkgekaaGreat.Kit Go.Proofs.YtjngnigelkgekaaGreat.Plain Go.Proofs.YtjngnigelkgekaaGreat.Disk Go.Proofs.YtjngnigelkgekaaGreat.Root
abbrev RT (g n : Nat) (las : List Int) (wt : Wt) (d : Nat) : HP := Ref.RD g n las (flushed las wt) (Ref.waitL n wt) (-1) (d : Int)
abbrev RTL (g n : Nat) (las : List Int) (wt : Wt) (left d : Int) : HP := Ref.RD g n las (flushed las wt) (Ref.waitL n wt) left d
section
variable {w0 W : World} {F : List HP} {g n : Nat} {las : List Int} {wt : Wt} {left d : Int}
set_option maxHeartbeats 800000 in
set_option maxRecDepth 100000 in
theorem rall_ (h : Sep w0 W (RTL g n las wt left d :: F)) (hl : las.length = 64 * n) (hw : ∀ i b, wt i = some b → b.length = 64) (a b c : Int) :
    Calls Tryz.prog 80 #[.pointer (some ⟨g, 0, none⟩), .agg #[.int .i64 a, .int .i64 b, .int .u32 c]] W fun e w' => ∃ v, e = .returned v ∧ Sep w0 w' (Row K2 24 v (pagesF n las wt a b c) :: RTL g n las wt left d :: F) := by
  have A0 := Aside0.mk (h.newBlk 80 #[.int .i64 a, .int .i64 b, .int .u32 c]).drew
  have HL := Aside0.mk (And.intro hl hw)
  clear h hl hw
  cases hr : rightR a b c n with
  | false =>
    have HRT := Aside0.mk hr
    have HP : Aside0 (pagesF n las wt a b c = []) := ⟨by unfold pagesF; rw [hr]; rfl⟩
    clear hr
    go_enter Tryz.func80, Tryz.ntmps80
    go_wp2_with fail
    refine start_ (n := 5) (S := fun w' => w'.cell? ⟨W.heap.size, 0, none⟩ = some (.int .i64 a) ∧ w'.cell? ⟨W.heap.size, 1, none⟩ = some (.int .i64 b) ∧ w'.cell? ⟨W.heap.size, 2, none⟩ = some (.int .u32 c)) (ds := [3]) #[Z,Z,Z,Z,Z] (by kernel_rfl) rfl rfl ⟨(A0.out.cell 0).trans rfl, (A0.out.cell 1).trans rfl, (A0.out.cell 2).trans rfl⟩ (fun hHeld => ?_)
    refine pu_ 1 10 ?_ #[Z,J,Z,Z,Z] rfl rfl ?_ ?_ ?_ ?_
    rotate_left
    · intro w'
      go_simp
      with_reducible rfl
    rotate_left
    · simp only [aP]
      rfl
    refine ta_ 0 9 ?_ #[J,J,Z,Z,Z] rfl rfl ?_ hHeld ?_ ?_ ?_
    rotate_left
    · rintro w' ⟨s0, s1, s2⟩
      go_simp
      with_reducible rfl
    rotate_left
    · simp only [aP]
      rfl
    refine one_ (i := 2) (N := some 11) #[J,J,J,Z,Z] rfl rfl (by kernel_rfl) (by decide) (fun K hK => ?_)
    refine goes_ Tryz.func78 (by kernel_rfl) rfl #[.pointer (some ⟨g, 0, none⟩)] (by rfl) rfl rfl (by simp only [List.map_toArray, List.map_cons, List.map_nil]; rfl) ?_
    with_reducible refine (Ref.len_ A0.out.at2).mono ?_
    rintro e w4 ⟨rfl, rfl⟩
    refine ⟨_, rfl, ?_⟩
    refine hK.out _ _ ⟨(A0.out.cell 0).trans rfl, (A0.out.cell 1).trans rfl, (A0.out.cell 2).trans rfl⟩ (fun hHeld => ?_)
    clear hK K
    refine norm_ (a' := ?_) ?_ ?_
    rotate_left
    · show Act.put _ (some 11) _ = _
      simp only [aP]
      rfl
    refine last_ (i := 3) (N := some 12) #[J,J,J,J,Z] rfl rfl (by kernel_rfl) (by decide) (fun K hK => ?_)
    refine goes_ Tryz.func77 (by kernel_rfl) rfl #[.agg #[.int .i64 a, .int .i64 b, .int .u32 c], .int .i64 (n : Int)] (by rfl) rfl rfl (by simp only [List.map_toArray, List.map_cons, List.map_nil]; rfl) ?_
    with_reducible refine (rright_ a b c (n : Int) _).mono ?_
    rintro e w5 ⟨rfl, hb5⟩
    refine ⟨_, rfl, ?_⟩
    rw [HRT.out]
    have A5 := Aside0.mk (A0.out.below hb5)
    clear hb5
    refine hK.out _ _ ?_
    clear hK K
    refine norm_ (a' := ?_) ?_ ?_
    rotate_left
    · show Act.put _ (some 12) _ = _
      simp only [aP]
      rfl
    refine pu_ 4 13 ?_ #[J,J,J,J,J] rfl rfl ?_ ?_ ?_ ?_
    rotate_left
    · intro w'
      go_simp
      with_reducible rfl
    rotate_left
    · simp only [aP]
      rfl
    refine done_ (by kernel_rfl) ?_
    go_wp2_with fail
    go_ret
    exact ⟨_, by first | rfl | (simp; done), by rw [HP.out]; exact A5.out.tail.nilRow _ _⟩
  | true =>
    have HRT := Aside0.mk hr
    have h1 := of_decide_eq_true hr
    obtain ⟨B, rfl⟩ := Int.eq_ofNat_of_zero_le (show 0 ≤ b by omega)
    have HP : Aside0 (pagesF n las wt a (B : Int) c = (List.range B).map (fun i : Nat => pageF n las wt a (B : Int) c (i : Int))) := ⟨by unfold pagesF; rw [if_pos hr, Int.toNat_natCast]⟩
    have hB : B ≤ 64 := by omega
    have HMI : Aside0 (∀ i : Nat, i < B → mayF n a (B : Int) c (i : Int) = true) := ⟨fun i hi => by
      unfold mayF; rw [hr, decide_eq_true (show (0 : Int) ≤ (i : Int) by omega), decide_eq_true (show (i : Int) < (B : Int) by omega)]; rfl⟩
    clear hr h1
    go_enter Tryz.func80, Tryz.ntmps80
    go_wp2_with fail
    refine start_ (n := 5) (S := fun w' => w'.cell? ⟨W.heap.size, 0, none⟩ = some (.int .i64 a) ∧ w'.cell? ⟨W.heap.size, 1, none⟩ = some (.int .i64 (B : Int)) ∧ w'.cell? ⟨W.heap.size, 2, none⟩ = some (.int .u32 c)) (ds := [3]) #[Z,Z,Z,Z,Z] (by kernel_rfl) rfl rfl ⟨(A0.out.cell 0).trans rfl, (A0.out.cell 1).trans rfl, (A0.out.cell 2).trans rfl⟩ (fun hHeld => ?_)
    refine pu_ 1 10 ?_ #[Z,J,Z,Z,Z] rfl rfl ?_ ?_ ?_ ?_
    rotate_left
    · intro w'
      go_simp
      with_reducible rfl
    rotate_left
    · simp only [aP]
      rfl
    refine ta_ 0 9 ?_ #[J,J,Z,Z,Z] rfl rfl ?_ hHeld ?_ ?_ ?_
    rotate_left
    · rintro w' ⟨s0, s1, s2⟩
      go_simp
      with_reducible rfl
    rotate_left
    · simp only [aP]
      rfl
    refine one_ (i := 2) (N := some 11) #[J,J,J,Z,Z] rfl rfl (by kernel_rfl) (by decide) (fun K hK => ?_)
    refine goes_ Tryz.func78 (by kernel_rfl) rfl #[.pointer (some ⟨g, 0, none⟩)] (by rfl) rfl rfl (by simp only [List.map_toArray, List.map_cons, List.map_nil]; rfl) ?_
    with_reducible refine (Ref.len_ A0.out.at2).mono ?_
    rintro e w4 ⟨rfl, rfl⟩
    refine ⟨_, rfl, ?_⟩
    refine hK.out _ _ ⟨(A0.out.cell 0).trans rfl, (A0.out.cell 1).trans rfl, (A0.out.cell 2).trans rfl⟩ (fun hHeld => ?_)
    clear hK K
    refine norm_ (a' := ?_) ?_ ?_
    rotate_left
    · show Act.put _ (some 11) _ = _
      simp only [aP]
      rfl
    refine last_ (i := 3) (N := some 12) #[J,J,J,J,Z] rfl rfl (by kernel_rfl) (by decide) (fun K hK => ?_)
    refine goes_ Tryz.func77 (by kernel_rfl) rfl #[.agg #[.int .i64 a, .int .i64 (B : Int), .int .u32 c], .int .i64 (n : Int)] (by rfl) rfl rfl (by simp only [List.map_toArray, List.map_cons, List.map_nil]; rfl) ?_
    with_reducible refine (rright_ a (B : Int) c (n : Int) _).mono ?_
    rintro e w5 ⟨rfl, hb5⟩
    refine ⟨_, rfl, ?_⟩
    rw [HRT.out]
    have A5 := Aside0.mk (A0.out.below hb5)
    clear hb5
    refine hK.out _ _ ?_
    clear hK K
    refine norm_ (a' := ?_) ?_ ?_
    rotate_left
    · show Act.put _ (some 12) _ = _
      simp only [aP]
      rfl
    refine pu_ 4 13 ?_ #[J,J,J,J,J] rfl rfl ?_ ?_ ?_ ?_
    rotate_left
    · intro w'
      go_simp
      with_reducible rfl
    rotate_left
    · simp only [aP]
      rfl
    refine done_ (by kernel_rfl) ?_
    have A6 := Aside0.mk (A5.out.nilRow K2 24)
    go_wp2_with fail
    go_loopg [5, 6] B (fun m v p wr => ∃ j : Nat, p = .int .i64 (j : Int) ∧ j + m = B ∧ Sep w0 wr (Row K2 24 v ((List.range j).map (fun i : Nat => pageF n las wt a (B : Int) c (i : Int))) :: Blk W.heap.size 80 #[.int .i64 a, .int .i64 (B : Int), .int .u32 c] :: RTL g n las wt left d :: F))
    case atStart => exact ⟨0, rfl, by omega, A6.out⟩
    case round =>
      obtain ⟨j, rfl, hjm, hS⟩ := hrel
      have AK := Aside0.mk hjm
      have AS := Aside0.mk hS
      obtain ⟨A3, c3, rfl⟩ := hS.rowN (n := j) (by simp)
      clear hS
      have z0 := (AS.out.at2.cell 0).trans rfl
      have z1 := (AS.out.at2.cell 1).trans rfl
      have z2 := (AS.out.at2.cell 2).trans rfl
      by_cases hj : j < B
      · have hjl : (j : Int) < (B : Int) := by omega
        have HSN : Aside0 ((List.range (j + 1)).map (fun i : Nat => pageF n las wt a (B : Int) c (i : Int)) = (List.range j).map (fun i : Nat => pageF n las wt a (B : Int) c (i : Int)) ++ [pageF n las wt a (B : Int) c (j : Int)]) := ⟨by rw [List.range_succ, List.map_append]; rfl⟩
        have HA := Aside0.mk (home_at (HMI.out j hj))
        have HPG : Aside0 (pageF n las wt a (B : Int) c (j : Int) = (wt (atF a (j : Int))).getD (sec las (atF a (j : Int)))) := ⟨by unfold pageF; rw [if_pos (HMI.out j hj)]; unfold secF; rw [if_pos HA.out.2]⟩
        clear hjm
        go_wp2_with fail
        refine (rhome_ a (B : Int) c (j : Int) _).mono ?_
        rintro e w2 ⟨rfl, hb2⟩
        have A7 := Aside0.mk (AS.out.below hb2)
        rw [HA.out.1]
        clear hb2 z0 z1 z2
        go_wp2_with fail
        refine (Ref.rread_ A7.out.at3 HL.out.1 HL.out.2 (atF a (j : Int)) HA.out.2).mono ?_
        rintro e w3 ⟨v3, rfl, hS3⟩
        rw [← HPG.out] at hS3
        obtain ⟨A4, c4, rfl⟩ := hS3.rowV
        have L3 := Aside0.mk (hS3.elSlice.at3)
        clear hS3
        generalize pageF n las wt a (B : Int) c (j : Int) = x at *
        go_wp2_with (first | (refine gate_builtin (b := .append) (xs := #[.tmp 29, .tmp 31]) rfl ?_; go_loud (refine L3.out.appendDeep rfl (.tmp 29) (.tmp 31) 49 _ 24 rfl Tryz.underlying49 infoS rfl (by decide) (by decide) rfl rfl (by simp; omega) ?_; intro v6 w6 hs6 hS6; have B6 := Aside0.mk hS6; clear hS6)))
        go_roundg (gk - 1)
        case measure => have := AK.out; omega
        case rel => exact ⟨j + 1, by go_num, by have := AK.out; omega, by rw [HSN.out]; exact B6.out.sw23⟩
      · obtain rfl : j = B := by omega
        have hjl : ¬ (j : Int) < (j : Int) := by omega
        clear hjm
        go_wp2_with fail
        go_ret
        exact ⟨_, by first | rfl | (simp; done), by rw [HP.out]; exact AS.out.drop2⟩
end
end Go.Proofs.YtjngnigelkgekaaGreat.Home
namespace Go.Proofs.YtjngnigelkgekaaGreat.Kit.Sep
open Go.Proofs.YtjngnigelkgekaaGreat.Kit
theorem pull (A : List HP) {w0 W : World} {p : HP} {B : List HP} (h : Sep w0 W (A ++ p :: B)) : Sep w0 W (p :: (A ++ B)) := h.perm List.perm_middle
theorem push (A : List HP) {w0 W : World} {p : HP} {B : List HP} (h : Sep w0 W (p :: (A ++ B))) : Sep w0 W (A ++ p :: B) := h.perm List.perm_middle.symm
theorem turn3 {w0 W : World} {p q r : HP} {F : List HP} (h : Sep w0 W (p :: q :: r :: F)) : Sep w0 W (r :: q :: p :: F) := Sep.pull [_] (Sep.pull [_, _] (Sep.pull [_, _] h))
end Go.Proofs.YtjngnigelkgekaaGreat.Kit.Sep
namespace Go.Proofs.YtjngnigelkgekaaGreat.Deed
open Go.RowKit Go.Proofs.YtjngnigelkgekaaGreatW.PrintWords Go.Proofs.YtjngnigelkgekaaGreatW.PrintLast Go.Proofs.YtjngnigelkgekaaGreatW.PrintMore Go.Proofs.YtjngnigelkgekaaGreat.Kit Go.Proofs.YtjngnigelkgekaaGreat.Disk
open Go.Proofs.YtjngnigelkgekaaGreat.Home (RTL)
abbrev DS := List Int × Wt
abbrev Dd := Option (Nat × List Int)
def doD (S : DS) : Dd → DS
  | none => (flushed S.1 S.2, fun _ => none)
  | some (i, b) => (S.1, fun j => if j = i then some b else S.2 j)
def runD (S : DS) (ds : List Dd) : DS := ds.foldl doD S
def cutD (k : Int) (ds : List Dd) : List Dd := if k < 0 then ds else ds.take k.toNat
def leftD (k : Int) (m : Nat) : Int := if k < 0 then k else if (m : Int) ≤ k then k - m else 0
def OkS (n : Nat) (S : DS) : Prop := S.1.length = 64 * n ∧ ∀ i b, S.2 i = some b → b.length = 64
def OkD (n : Nat) (ds : List Dd) : Prop := ∀ i b, some (i, b) ∈ ds → i < n ∧ b.length = 64
theorem OkD.nil {n : Nat} : OkD n [] := fun i b h => by cases h
theorem OkD.flush {n : Nat} {ds : List Dd} (h : OkD n ds) : OkD n (ds ++ [none]) := fun i b hm => by
  rcases List.mem_append.1 hm with hm | hm
  · exact h i b hm
  · cases List.mem_singleton.1 hm
theorem OkD.write {n : Nat} {ds : List Dd} (h : OkD n ds) {i : Nat} {b : List Int} (hi : i < n) (hb : b.length = 64) : OkD n (ds ++ [some (i, b)]) := fun j c hm => by
  rcases List.mem_append.1 hm with hm | hm
  · exact h j c hm
  · cases List.mem_singleton.1 hm; exact ⟨hi, hb⟩
theorem OkS.one {n : Nat} {S : DS} (h : OkS n S) {x : Dd} (hx : ∀ i b, x = some (i, b) → i < n ∧ b.length = 64) : OkS n (doD S x) := by
  match x with
  | none => exact ⟨Ref.flushed_len h.1 h.2, Ref.none_len⟩
  | some (i, b) => exact ⟨h.1, Ref.upd_len h.2 (hx i b rfl).2⟩
theorem OkS.run {n : Nat} : ∀ {ds : List Dd} {S : DS}, OkS n S → OkD n ds → OkS n (runD S ds)
  | [], _, h, _ => h
  | x :: t, _, h, hd => OkS.run (ds := t) (h.one (fun i b e => hd i b (by rw [← e]; exact List.mem_cons_self ..))) (fun i b hm => hd i b (List.mem_cons_of_mem _ hm))
theorem OkD.cut {n : Nat} {ds : List Dd} (h : OkD n ds) (k : Int) : OkD n (cutD k ds) := by
  unfold cutD
  split
  · exact h
  · exact fun i b hm => h i b (List.mem_of_mem_take hm)
theorem runD_snoc (S : DS) (ds : List Dd) (x : Dd) : runD S (ds ++ [x]) = doD (runD S ds) x := by unfold runD; rw [List.foldl_append]; rfl
theorem runD_append (S : DS) (ds es : List Dd) : runD S (ds ++ es) = runD (runD S ds) es := by unfold runD; rw [List.foldl_append]
theorem cutD_all (ds : List Dd) : cutD (-1) ds = ds := if_pos (by decide)
theorem leftD_all (m : Nat) : leftD (-1) m = -1 := if_pos (by decide)
theorem step_yes {k : Int} {ds : List Dd} (h : k < 0 ∨ (ds.length : Int) < k) (x : Dd) : leftD k ds.length ≠ 0 ∧ Ref.leftF (leftD k ds.length) = leftD k (ds ++ [x]).length ∧ cutD k (ds ++ [x]) = cutD k ds ++ [x] := by
  rw [List.length_append, List.length_singleton]
  by_cases h0 : k < 0
  · unfold leftD cutD Ref.leftF
    rw [if_pos h0, if_pos h0, if_pos h0, if_pos h0, if_neg (show ¬ 0 < k by omega)]
    exact ⟨by omega, rfl, rfl⟩
  · have h1 : (ds.length : Int) < k := h.resolve_left h0
    unfold leftD cutD Ref.leftF
    rw [if_neg h0, if_neg h0, if_neg h0, if_neg h0, if_pos (show (ds.length : Int) ≤ k by omega), if_pos (show ((ds.length + 1 : Nat) : Int) ≤ k by omega), if_pos (show 0 < k - (ds.length : Int) by omega)]
    refine ⟨by omega, by omega, ?_⟩
    rw [List.take_of_length_le (by rw [List.length_append, List.length_singleton]; omega), List.take_of_length_le (by omega)]
theorem step_no {k : Int} {ds : List Dd} (h : ¬ (k < 0 ∨ (ds.length : Int) < k)) (x : Dd) : leftD k ds.length = 0 ∧ leftD k (ds ++ [x]).length = 0 ∧ cutD k (ds ++ [x]) = cutD k ds := by
  rw [List.length_append, List.length_singleton]
  have h0 : ¬ k < 0 := fun h' => h (.inl h')
  have h1 : ¬ (ds.length : Int) < k := fun h' => h (.inr h')
  unfold leftD cutD
  rw [if_neg h0, if_neg h0, if_neg h0, if_neg h0, if_neg (show ¬ ((ds.length + 1 : Nat) : Int) ≤ k by omega)]
  refine ⟨?_, rfl, ?_⟩
  · split <;> omega
  · exact List.take_append_of_le_length (by omega)
def RQ (gr n : Nat) (S : DS) (k : Int) (d : Nat) (ds : List Dd) : HP := RTL gr n (runD S (cutD k ds)).1 (runD S (cutD k ds)).2 (leftD k ds.length) ((d + (cutD k ds).length : Nat) : Int)
section
variable {w0 W : World} {gr n d : Nat} {S : DS} {k : Int} {ds : List Dd} {F : List HP}
theorem cut_len (k : Int) (ds : List Dd) : (cutD k ds).length ≤ ds.length := by unfold cutD; split <;> simp <;> omega
theorem left_in {k : Int} {m : Nat} (hk : -1 ≤ k ∧ k ≤ 1000000) : -9223372036854775808 ≤ leftD k m ∧ leftD k m ≤ 9223372036854775807 := by
  unfold leftD; split
  · omega
  · split <;> omega
theorem rq_start (h : Sep w0 W (RTL gr n S.1 S.2 k (d : Int) :: F)) (hk : -1 ≤ k) : Sep w0 W (RQ gr n S k d [] :: F) := by
  have h1 : cutD k [] = [] := by unfold cutD; split <;> simp
  have h2 : leftD k 0 = k := by unfold leftD; split; rfl; rw [if_pos (by omega)]; omega
  unfold RQ
  rw [h1, List.length_nil, h2]
  exact h
theorem rq_all (h : Sep w0 W (RQ gr n S (-1) d ds :: F)) : Sep w0 W (RTL gr n (runD S ds).1 (runD S ds).2 (-1) ((d + ds.length : Nat) : Int) :: F) := by
  unfold RQ at h
  rw [cutD_all, leftD_all] at h
  exact h
theorem qflush_ (h : Sep w0 W (RQ gr n S k d ds :: F)) (hs : OkS n S) (hd : OkD n ds) (hk : -1 ≤ k ∧ k ≤ 1000000) (hb : d + ds.length ≤ 2000000) :
    Calls Tryz.prog 44 #[.pointer (some ⟨gr, 0, none⟩)] W fun e w' => e = .returned (.tuple #[]) ∧ Sep w0 w' (RQ gr n S k d (ds ++ [none]) :: F) := by
  have hr := hs.run (hd.cut k)
  have hc := cut_len k ds
  by_cases hy : k < 0 ∨ (ds.length : Int) < k
  · obtain ⟨e1, e2, e3⟩ := step_yes hy none
    refine (Ref.flush_in h e1 (left_in hk) (by omega)).mono ?_
    rintro e w' ⟨rfl, hS⟩
    refine ⟨rfl, ?_⟩
    unfold RQ
    rw [← e2, e3, runD_snoc, List.length_append, List.length_singleton]
    show Sep w0 w' (Ref.RD gr n (flushed _ _) (flushed (flushed _ _) (fun _ => none)) (Ref.waitL n (fun _ => none)) _ _ :: F)
    rw [flushed_none (Ref.flushed_len hr.1 hr.2), Ref.waitL_none]
    have e4 : ((d + ((cutD k ds).length + 1) : Nat) : Int) = ((d + (cutD k ds).length : Nat) : Int) + 1 := by omega
    rw [e4]
    exact hS
  · obtain ⟨e1, e2, e3⟩ := step_no hy none
    have h0 := h
    unfold RQ at h
    rw [e1] at h
    refine (Ref.flush_no h).mono ?_
    rintro e w' ⟨rfl, rfl⟩
    refine ⟨rfl, ?_⟩
    unfold RQ
    rw [e2, e3]
    exact h
theorem qwrite_ (h : Sep w0 W (RQ gr n S k d ds :: F)) (hs : OkS n S) (hd : OkD n ds) (hk : -1 ≤ k ∧ k ≤ 1000000) (hb : d + ds.length ≤ 2000000) (i : Nat) (hi : i < n) {A : Option Addr} {c : Nat} {b : List Int} (hx : ∀ W', Sep w0 W' F → U8.C W' A 64 b) :
    Calls Tryz.prog 79 #[.pointer (some ⟨gr, 0, none⟩), .int .i64 (i : Int), .slice A 64 c] W fun e w' => e = .returned (.bool true) ∧ Sep w0 w' (RQ gr n S k d (ds ++ [some (i, b)]) :: F) := by
  have hr := hs.run (hd.cut k)
  have hc := cut_len k ds
  by_cases hy : k < 0 ∨ (ds.length : Int) < k
  · obtain ⟨e1, e2, e3⟩ := step_yes hy (some (i, b))
    refine (Ref.write_in h e1 (left_in hk) (by omega) i hi hx).mono ?_
    rintro e w' ⟨rfl, hS⟩
    refine ⟨rfl, ?_⟩
    unfold RQ
    rw [← e2, e3, runD_snoc, List.length_append, List.length_singleton]
    show Sep w0 w' (Ref.RD gr n (runD S (cutD k ds)).1 (flushed (runD S (cutD k ds)).1 (fun j => if j = i then some b else (runD S (cutD k ds)).2 j)) (Ref.waitL n (fun j => if j = i then some b else (runD S (cutD k ds)).2 j)) _ _ :: F)
    have e4 : ((d + ((cutD k ds).length + 1) : Nat) : Int) = ((d + (cutD k ds).length : Nat) : Int) + 1 := by omega
    rw [e4, ← Ref.flushed_write hr.1 hr.2 hi (hx W h.tail).1, ← Ref.waitL_set _ i b]
    exact hS
  · obtain ⟨e1, e2, e3⟩ := step_no hy (some (i, b))
    unfold RQ at h
    rw [e1] at h
    refine (Ref.write_no h i hi).mono ?_
    rintro e w' ⟨rfl, rfl⟩
    refine ⟨rfl, ?_⟩
    unfold RQ
    rw [e2, e3]
    exact h
end
end Go.Proofs.YtjngnigelkgekaaGreat.Deed
