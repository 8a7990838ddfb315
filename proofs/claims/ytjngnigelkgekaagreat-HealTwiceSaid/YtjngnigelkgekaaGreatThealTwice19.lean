/- StCommit2, StKnown, StLaw, StLaw2, StDeed2: what HealTwice needs. -/
import Derived.Test.YtjngnigelkgekaaGreatThealTwice18
set_option linter.unusedVariables false
set_option linter.unusedSimpArgs false
namespace Go.Proofs.YtjngnigelkgekaaGreat.Store
open Go.RowKit Go.Proofs.YtjngnigelkgekaaGreatW.PrintWords Go.Proofs.YtjngnigelkgekaaGreatW.PrintLast Go.Proofs.YtjngnigelkgekaaGreatW.PrintMore Go.Proofs.YtjngnigelkgekaaGreat.Kit Go.Proofs.YtjngnigelkgekaaGreat.Plain Go.Proofs.YtjngnigelkgekaaGreat.Disk Go.Proofs.YtjngnigelkgekaaGreat.Root
open Go.Proofs.YtjngnigelkgekaaGreat.Delta (Chg KC deltaF rightF okF right_ needF)
open Go.Proofs.YtjngnigelkgekaaGreat.Frame (frameF frameF_len frameF_bytes fbytes_)
open Go.Proofs.YtjngnigelkgekaaGreat.Redo (appR okA append_ sizeF)
theorem cm_nums {u k sq : Nat} (h : u + k ≤ 4096) (hs : sq ≤ 1000000) : wrap64 ((u : Int) + (k : Int)) = ((u + k : Nat) : Int) ∧ IntKind.u32.wrap ((sq : Int) + 1) = ((sq + 1 : Nat) : Int) := ⟨by rw [IntWalk.wrap64_in _ (by omega)]; omega, by rw [IntKind.wrap_u32]; omega⟩
section
variable {w0 W : World} {F : List HP} {gs g m n : Nat} {a b ep : Int} {pages : List (List Int)} {named : List Int} {used seq : Nat} {las : List Int} {wt : Wt}
set_option maxHeartbeats 3200000 in
set_option maxRecDepth 100000 in
theorem commit_ok (h : Sep w0 W (StB gs g m a b ep pages named used seq :: Dsk g las wt :: F)) (hl : las.length = 64 * n) (hn : n ≤ 160) (hw : ∀ i b, wt i = some b → b.length = 64) {A2 : Option Addr} {n2 c2 : Nat} {l : List Chg} (hC : ∀ W', Sep w0 W' F → KC.C W' A2 n2 l) (hr : rightF l b = true) (hu : (used : Int) ≤ sizeF a) (hf : fitsF a used n2 = true)
    (hep : 0 ≤ ep ∧ ep ≤ 4294967295) (hsq : seq ≤ 1000000) (hpn : pages.length ≤ 100000) (hp : ∀ p ∈ pages, p.length ≤ 1000000) (hnl : named.length ≤ 100000) :
    Calls Tryz.prog 32 #[.pointer (some ⟨gs, 0, none⟩), .slice A2 n2 c2] W fun e w' => e = .returned (.int .i64 0) ∧ Sep w0 w' (StB gs g m a b ep (applyF pages l) (insAll named l) (used + (18 + 66 * n2)) (seq + 1) :: Dsk g las (appR n las wt a b ep (used : Int) (frameF ep (seq : Int) (deltaF l))) :: F) := by
  have hC0 := hC W h.tail.tail
  have hln := hC0.1
  obtain ⟨A, c, hs⟩ := stb_open h
  obtain ⟨N, hN⟩ : ∃ N, pages.length = N := ⟨_, rfl⟩
  rw [hN] at hs hpn
  have hs1 := Redo.sizeF_in a
  have hfi := fits_in hf
  have hok : okF b (-1) l = true := by
    have h2 := hr
    unfold rightF at h2
    rw [Bool.and_eq_true] at h2
    exact h2.2
  have hall := right_all hok (by decide)
  have hdl : (deltaF l).length = 2 + 66 * n2 := by
    unfold deltaF
    rw [List.length_append, Redo.okF_len hok, hln]; rfl
  have HFL : Aside0 ((frameF ep (seq : Int) (deltaF l)).length = 18 + 66 * n2) := ⟨by rw [frameF_len, hdl]; omega⟩
  have HS := Aside0.mk hs
  have HC := Aside0.mk hC
  have HR := Aside0.mk hr
  have HU := Aside0.mk hu
  have HF := Aside0.mk hf
  have HL := Aside0.mk (And.intro hl (And.intro hn hw))
  have HDL := Aside0.mk hdl
  have HN2 := Aside0.mk hfi.1
  have HN := Aside0.mk hN
  have HP := Aside0.mk (And.intro hpn hp)
  have HEP := Aside0.mk hep
  have HSQ := Aside0.mk hsq
  have HLN := Aside0.mk hln
  have HAL : Aside0 (∀ x ∈ l, x.2.length ≤ 1000000 ∧ -9223372036854775808 ≤ x.1 ∧ x.1 ≤ 9223372036854775807) := ⟨fun x hx => by
    have h1 := hall x hx
    have hb64 : b ≤ 64 := by
      have h2 := hr
      unfold rightF at h2
      rw [Bool.and_eq_true, decide_eq_true_eq] at h2
      exact h2.1
    exact ⟨by omega, by omega, by omega⟩⟩
  have HNL := Aside0.mk hnl
  obtain ⟨e1, e2⟩ := cm_nums (u := used) (k := 18 + 66 * n2) (sq := seq) (by have := hfi.2; have := hs1.2; omega) hsq
  obtain ⟨KF, hK_⟩ : ∃ K, 18 + 66 * n2 = K := ⟨_, rfl⟩
  rw [hK_] at e1 HFL
  have HKK := Aside0.mk hK_
  obtain ⟨U2, hU2⟩ : ∃ u, used + KF = u := ⟨_, rfl⟩
  obtain ⟨S2, hS2⟩ : ∃ u, seq + 1 = u := ⟨_, rfl⟩
  rw [hU2] at e1
  rw [hS2] at e2
  have HU2 := Aside0.mk hU2
  have HS2 := Aside0.mk hS2
  have hn64 : n2 ≤ 64 := hfi.1
  have z2 := (hs.cell 2).trans rfl
  clear h hs hC hC0 hr hu hf hl hn hw hln hN hs1 hfi hok hall hdl hK_ hU2 hS2 hpn hp hnl hep hsq
  go_enter Tryz.func32, Tryz.ntmps32
  go_wp2_with fail
  refine (right_ (HC.out _ HS.out.tail.tail.tail.tail) b).mono ?_
  rintro e w1 ⟨rfl, hb1⟩
  rw [HR.out]
  have B1 := Aside0.mk (HS.out.below hb1).drew
  clear hb1 z2
  go_wp2_with fail
  refine start_ (n := 13) (S := fun w' => w'.cell? ⟨gs, 1, none⟩ = some (.int .i64 a) ∧ w'.cell? ⟨gs, 2, none⟩ = some (.int .i64 b) ∧ w'.cell? ⟨gs, 3, none⟩ = some (.int .u32 ep) ∧ w'.cell? ⟨gs, 6, none⟩ = some (.int .i64 (used : Int))) (ds := [10]) #[Z,Z,Z,Z,Z,Z,Z,Z,Z,Z,Z,Z,Z] (by kernel_rfl) rfl rfl ⟨(B1.out.cell 1).trans rfl, (B1.out.cell 2).trans rfl, (B1.out.cell 3).trans rfl, (B1.out.cell 6).trans rfl⟩ (fun hHeld => ?_)
  refine pu_ 0 18 ?_ #[J,Z,Z,Z,Z,Z,Z,Z,Z,Z,Z,Z,Z] rfl rfl ?_ ?_ ?_ ?_
  rotate_left
  · intro w'
    go_simp
    with_reducible rfl
  rotate_left
  · simp only [aP]
    rfl
  refine pu_ 1 19 ?_ #[J,J,Z,Z,Z,Z,Z,Z,Z,Z,Z,Z,Z] rfl rfl ?_ ?_ ?_ ?_
  rotate_left
  · intro w'
    go_simp
    with_reducible rfl
  rotate_left
  · simp only [aP]
    rfl
  refine pu_ 2 20 ?_ #[J,J,J,Z,Z,Z,Z,Z,Z,Z,Z,Z,Z] rfl rfl ?_ ?_ ?_ ?_
  rotate_left
  · intro w'
    go_simp
    with_reducible rfl
  rotate_left
  · simp only [aP]
    rfl
  refine pu_ 4 22 ?_ #[J,J,J,Z,J,Z,Z,Z,Z,Z,Z,Z,Z] rfl rfl ?_ ?_ ?_ ?_
  rotate_left
  · intro w'
    go_simp
    with_reducible rfl
  rotate_left
  · simp only [aP]
    rfl
  refine pu_ 5 23 ?_ #[J,J,J,Z,J,J,Z,Z,Z,Z,Z,Z,Z] rfl rfl ?_ ?_ ?_ ?_
  rotate_left
  · intro w'
    go_simp
    with_reducible rfl
  rotate_left
  · simp only [aP]
    rfl
  refine pu_ 6 24 ?_ #[J,J,J,Z,J,J,J,Z,Z,Z,Z,Z,Z] rfl rfl ?_ ?_ ?_ ?_
  rotate_left
  · intro w'
    go_simp
    with_reducible rfl
  rotate_left
  · simp only [aP]
    rfl
  refine pu_ 8 26 ?_ #[J,J,J,Z,J,J,J,Z,J,Z,Z,Z,Z] rfl rfl ?_ ?_ ?_ ?_
  rotate_left
  · intro w'
    go_simp
    with_reducible rfl
  rotate_left
  · simp only [aP]
    rfl
  refine pu_ 9 27 ?_ #[J,J,J,Z,J,J,J,Z,J,J,Z,Z,Z] rfl rfl ?_ ?_ ?_ ?_
  rotate_left
  · intro w'
    go_simp
    with_reducible rfl
  rotate_left
  · simp only [aP]
    rfl
  refine ta_ 3 21 ?_ #[J,J,J,J,J,J,J,Z,J,J,Z,Z,Z] rfl rfl ?_ hHeld ?_ ?_ ?_
  rotate_left
  · rintro w' ⟨s0, s1, s2, s3⟩
    go_simp
    with_reducible rfl
  rotate_left
  · simp only [aP]
    rfl
  refine ta_ 7 25 ?_ #[J,J,J,J,J,J,J,J,J,J,Z,Z,Z] rfl rfl ?_ hHeld ?_ ?_ ?_
  rotate_left
  · rintro w' ⟨s0, s1, s2, s3⟩
    go_simp
    with_reducible rfl
  rotate_left
  · simp only [aP]
    rfl
  refine last_ (i := 10) (N := some 28) #[J,J,J,J,J,J,J,J,J,J,J,Z,Z] rfl rfl (by kernel_rfl) (by decide) (fun K hK => ?_)
  refine goes_ Tryz.func70 (by kernel_rfl) rfl #[.agg #[.int .i64 a, .int .i64 b, .int .u32 ep], .int .i64 (used : Int), .int .i64 (n2 : Int)] (by rfl) rfl rfl (by simp only [List.map_toArray, List.map_cons, List.map_nil]; rfl) ?_
  with_reducible refine (fits_ a b ep used n2 HU.out _).mono ?_
  rintro e w3 ⟨rfl, hb3⟩
  refine ⟨_, rfl, ?_⟩
  rw [HF.out]
  have B3 := Aside0.mk (B1.out.below hb3).drew
  clear hb3
  refine hK.out _ _ ?_
  clear hK K
  refine norm_ (a' := ?_) ?_ ?_
  rotate_left
  · show Act.put _ (some 28) _ = _
    simp only [aP]
    rfl
  refine pu_ 11 29 ?_ #[J,J,J,J,J,J,J,J,J,J,J,J,Z] rfl rfl ?_ ?_ ?_ ?_
  rotate_left
  · intro w'
    go_simp
    with_reducible rfl
  rotate_left
  · simp only [aP]
    rfl
  refine pu_ 12 17 ?_ #[J,J,J,J,J,J,J,J,J,J,J,J,J] rfl rfl ?_ ?_ ?_ ?_
  rotate_left
  · intro w'
    go_simp
    with_reducible rfl
  rotate_left
  · simp only [aP]
    rfl
  refine done_ (by kernel_rfl) ?_
  go_wp2_with fail
  refine start_ (n := 13) (S := fun w' => w'.cell? ⟨gs, 3, none⟩ = some (.int .u32 ep) ∧ w'.cell? ⟨gs, 7, none⟩ = some (.int .u32 (seq : Int))) (ds := [11]) #[Z,Z,Z,Z,Z,Z,Z,Z,Z,Z,Z,Z,Z] (by kernel_rfl) rfl rfl ⟨(B3.out.cell 3).trans rfl, (B3.out.cell 7).trans rfl⟩ (fun hHeld => ?_)
  refine pu_ 0 30 ?_ #[J,Z,Z,Z,Z,Z,Z,Z,Z,Z,Z,Z,Z] rfl rfl ?_ ?_ ?_ ?_
  rotate_left
  · intro w'
    go_simp
    with_reducible rfl
  rotate_left
  · simp only [aP]
    rfl
  refine pu_ 1 31 ?_ #[J,J,Z,Z,Z,Z,Z,Z,Z,Z,Z,Z,Z] rfl rfl ?_ ?_ ?_ ?_
  rotate_left
  · intro w'
    go_simp
    with_reducible rfl
  rotate_left
  · simp only [aP]
    rfl
  refine pu_ 2 32 ?_ #[J,J,J,Z,Z,Z,Z,Z,Z,Z,Z,Z,Z] rfl rfl ?_ ?_ ?_ ?_
  rotate_left
  · intro w'
    go_simp
    with_reducible rfl
  rotate_left
  · simp only [aP]
    rfl
  refine pu_ 3 33 ?_ #[J,J,J,J,Z,Z,Z,Z,Z,Z,Z,Z,Z] rfl rfl ?_ ?_ ?_ ?_
  rotate_left
  · intro w'
    go_simp
    with_reducible rfl
  rotate_left
  · simp only [aP]
    rfl
  refine pu_ 5 35 ?_ #[J,J,J,J,Z,J,Z,Z,Z,Z,Z,Z,Z] rfl rfl ?_ ?_ ?_ ?_
  rotate_left
  · intro w'
    go_simp
    with_reducible rfl
  rotate_left
  · simp only [aP]
    rfl
  refine pu_ 6 36 ?_ #[J,J,J,J,Z,J,J,Z,Z,Z,Z,Z,Z] rfl rfl ?_ ?_ ?_ ?_
  rotate_left
  · intro w'
    go_simp
    with_reducible rfl
  rotate_left
  · simp only [aP]
    rfl
  refine pu_ 7 37 ?_ #[J,J,J,J,Z,J,J,J,Z,Z,Z,Z,Z] rfl rfl ?_ ?_ ?_ ?_
  rotate_left
  · intro w'
    go_simp
    with_reducible rfl
  rotate_left
  · simp only [aP]
    rfl
  refine pu_ 9 39 ?_ #[J,J,J,J,Z,J,J,J,Z,J,Z,Z,Z] rfl rfl ?_ ?_ ?_ ?_
  rotate_left
  · intro w'
    go_simp
    with_reducible rfl
  rotate_left
  · simp only [aP]
    rfl
  refine ta_ 4 34 ?_ #[J,J,J,J,J,J,J,J,Z,J,Z,Z,Z] rfl rfl ?_ hHeld ?_ ?_ ?_
  rotate_left
  · rintro w' ⟨s0, s1⟩
    go_simp
    with_reducible rfl
  rotate_left
  · simp only [aP]
    rfl
  refine ta_ 8 38 ?_ #[J,J,J,J,J,J,J,J,J,J,Z,Z,Z] rfl rfl ?_ hHeld ?_ ?_ ?_
  rotate_left
  · rintro w' ⟨s0, s1⟩
    go_simp
    with_reducible rfl
  rotate_left
  · simp only [aP]
    rfl
  refine one_ (i := 10) (N := some 40) #[J,J,J,J,J,J,J,J,J,J,J,Z,Z] rfl rfl (by kernel_rfl) (by decide) (fun K hK => ?_)
  refine goes_ Tryz.func72 (by kernel_rfl) rfl #[.slice A2 n2 c2] (by rfl) rfl rfl (by simp only [List.map_toArray, List.map_cons, List.map_nil]; rfl) ?_
  with_reducible refine (Delta.bytes_ (HC.out _ B3.out.tail.tail.tail.tail) (by rw [HDL.out]; have := HN2.out; omega)).mono ?_
  rintro e w4 ⟨v4, rfl, hS4⟩
  refine ⟨_, rfl, ?_⟩
  obtain ⟨A4, c4, rfl⟩ := hS4.rowN HDL.out
  have B4 := Aside0.mk (B3.out.lift1 hS4)
  clear hS4
  refine hK.out _ _ ⟨(B4.out.at2.cell 3).trans rfl, (B4.out.at2.cell 7).trans rfl⟩ (fun hHeld => ?_)
  clear hK K
  refine norm_ (a' := ?_) ?_ ?_
  rotate_left
  · show Act.put _ (some 40) _ = _
    simp only [aP]
    rfl
  refine last_ (i := 11) (N := some 41) #[J,J,J,J,J,J,J,J,J,J,J,J,Z] rfl rfl (by kernel_rfl) (by decide) (fun K hK => ?_)
  refine goes_ Tryz.func71 (by kernel_rfl) rfl #[.int .u32 ep, .int .u32 (seq : Int), .slice A4 (2 + 66 * n2) c4] (by rfl) rfl rfl (by simp only [List.map_toArray, List.map_cons, List.map_nil]; rfl) ?_
  with_reducible refine (fbytes_ B4.out.rowC' (by have := HN2.out; omega) HEP.out (by have := HSQ.out; omega)).mono ?_
  rintro e w5 ⟨v5, rfl, hS5⟩
  refine ⟨_, rfl, ?_⟩
  obtain ⟨fr, hfr⟩ : ∃ f, frameF ep (seq : Int) (deltaF l) = f := ⟨_, rfl⟩
  have HFR := Aside0.mk hfr
  have HFE : Aside0 (fr.length = KF) := ⟨by rw [← hfr]; exact HFL.out⟩
  rw [hfr] at hS5
  obtain ⟨A5, c5, rfl⟩ := hS5.rowN HFE.out
  have hc5 := hS5.rowC.2.1
  have B5 := Aside0.mk (B4.out.tail.lift1 hS5).drew
  clear hS5 hfr
  refine hK.out _ _ ?_
  clear hK K
  refine norm_ (a' := ?_) ?_ ?_
  rotate_left
  · show Act.put _ (some 41) _ = _
    simp only [aP]
    rfl
  refine pu_ 12 5 ?_ #[J,J,J,J,J,J,J,J,J,J,J,J,J] rfl rfl ?_ ?_ ?_ ?_
  rotate_left
  · intro w'
    go_simp
    with_reducible rfl
  rotate_left
  · simp only [aP]
    rfl
  refine done_ (by kernel_rfl) ?_
  have HC5 := Aside0.mk hc5
  clear hc5
  go_wp2_with fail
  refine start_ (n := 14) (S := fun w' => w'.cell? ⟨gs, 0, none⟩ = some (.pointer (some ⟨g, 0, none⟩)) ∧ w'.cell? ⟨gs, 1, none⟩ = some (.int .i64 a) ∧ w'.cell? ⟨gs, 2, none⟩ = some (.int .i64 b) ∧ w'.cell? ⟨gs, 3, none⟩ = some (.int .u32 ep) ∧ w'.cell? ⟨gs, 6, none⟩ = some (.int .i64 (used : Int))) (ds := [13]) #[Z,Z,Z,Z,Z,Z,Z,Z,Z,Z,Z,Z,Z,Z] (by kernel_rfl) rfl rfl ⟨(B5.out.at2.cell 0).trans rfl, (B5.out.at2.cell 1).trans rfl, (B5.out.at2.cell 2).trans rfl, (B5.out.at2.cell 3).trans rfl, (B5.out.at2.cell 6).trans rfl⟩ (fun hHeld => ?_)
  refine pu_ 0 42 ?_ #[J,Z,Z,Z,Z,Z,Z,Z,Z,Z,Z,Z,Z,Z] rfl rfl ?_ ?_ ?_ ?_
  rotate_left
  · intro w'
    go_simp
    with_reducible rfl
  rotate_left
  · simp only [aP]
    rfl
  refine pu_ 1 43 ?_ #[J,J,Z,Z,Z,Z,Z,Z,Z,Z,Z,Z,Z,Z] rfl rfl ?_ ?_ ?_ ?_
  rotate_left
  · intro w'
    go_simp
    with_reducible rfl
  rotate_left
  · simp only [aP]
    rfl
  refine pu_ 2 44 ?_ #[J,J,J,Z,Z,Z,Z,Z,Z,Z,Z,Z,Z,Z] rfl rfl ?_ ?_ ?_ ?_
  rotate_left
  · intro w'
    go_simp
    with_reducible rfl
  rotate_left
  · simp only [aP]
    rfl
  refine pu_ 4 46 ?_ #[J,J,J,Z,J,Z,Z,Z,Z,Z,Z,Z,Z,Z] rfl rfl ?_ ?_ ?_ ?_
  rotate_left
  · intro w'
    go_simp
    with_reducible rfl
  rotate_left
  · simp only [aP]
    rfl
  refine pu_ 5 47 ?_ #[J,J,J,Z,J,J,Z,Z,Z,Z,Z,Z,Z,Z] rfl rfl ?_ ?_ ?_ ?_
  rotate_left
  · intro w'
    go_simp
    with_reducible rfl
  rotate_left
  · simp only [aP]
    rfl
  refine pu_ 6 48 ?_ #[J,J,J,Z,J,J,J,Z,Z,Z,Z,Z,Z,Z] rfl rfl ?_ ?_ ?_ ?_
  rotate_left
  · intro w'
    go_simp
    with_reducible rfl
  rotate_left
  · simp only [aP]
    rfl
  refine pu_ 8 50 ?_ #[J,J,J,Z,J,J,J,Z,J,Z,Z,Z,Z,Z] rfl rfl ?_ ?_ ?_ ?_
  rotate_left
  · intro w'
    go_simp
    with_reducible rfl
  rotate_left
  · simp only [aP]
    rfl
  refine pu_ 9 51 ?_ #[J,J,J,Z,J,J,J,Z,J,J,Z,Z,Z,Z] rfl rfl ?_ ?_ ?_ ?_
  rotate_left
  · intro w'
    go_simp
    with_reducible rfl
  rotate_left
  · simp only [aP]
    rfl
  refine pu_ 10 52 ?_ #[J,J,J,Z,J,J,J,Z,J,J,J,Z,Z,Z] rfl rfl ?_ ?_ ?_ ?_
  rotate_left
  · intro w'
    go_simp
    with_reducible rfl
  rotate_left
  · simp only [aP]
    rfl
  refine pu_ 12 54 ?_ #[J,J,J,Z,J,J,J,Z,J,J,J,Z,J,Z] rfl rfl ?_ ?_ ?_ ?_
  rotate_left
  · intro w'
    go_simp
    with_reducible rfl
  rotate_left
  · simp only [aP]
    rfl
  refine ta_ 3 45 ?_ #[J,J,J,J,J,J,J,Z,J,J,J,Z,J,Z] rfl rfl ?_ hHeld ?_ ?_ ?_
  rotate_left
  · rintro w' ⟨s0, s1, s2, s3, s4⟩
    go_simp
    with_reducible rfl
  rotate_left
  · simp only [aP]
    rfl
  refine ta_ 7 49 ?_ #[J,J,J,J,J,J,J,J,J,J,J,Z,J,Z] rfl rfl ?_ hHeld ?_ ?_ ?_
  rotate_left
  · rintro w' ⟨s0, s1, s2, s3, s4⟩
    go_simp
    with_reducible rfl
  rotate_left
  · simp only [aP]
    rfl
  refine ta_ 11 53 ?_ #[J,J,J,J,J,J,J,J,J,J,J,J,J,Z] rfl rfl ?_ hHeld ?_ ?_ ?_
  rotate_left
  · rintro w' ⟨s0, s1, s2, s3, s4⟩
    go_simp
    with_reducible rfl
  rotate_left
  · simp only [aP]
    rfl
  refine last_ (i := 13) (N := some 55) #[J,J,J,J,J,J,J,J,J,J,J,J,J,J] rfl rfl (by kernel_rfl) (by decide) (fun K hK => ?_)
  refine goes_ Tryz.func73 (by kernel_rfl) rfl #[.pointer (some ⟨g, 0, none⟩), .agg #[.int .i64 a, .int .i64 b, .int .u32 ep], .int .i64 (used : Int), .slice A5 KF c5] (by rfl) rfl rfl (by simp only [List.map_toArray, List.map_cons, List.map_nil]; rfl) ?_
  with_reducible refine (append_ (xs := fr) B5.out.at5 HL.out.1 HL.out.2.1 HL.out.2.2 a b ep (used : Int) (by have := HU.out; have := (Redo.sizeF_in a).2; omega) (fun W' hW => hW.rowC') HC5.out).mono ?_
  rintro e w6 ⟨rfl, hS6⟩
  refine ⟨_, rfl, ?_⟩
  obtain ⟨wt2, hwt2⟩ : ∃ t, appR n las wt a b ep (used : Int) fr = t := ⟨_, rfl⟩
  have HWT := Aside0.mk hwt2
  rw [hwt2] at hS6
  have B6 := Aside0.mk hS6.at2.tail.at2
  clear hS6 hwt2
  refine hK.out _ _ ?_
  clear hK K
  refine norm_ (a' := ?_) ?_ ?_
  rotate_left
  · show Act.put _ (some 55) _ = _
    simp only [aP]
    rfl
  refine done_ (by kernel_rfl) ?_
  have z4 := (B6.out.cell 4).trans rfl
  go_wp2_with fail
  refine (apply_ (ps := pages) (l := l) (Sep.rowVC rfl B6.out.at3).2.2 (HC.out _ B6.out.tail.tail.tail.tail) HP.out.1 HP.out.2 (fun x hx => (HAL.out x hx).1)).mono ?_
  rintro e w7 ⟨v7, rfl, hS7⟩
  obtain ⟨ps2, hps2⟩ : ∃ p, applyF pages l = p := ⟨_, rfl⟩
  have HPS := Aside0.mk hps2
  have HPL : Aside0 (ps2.length = N) := ⟨by rw [← hps2, applyF_len]; exact HN.out⟩
  rw [hps2] at hS7
  obtain ⟨A7, c7, rfl⟩ := Sep.rowVN hS7 HPL.out
  have B7 := Aside0.mk (B6.out.lift1 hS7).at4.tail.at2
  clear hS7 z4 hps2
  have z4 := (B7.out.cell 4).trans rfl
  have f4 := B7.out.frozen 4
  have B8' := Aside0.mk (B7.out.setBlk 4 (.slice A7 N c7))
  go_wp2_with fail
  obtain ⟨w8, hw8⟩ : ∃ x, w7.setCell ⟨gs, 4, none⟩ (.slice A7 N c7) = x := ⟨_, rfl⟩
  rw [hw8] at B8' ⊢
  have B8 : Aside0 (Sep w0 w8 (SetM m named :: Blk gs 108 #[.pointer (some ⟨g, 0, none⟩), .int .i64 a, .int .i64 b, .int .u32 ep, .slice A7 N c7, .map (some m), .int .i64 (used : Int), .int .u32 (seq : Int)] :: RowV KP 24 (.slice A7 N c7) ps2 :: Dsk g las wt2 :: F)) := ⟨B8'.out.at4⟩
  clear B8' hw8 z4 f4
  go_loopg [67] n2 (fun k_ p wr => ∃ (j : Nat), p = .int .i64 (j : Int) ∧ j + k_ = n2 ∧ Sep w0 wr (SetM m (insAll named (l.take j)) :: Blk gs 108 #[.pointer (some ⟨g, 0, none⟩), .int .i64 a, .int .i64 b, .int .u32 ep, .slice A7 N c7, .map (some m), .int .i64 (used : Int), .int .u32 (seq : Int)] :: RowV KP 24 (.slice A7 N c7) ps2 :: Dsk g las wt2 :: F))
  case atStart => exact ⟨0, rfl, by omega, B8.out⟩
  case round =>
    obtain ⟨j, rfl, hjk, hS⟩ := hrel
    obtain ⟨w9, rfl⟩ : ∃ x, x = wr := ⟨_, rfl⟩
    have AK := Aside0.mk hjk
    have AS := Aside0.mk hS
    clear hS
    by_cases cj : j < n2
    case pos =>
      have hjl : (j : Int) < (n2 : Int) := by omega
      obtain ⟨hx, ad, B, cB, rfl, q0, q1, q2, q3⟩ := elem2_ (HC.out _ AS.out.tail.tail.tail.tail) cj
      have hpg := (HAL.out _ (List.getElem_mem hx)).2
      have HIN : Aside0 (insAll named (l.take (j + 1)) = insK (insAll named (l.take j)) (l[j]).1) := ⟨by rw [take_one hx, insAll_snoc]⟩
      obtain ⟨pg, hpgE⟩ : ∃ p, (l[j]).1 = p := ⟨_, rfl⟩
      obtain ⟨bn, hbn⟩ : ∃ p, (l[j]).2.length = p := ⟨_, rfl⟩
      rw [hpgE] at q0 hpg HIN
      rw [hbn] at q1
      have HPG := Aside0.mk hpg
      have HIL : Aside0 ((insAll named (l.take j)).length < 1000000) := ⟨by
        have h1 := insAll_len (l.take j) named
        have h2 : (l.take j).length ≤ n2 := by rw [List.length_take, HLN.out]; omega
        have h3 := HNL.out
        have h4 := HN2.out
        omega⟩
      obtain ⟨G9, hG9⟩ : ∃ G, w9.heap.size = G := ⟨_, rfl⟩
      have BK := Aside0.mk (AS.out.newBlk 75 #[.int .i64 pg, .slice B bn cB])
      rw [hG9] at BK
      clear hjk cj q2 q3 hpgE hbn hpg hx
      go_wp2_with fail
      obtain ⟨w10, hw10⟩ : ∃ x, w9.alloc (.cells #[.int .i64 pg, .slice B bn cB] 75) = x := ⟨_, rfl⟩
      rw [hw10] at BK ⊢
      have BD := Aside0.mk BK.out.drew
      clear hw10 hG9 q0 q1
      refine start_ (n := 8) (S := fun w' => w'.cell? ⟨gs, 5, none⟩ = some (.map (some m)) ∧ w'.cell? ⟨G9, 0, none⟩ = some (.int .i64 pg)) (ds := [7]) #[Z,Z,Z,Z,Z,Z,Z,Z] (by kernel_rfl) rfl rfl ⟨(BD.out.at3.cell 5).trans rfl, (BD.out.cell 0).trans rfl⟩ (fun hHeld => ?_)
      refine pu_ 0 71 ?_ #[J,Z,Z,Z,Z,Z,Z,Z] rfl rfl ?_ ?_ ?_ ?_
      rotate_left
      · intro w'
        go_simp
        with_reducible rfl
      rotate_left
      · simp only [aP]
        rfl
      refine pu_ 1 72 ?_ #[J,J,Z,Z,Z,Z,Z,Z] rfl rfl ?_ ?_ ?_ ?_
      rotate_left
      · intro w'
        go_simp
        with_reducible rfl
      rotate_left
      · simp only [aP]
        rfl
      refine pu_ 2 73 ?_ #[J,J,J,Z,Z,Z,Z,Z] rfl rfl ?_ ?_ ?_ ?_
      rotate_left
      · intro w'
        go_simp
        with_reducible rfl
      rotate_left
      · simp only [aP]
        rfl
      refine pu_ 4 75 ?_ #[J,J,J,Z,J,Z,Z,Z] rfl rfl ?_ ?_ ?_ ?_
      rotate_left
      · intro w'
        go_simp
        with_reducible rfl
      rotate_left
      · simp only [aP]
        rfl
      refine pu_ 6 77 ?_ #[J,J,J,Z,J,Z,J,Z] rfl rfl ?_ ?_ ?_ ?_
      rotate_left
      · intro w'
        go_simp
        with_reducible rfl
      rotate_left
      · simp only [aP]
        rfl
      refine ta_ 3 74 ?_ #[J,J,J,J,J,Z,J,Z] rfl rfl ?_ hHeld ?_ ?_ ?_
      rotate_left
      · rintro w' ⟨s0, s1⟩
        go_simp
        with_reducible rfl
      rotate_left
      · simp only [aP]
        rfl
      refine ta_ 5 76 ?_ #[J,J,J,J,J,J,J,Z] rfl rfl ?_ hHeld ?_ ?_ ?_
      rotate_left
      · rintro w' ⟨s0, s1⟩
        go_simp
        with_reducible rfl
      rotate_left
      · simp only [aP]
        rfl
      refine last_ (i := 7) (N := none) #[J,J,J,J,J,J,J,J] rfl rfl (by kernel_rfl) (by decide) (fun K hK => ?_)
      obtain ⟨W11, hup, hS11⟩ := set_put (v := .agg #[]) BD.out.at2 pg HPG.out HIL.out
      refine skip_ (w1 := ?_) (by rfl) rfl ?_ ?_
      rotate_left
      · go_simp
        rfl
      refine hK.out _ _ ?_
      clear hK K
      refine done_ (by kernel_rfl) ?_
      rw [← HIN.out] at hS11
      have B11 := Aside0.mk hS11.drop2
      clear hS11 hup
      go_wp2_with fail
      go_roundg (gk - 1)
      case measure => have := AK.out; omega
      case rel => exact ⟨j + 1, by go_num, by have := AK.out; omega, B11.out⟩
    case neg =>
    obtain rfl : j = n2 := by omega
    have hjl : ¬ (j : Int) < (j : Int) := by omega
    have HTK : Aside0 (l.take j = l) := ⟨List.take_of_length_le (by rw [HLN.out]; exact Nat.le_refl _)⟩
    have B12 := Aside0.mk AS.out.at2
    rw [HTK.out] at B12
    have z6 := (B12.out.cell 6).trans rfl
    have f6 := B12.out.frozen 6
    have B13 := Aside0.mk (B12.out.setBlk 6 (.int .i64 (U2 : Int)))
    have z7 := (B13.out.cell 7).trans rfl
    have f7 := B13.out.frozen 7
    have B14 := Aside0.mk (B13.out.setBlk 7 (.int .u32 (S2 : Int)))
    clear hjk cj
    go_wp2_with fail
    go_ret
    refine ⟨by first | rfl | (simp; done), ?_⟩
    rw [HKK.out, HU2.out, HS2.out, HPS.out, HFR.out, HWT.out]
    exact stb_shut B14.out.sw23
end
end Go.Proofs.YtjngnigelkgekaaGreat.Store
namespace Go.Proofs.YtjngnigelkgekaaGreat.Store
open Go.RowKit Go.Proofs.YtjngnigelkgekaaGreatW.PrintWords Go.Proofs.YtjngnigelkgekaaGreatW.PrintLast Go.Proofs.YtjngnigelkgekaaGreatW.PrintMore Go.Proofs.YtjngnigelkgekaaGreat.Kit Go.Proofs.YtjngnigelkgekaaGreat.Plain Go.Proofs.YtjngnigelkgekaaGreat.Disk Go.Proofs.YtjngnigelkgekaaGreat.Root
open Go.Proofs.YtjngnigelkgekaaGreat.Delta (Chg KC deltaF rightF)
open Go.Proofs.YtjngnigelkgekaaGreat.Redo (recR logF logF_bytes appR)
open Go.Proofs.YtjngnigelkgekaaGreat.Home (pagesF)
open Go.Proofs.YtjngnigelkgekaaGreat.Frame (frameF)
theorem no_bytes : ∀ i b, noW i = some b → Bytes b := fun i b h => by cases h
end Go.Proofs.YtjngnigelkgekaaGreat.Store
namespace Go.Proofs.YtjngnigelkgekaaGreat.Store
open Go.RowKit Go.Proofs.YtjngnigelkgekaaGreatW.PrintWords Go.Proofs.YtjngnigelkgekaaGreatW.PrintLast Go.Proofs.YtjngnigelkgekaaGreatW.PrintMore Go.Proofs.YtjngnigelkgekaaGreat.Kit Go.Proofs.YtjngnigelkgekaaGreat.Plain Go.Proofs.YtjngnigelkgekaaGreat.Disk Go.Proofs.YtjngnigelkgekaaGreat.Root
open Go.Proofs.YtjngnigelkgekaaGreat.Delta (Chg KC deltaF rightF okF undeltaF)
open Go.Proofs.YtjngnigelkgekaaGreat.Redo (recR logF logF_bytes)
open Go.Proofs.YtjngnigelkgekaaGreat.Home (pagesF pageF putP mayF atF may_in)
open Go.Proofs.YtjngnigelkgekaaGreat.Frame (frameF frameF_len readF scanF scanR ScanAt scan_start scan_none scan_some recsF longs longs_app recs_bytes scan_facts recs_len longs_len)
open Go.Proofs.YtjngnigelkgekaaGreat.Sum (getF_put sumF_in)
theorem read_frame {ep sq : Int} {b : List Int} (rest : List Int) (he : 0 ≤ ep ∧ ep ≤ 4294967295) (hs : 0 ≤ sq ∧ sq ≤ 4294967295) (hl : b.length ≤ 1000000) : readF (frameF ep sq b ++ rest) ep sq = some b := by
  obtain ⟨h, hh⟩ : ∃ h, put4 ep ++ put4 sq ++ put4 (b.length : Int) ++ b = h := ⟨_, rfl⟩
  have hf : frameF ep sq b = h ++ put4 (sumF h) := by rw [← hh]; rfl
  have hhl : h.length = 12 + b.length := by rw [← hh]; simp [put4]; omega
  have e0 : getF (frameF ep sq b ++ rest) 0 = ep := by
    rw [hf, ← hh]
    have := getF_put [] (put4 sq ++ (put4 (b.length : Int) ++ (b ++ (put4 (sumF h) ++ rest)))) he.1 he.2
    rw [← hh] at this
    simpa using this
  have e4 : getF (frameF ep sq b ++ rest) 4 = sq := by
    rw [hf, ← hh]
    have := getF_put (put4 ep) (put4 (b.length : Int) ++ (b ++ (put4 (sumF h) ++ rest))) hs.1 hs.2
    rw [← hh] at this
    have l1 : (put4 ep).length = 4 := rfl
    simpa [l1] using this
  have e8 : getF (frameF ep sq b ++ rest) 8 = (b.length : Int) := by
    rw [hf, ← hh]
    have := getF_put (put4 ep ++ put4 sq) (b ++ (put4 (sumF h) ++ rest)) (m := (b.length : Int)) (by omega) (by omega)
    rw [← hh] at this
    have l1 : (put4 ep).length = 4 := rfl
    have l2 : (put4 sq).length = 4 := rfl
    simpa [l1, l2] using this
  have ht : (frameF ep sq b ++ rest).take (12 + b.length) = h := by
    rw [hf, List.append_assoc, ← hhl, List.take_left]
  have e12 : getF (frameF ep sq b ++ rest) ((12 + b.length : Nat) : Int) = sumF h := by
    have hr := sumF_in h
    have := getF_put h rest hr.1 hr.2
    rw [hf, ← hhl, List.append_assoc]
    exact this
  have htl : (frameF ep sq b ++ rest).length = 16 + b.length + rest.length := by rw [List.length_append, frameF_len]
  unfold readF
  rw [e8, Int.toNat_natCast, e0, e4, e12, ht]
  rw [if_pos ⟨by omega, rfl, rfl, by omega, rfl⟩]
  congr 1
  rw [← hh]
  exact List.drop_left' rfl
theorem read_other {l : List Int} {ep sq : Int} (h : getF l 0 ≠ ep) : readF l ep sq = none := by
  unfold readF
  exact if_neg (fun h2 => h h2.2.1)
theorem getF_zeros (m : Nat) : getF (List.replicate m 0) 0 = 0 := by
  unfold getF
  split
  · rfl
  · have : ∀ i : Int, rd (List.replicate m 0) i = 0 := fun i => by
      unfold rd
      rw [List.getD_eq_getElem?_getD, List.getElem?_replicate]
      split <;> rfl
    rw [this, this, this, this]; rfl
theorem rev_ind {α : Type} {P : List α → Prop} (h0 : P []) (h1 : ∀ l x, P l → P (l ++ [x])) : ∀ l, P l := fun l => by
  have : ∀ r : List α, P r.reverse := fun r => by
    induction r with
    | nil => exact h0
    | cons x t ih => rw [List.reverse_cons]; exact h1 _ _ ih
  have h := this l.reverse
  rwa [List.reverse_reverse] at h
def framesF (ep : Int) (bs : List (List Int)) : List Int := (List.range bs.length).flatMap (fun i : Nat => frameF ep (i : Int) (bs.getD i []))
theorem framesF_snoc (ep : Int) (bs : List (List Int)) (b : List Int) : framesF ep (bs ++ [b]) = framesF ep bs ++ frameF ep (bs.length : Int) b := by
  unfold framesF
  rw [List.length_append, List.length_singleton, List.range_succ, List.flatMap_append]
  congr 1
  · have : ∀ i ∈ List.range bs.length, frameF ep (i : Int) ((bs ++ [b]).getD i []) = frameF ep (i : Int) (bs.getD i []) := fun i hi => by
      have := List.mem_range.1 hi
      rw [List.getD_eq_getElem?_getD, List.getD_eq_getElem?_getD, List.getElem?_append_left this]
    rw [List.flatMap_def, List.flatMap_def, List.map_congr_left this]
  · simp
theorem framesF_len (ep : Int) : ∀ (bs : List (List Int)), (framesF ep bs).length = longs bs := by
  refine rev_ind ?_ (fun bs b ih => ?_)
  · rfl
  · rw [framesF_snoc, List.length_append, ih, frameF_len, longs_app]
    simp [longs]
theorem framesF_bytes (ep : Int) : ∀ (bs : List (List Int)), (∀ b ∈ bs, Bytes b) → Bytes (framesF ep bs) := by
  refine rev_ind ?_ (fun bs b ih => ?_)
  · intro _; exact Bytes.nil
  · intro h
    rw [framesF_snoc]
    exact (ih (fun x hx => h x (List.mem_append_left _ hx))).app (Frame.frameF_bytes _ _ (h b (List.mem_append_right _ (List.mem_singleton.2 rfl))))
theorem scan_frames {ep : Int} (he : 0 ≤ ep ∧ ep ≤ 4294967295) : ∀ (bs : List (List Int)) (rest : List Int), (∀ b ∈ bs, Bytes b) → Bytes rest → (∀ b ∈ bs, b.length ≤ 1000000) → bs.length ≤ 1000000 → ∃ f, ScanAt (framesF ep bs ++ rest) ep bs (longs bs) f := by
  refine rev_ind ?_ (fun bs b ih => ?_)
  · intro rest _ _ _ _; exact ⟨_, scan_start _ _⟩
  · intro rest hb hr hl hn
    have hb1 : ∀ x ∈ bs, Bytes x := fun x hx => hb x (List.mem_append_left _ hx)
    have hb2 := hb b (List.mem_append_right _ (List.mem_singleton.2 rfl))
    have hl2 := hl b (List.mem_append_right _ (List.mem_singleton.2 rfl))
    rw [List.length_append, List.length_singleton] at hn
    obtain ⟨f, hf⟩ := ih (frameF ep (bs.length : Int) b ++ rest) hb1 ((Frame.frameF_bytes _ _ hb2).app hr) (fun x hx => hl x (List.mem_append_left _ hx)) (by omega)
    rw [← List.append_assoc, ← framesF_snoc] at hf
    have hall : Bytes (framesF ep (bs ++ [b]) ++ rest) := (framesF_bytes ep _ hb).app hr
    have hd : (framesF ep (bs ++ [b]) ++ rest).drop (longs bs) = frameF ep (bs.length : Int) b ++ rest := by
      rw [framesF_snoc, List.append_assoc]
      exact List.drop_left' (framesF_len ep bs)
    have h2 := (scan_some hf hall (x := b) (by rw [hd]; exact read_frame rest he ⟨by omega, by omega⟩ hl2)).1
    rw [longs_app, show longs [b] = 16 + b.length by simp [longs]]
    exact ⟨_, h2⟩
theorem scan_framed {ep : Int} (he : 0 ≤ ep ∧ ep ≤ 4294967295) {bs : List (List Int)} {rest : List Int} (hb : ∀ b ∈ bs, Bytes b) (hr : Bytes rest) (hl : ∀ b ∈ bs, b.length ≤ 1000000) (hn : bs.length ≤ 1000000) (hno : readF rest ep (bs.length : Int) = none) : scanR (framesF ep bs ++ rest) ep = (bs, longs bs) := by
  obtain ⟨f, hf⟩ := scan_frames he bs rest hb hr hl hn
  exact scan_none hf (by rw [List.drop_left' (framesF_len ep bs)]; exact hno)
theorem recs_deltas {P : Int} : ∀ (ls : List (List Chg)), (∀ l ∈ ls, rightF l P = true) → (recsF P (ls.map deltaF)).1 = ls
  | [], _ => rfl
  | l :: t, h => by
    have h1 := undelta_delta (h l (List.mem_cons_self ..))
    rw [List.map_cons]
    simp only [recsF, h1]
    rw [recs_deltas t (fun x hx => h x (List.mem_cons_of_mem _ hx))]
end Go.Proofs.YtjngnigelkgekaaGreat.Store
namespace Go.Proofs.YtjngnigelkgekaaGreat.Store
open Go.RowKit Go.Proofs.YtjngnigelkgekaaGreatW.PrintWords Go.Proofs.YtjngnigelkgekaaGreatW.PrintLast Go.Proofs.YtjngnigelkgekaaGreatW.PrintMore Go.Proofs.YtjngnigelkgekaaGreat.Kit Go.Proofs.YtjngnigelkgekaaGreat.Plain Go.Proofs.YtjngnigelkgekaaGreat.Disk Go.Proofs.YtjngnigelkgekaaGreat.Root
open Go.Proofs.YtjngnigelkgekaaGreat.Delta (Chg KC deltaF rightF okF undeltaF)
open Go.Proofs.YtjngnigelkgekaaGreat.Redo (recR logF logF_bytes)
open Go.Proofs.YtjngnigelkgekaaGreat.Home (pagesF pageF putP mayF atF may_in)
open Go.Proofs.YtjngnigelkgekaaGreat.Frame (frameF frameF_len readF scanF scanR ScanAt scan_start scan_none scan_some recsF longs longs_app recs_bytes scan_facts recs_len longs_len)
structure Lay (n a b : Nat) (E : Int) (L : List Int) : Prop where
  len : L.length = 64 * n
  byt : Bytes L
  rgt : 1 ≤ a ∧ a ≤ 64 ∧ 1 ≤ b ∧ b ≤ 64 ∧ 2 + a + b ≤ n ∧ 1 ≤ E ∧ E ≤ 4294967295
  rt : sec L (E % 2).toNat = rootF (a : Int) (b : Int) E
  ot : ∀ r, unrootF (sec L ((E + 1) % 2).toNat) = some r → r.2.2 < E
theorem Lay.right {n a b : Nat} {E : Int} {L : List Int} (h : Lay n a b E L) : rightR (a : Int) (b : Int) E n = true := by
  have := h.rgt
  unfold rightR
  rw [decide_eq_true_eq]
  omega
theorem secF_no {n : Nat} {L : List Int} {j : Nat} (h : j < n) : secF n L noW j = sec L j := by
  unfold secF
  rw [if_pos h]; rfl
theorem Lay.unroot {n a b : Nat} {E : Int} {L : List Int} (h : Lay n a b E L) : unrootF (sec L (E % 2).toNat) = some ((a : Int), (b : Int), E) := by
  have := h.rgt
  rw [h.rt]
  exact unroot_root (by omega) (by omega) (by omega) (by omega) (by omega) (by omega)
theorem pick_take {n : Int} {best r : R3} {l : List Int} (h : unrootF l = some r) (hr : rightR r.1 r.2.1 r.2.2 n = true) (hb : best.2.2 < r.2.2) : pickF n best l = r := by
  unfold pickF
  rw [h]
  exact if_pos ⟨hr, hb⟩
theorem pick_keep {n : Int} {best : R3} {l : List Int} (h : ∀ r, unrootF l = some r → r.2.2 ≤ best.2.2) : pickF n best l = best := by
  unfold pickF
  cases hu : unrootF l with
  | none => rfl
  | some r => exact if_neg (fun h2 => by have := h r hu; omega)
theorem pick_low {n : Int} {l : List Int} {E : Int} (hE : 0 < E) (h : ∀ r, unrootF l = some r → r.2.2 < E) : (pickF n (0, 0, 0) l).2.2 < E := by
  unfold pickF
  cases hu : unrootF l with
  | none => exact hE
  | some r =>
    dsimp only
    split
    · exact h r hu
    · exact hE
theorem Lay.best {n a b : Nat} {E : Int} {L : List Int} (h : Lay n a b E L) : bestTo (n : Int) (secF n L noW) 2 = ((a : Int), (b : Int), E) := by
  have hr := h.rgt
  show pickF (n : Int) (pickF (n : Int) (0, 0, 0) (secF n L noW 0)) (secF n L noW 1) = _
  rw [secF_no (by omega), secF_no (by omega)]
  have hrt := h.right
  have hu := h.unroot
  have ho := h.ot
  rcases (show E % 2 = 0 ∨ E % 2 = 1 by omega) with h0 | h0
  · have h1 : (E + 1) % 2 = 1 := by omega
    rw [h0] at hu
    rw [h1] at ho
    rw [show pickF (n : Int) (0, 0, 0) (sec L 0) = ((a : Int), (b : Int), E) from pick_take hu hrt (by show (0 : Int) < E; omega)]
    exact pick_keep (fun r h2 => Int.le_of_lt (ho r h2))
  · have h1 : (E + 1) % 2 = 0 := by omega
    rw [h0] at hu
    rw [h1] at ho
    exact pick_take hu hrt (pick_low (E := E) (by omega) ho)
theorem Lay.pages {n a b : Nat} {E : Int} {L : List Int} (h : Lay n a b E L) : pagesF n L noW (a : Int) (b : Int) E = (List.range b).map (fun i : Nat => sec L (2 + a + i)) := by
  have hr := h.rgt
  unfold pagesF
  rw [if_pos h.right, Int.toNat_natCast]
  refine List.map_congr_left (fun i hi => ?_)
  have hi := List.mem_range.1 hi
  unfold pageF mayF
  rw [h.right, decide_eq_true (show (0 : Int) ≤ (i : Int) by omega), decide_eq_true (show (i : Int) < (b : Int) by omega)]
  show secF n L noW (atF (a : Int) (i : Int)) = _
  rw [show atF (a : Int) (i : Int) = 2 + a + i by unfold atF; omega]
  exact secF_no (by omega)
theorem Lay.log {n a b : Nat} {E : Int} {L : List Int} (h : Lay n a b E L) : logF n L noW (a : Int) (b : Int) E = secs a (fun i => sec L (2 + i)) := by
  have hr := h.rgt
  unfold logF
  rw [if_pos h.right, Int.toNat_natCast]
  exact secs_congr (fun i hi => secF_no (by omega))
theorem sec_bytes {L : List Int} (h : Bytes L) (i : Nat) : Bytes (sec L i) := by
  unfold sec
  exact (h.drop _).take _
theorem homeW_at {n a b : Nat} {E : Int} {pages : List (List Int)} (hr : rightR (a : Int) (b : Int) E n = true) (hp : ∀ k : Nat, k < b → (pages.getD k []).length = 64) : ∀ (ks : List Int) (wt : Wt), (∀ k ∈ ks, 0 ≤ k ∧ k < (b : Int)) → ∀ i, homeW n (a : Int) (b : Int) E pages ks wt i = if ∃ k ∈ ks, atF (a : Int) k = i then some (pages.getD (i - (2 + a)) []) else wt i
  | [], wt, _, i => by
    rw [if_neg (by rintro ⟨k, hk, -⟩; cases hk)]
    rfl
  | k :: t, wt, hk, i => by
    have h0 := hk k (List.mem_cons_self ..)
    obtain ⟨j, rfl⟩ := Int.eq_ofNat_of_zero_le h0.1
    show homeW n (a : Int) (b : Int) E pages t _ i = _
    rw [homeW_at hr hp t _ (fun x hx => hk x (List.mem_cons_of_mem _ hx)) i]
    by_cases h1 : ∃ k ∈ t, atF (a : Int) k = i
    · obtain ⟨k2, hk2, he⟩ := h1
      rw [if_pos ⟨k2, hk2, he⟩, if_pos ⟨k2, List.mem_cons_of_mem _ hk2, he⟩]
    · rw [if_neg h1]
      have hm : mayF n (a : Int) (b : Int) E (j : Int) = true := by
        unfold mayF
        rw [hr, decide_eq_true h0.1, decide_eq_true h0.2]; rfl
      have hat := (Home.home_at hm).2
      have hj : j < b := by omega
      have hpl := hp j hj
      unfold putP
      rw [if_pos hm, Int.toNat_natCast]
      unfold putW
      rw [if_pos ⟨hat, hpl⟩]
      by_cases h2 : i = atF (a : Int) (j : Int)
      · rw [if_pos h2, if_pos ⟨_, List.mem_cons_self .., h2.symm⟩]
        rw [h2, show atF (a : Int) (j : Int) - (2 + a) = j by unfold atF; omega]
      · rw [if_neg h2, if_neg]
        rintro ⟨k2, hk2, he⟩
        rcases List.mem_cons.1 hk2 with rfl | hk2
        · exact h2 he.symm
        · exact h1 ⟨k2, hk2, he⟩
theorem m32_nat {a : Nat} (h : a ≤ 64) : m32 (a : Int) = (a : Int) := by unfold m32; omega
theorem homeW_bytes {n : Nat} {a b E : Int} {pages : List (List Int)} (hp : ∀ k : Nat, Bytes (pages.getD k [])) : ∀ (ks : List Int) {wt : Wt}, (∀ i b, wt i = some b → Bytes b) → ∀ i c, homeW n a b E pages ks wt i = some c → Bytes c
  | [], _, h => h
  | k :: t, wt, h => homeW_bytes hp t (by
      unfold putP
      split
      · exact putW_bytes h (hp _)
      · exact h)
theorem getD_bytes {pages : List (List Int)} (hp : ∀ p ∈ pages, Bytes p) (k : Nat) : Bytes (pages.getD k []) := by
  rw [List.getD_eq_getElem?_getD]
  cases h : pages[k]? with
  | none => exact Bytes.nil
  | some x => exact hp x (List.mem_of_getElem? h)
theorem Lay.chk {n a b : Nat} {E : Int} {L : List Int} (h : Lay n a b E L) (hE : E < 4294967295) {pages : List (List Int)} {named : List Int} (hpl : pages.length = b) (hp : ∀ p ∈ pages, p.length = 64 ∧ Bytes p) (hk : ∀ k ∈ named, 0 ≤ k ∧ k < (b : Int)) (hst : ∀ k : Nat, k < b → (k : Int) ∉ named → pages.getD k [] = sec L (2 + a + k)) :
    Lay n a b (E + 1) (chkL n L noW (a : Int) (b : Int) E pages named) ∧ (∀ k : Nat, k < b → sec (chkL n L noW (a : Int) (b : Int) E pages named) (2 + a + k) = pages.getD k []) ∧ (∀ i, i < a → sec (chkL n L noW (a : Int) (b : Int) E pages named) (2 + i) = sec L (2 + i)) := by
  have hr := h.rgt
  have hrt := h.right
  have hp1 : ∀ k : Nat, k < b → (pages.getD k []).length = 64 := fun k hk => by
    rw [List.getD_eq_getElem?_getD, List.getElem?_eq_getElem (by omega)]
    exact (hp _ (List.getElem_mem _)).1
  have hp2 := getD_bytes (fun p h => (hp p h).2)
  have hks : ∀ k ∈ sortK named, 0 ≤ k ∧ k < (b : Int) := fun k h2 => hk k ((sortK_perm named).mem_iff.2 h2)
  have hW := homeW_at hrt hp1 (sortK named) noW hks
  have hWl := homeW_len (n := n) (a := (a : Int)) (b := (b : Int)) (c := E) (pages := pages) (sortK named) Ref.none_len
  have hWb := homeW_bytes (n := n) (a := (a : Int)) (b := (b : Int)) (E := E) hp2 (sortK named) no_bytes
  obtain ⟨w1, hw1⟩ : ∃ w, homeW n (a : Int) (b : Int) E pages (sortK named) noW = w := ⟨_, rfl⟩
  rw [hw1] at hW hWl hWb
  obtain ⟨L1, hL1⟩ : ∃ L1, flushed L w1 = L1 := ⟨_, rfl⟩
  have hl1 : L1.length = 64 * n := by rw [← hL1]; exact Ref.flushed_len h.len hWl
  have hb1 : Bytes L1 := by rw [← hL1]; exact Redo.flushed_bytes h.byt hWb
  have hs1 : ∀ i, i < n → sec L1 i = (w1 i).getD (sec L i) := fun i hi => by rw [← hL1]; exact Ref.sec_flushed h.len hWl hi
  obtain ⟨p, hpd⟩ : ∃ p, ((E + 1) % 2).toNat = p := ⟨_, rfl⟩
  obtain ⟨q, hqd⟩ : ∃ q, (E % 2).toNat = q := ⟨_, rfl⟩
  have hpq : p < 2 ∧ q < 2 ∧ p ≠ q ∧ ((E + 1 + 1) % 2).toNat = q := by omega
  have hrl := rootF_len (a : Int) (b : Int) (E + 1)
  have hw2 : putW n noW p (rootF (a : Int) (b : Int) (E + 1)) = fun j => if j = p then some (rootF (a : Int) (b : Int) (E + 1)) else noW j := by
    unfold putW
    rw [if_pos ⟨by omega, hrl⟩]
  have hC : chkL n L noW (a : Int) (b : Int) E pages named = flushed L1 (putW n noW p (rootF (a : Int) (b : Int) (E + 1))) := by
    unfold chkL
    rw [m32_nat (by omega), m32_nat (by omega), flushed_none h.len, hpd, hw1, hL1]
  have hl2 : (flushed L1 (putW n noW p (rootF (a : Int) (b : Int) (E + 1)))).length = 64 * n := Ref.flushed_len hl1 (putW_len Ref.none_len)
  have hs2 : ∀ i, i < n → sec (flushed L1 (putW n noW p (rootF (a : Int) (b : Int) (E + 1)))) i = if i = p then rootF (a : Int) (b : Int) (E + 1) else sec L1 i := fun i hi => by
    rw [Ref.sec_flushed hl1 (putW_len Ref.none_len) hi, hw2]
    dsimp only
    split <;> rfl
  have hlow : ∀ i, i < 2 + a → sec L1 i = sec L i := fun i hi => by
    rw [hs1 i (by omega), hW i, if_neg]
    · rfl
    · rintro ⟨k, hk2, he⟩
      have := hks k hk2
      unfold atF at he
      omega
  rw [hC]
  refine ⟨⟨hl2, Redo.flushed_bytes hb1 (putW_bytes no_bytes (rootF_bytes _ _ _)), by omega, ?_, ?_⟩, fun k hk2 => ?_, fun i hi => ?_⟩
  · rw [hpd, hs2 p (by omega), if_pos rfl]
  · rw [hpq.2.2.2, hs2 q (by omega), if_neg (by omega), hlow q (by omega), ← hqd, h.unroot]
    intro r hr2
    cases hr2
    show E < E + 1
    omega
  · rw [hs2 _ (by omega), if_neg (by omega), hs1 _ (by omega), hW]
    by_cases hn : (k : Int) ∈ named
    · rw [if_pos ⟨(k : Int), (sortK_perm named).mem_iff.1 hn, by unfold atF; omega⟩, show 2 + a + k - (2 + a) = k by omega]
      rfl
    · rw [if_neg]
      · exact (hst k hk2 hn).symm
      · rintro ⟨k2, hk3, he⟩
        have h5 := hks k2 hk3
        have : k2 = (k : Int) := by unfold atF at he; omega
        subst this
        exact hn ((sortK_perm named).mem_iff.2 hk3)
  · rw [hs2 _ (by omega), if_neg (by omega), hlow _ (by omega)]
end Go.Proofs.YtjngnigelkgekaaGreat.Store
namespace Go.Proofs.YtjngnigelkgekaaGreat.Deed
open Go.RowKit Go.Proofs.YtjngnigelkgekaaGreat.Kit Go.Proofs.YtjngnigelkgekaaGreat.Disk Go.Proofs.YtjngnigelkgekaaGreat.Plain Go.Proofs.YtjngnigelkgekaaGreat.Root
open Go.Proofs.YtjngnigelkgekaaGreat.Home (putP mayF atF)
open Go.Proofs.YtjngnigelkgekaaGreat.Store (homeW homeW_at chkL sortK sortK_perm)
def homeD (a : Nat) (pages : List (List Int)) (l : List Nat) : List Dd := l.map (fun p => some (2 + a + p, pages.getD p []))
def rootD (a b : Nat) (E : Int) : Dd := some (((E + 1) % 2).toNat, rootF (m32 (a : Int)) (m32 (b : Int)) (E + 1))
def chkD (a b : Nat) (E : Int) (pages : List (List Int)) (l : List Nat) : List Dd := none :: (homeD a pages l ++ [none, rootD a b E, none])
theorem homeD_len (a : Nat) (pages : List (List Int)) (l : List Nat) : (homeD a pages l).length = l.length := by unfold homeD; rw [List.length_map]
theorem chkD_len (a b : Nat) (E : Int) (pages : List (List Int)) (l : List Nat) : (chkD a b E pages l).length = l.length + 4 := by
  unfold chkD; rw [List.length_cons, List.length_append, homeD_len]; rfl
theorem homeD_snoc (a : Nat) (pages : List (List Int)) (l : List Nat) (k : Nat) : homeD a pages (l ++ [k]) = homeD a pages l ++ [some (2 + a + k, pages.getD k [])] := by unfold homeD; rw [List.map_append]; rfl
section
variable {n a b : Nat} {E : Int} {pages : List (List Int)}
theorem homeD_ok (hr : rightR (a : Int) (b : Int) E n = true) (hp : ∀ k : Nat, k < b → (pages.getD k []).length = 64) {l : List Nat} (hl : ∀ k ∈ l, k < b) : OkD n (homeD a pages l) := fun i x hm => by
  unfold homeD at hm
  obtain ⟨k, hk, he⟩ := List.mem_map.1 hm
  injection he with he
  injection he with h1 h2
  have h3 := hl k hk
  have h4 := of_decide_eq_true hr
  subst h1 h2
  exact ⟨by omega, hp k h3⟩
theorem chkD_ok (hr : rightR (a : Int) (b : Int) E n = true) (hp : ∀ k : Nat, k < b → (pages.getD k []).length = 64) {l : List Nat} (hl : ∀ k ∈ l, k < b) : OkD n (chkD a b E pages l) := fun i x hm => by
  unfold chkD at hm
  rcases List.mem_cons.1 hm with hm | hm
  · cases hm
  rcases List.mem_append.1 hm with hm | hm
  · exact homeD_ok hr hp hl i x hm
  have h4 := of_decide_eq_true hr
  rcases List.mem_cons.1 hm with hm | hm
  · cases hm
  rcases List.mem_cons.1 hm with hm | hm
  · unfold rootD at hm
    injection hm with he
    injection he with h1 h2
    subst h1 h2
    exact ⟨by omega, rootF_len _ _ _⟩
  · cases List.mem_singleton.1 hm
theorem homeD_run (hr : rightR (a : Int) (b : Int) E n = true) (hp : ∀ k : Nat, k < b → (pages.getD k []).length = 64) : ∀ (l : List Nat) (L : List Int) (w : Wt), (∀ k ∈ l, k < b) → runD (L, w) (homeD a pages l) = (L, homeW n (a : Int) (b : Int) E pages (l.map (fun k : Nat => (k : Int))) w)
  | [], L, w, _ => rfl
  | k :: t, L, w, hl => by
    have hk := hl k (List.mem_cons_self ..)
    have hm : mayF n (a : Int) (b : Int) E (k : Int) = true := by
      unfold mayF
      rw [hr, decide_eq_true (show (0 : Int) ≤ (k : Int) by omega), decide_eq_true (show (k : Int) < (b : Int) by omega)]; rfl
    have h4 := of_decide_eq_true hr
    have hat : atF (a : Int) (k : Int) = 2 + a + k := by unfold atF; omega
    have hpk : putP n w (a : Int) (b : Int) E (k : Int) (pages.getD (k : Int).toNat []) = fun j => if j = 2 + a + k then some (pages.getD k []) else w j := by
      unfold putP putW
      rw [if_pos hm, hat, Int.toNat_natCast, if_pos ⟨by omega, hp k hk⟩]
    show runD (doD (L, w) (some (2 + a + k, pages.getD k []))) (homeD a pages t) = (L, homeW n (a : Int) (b : Int) E pages (t.map (fun k : Nat => (k : Int))) (putP n w (a : Int) (b : Int) E (k : Int) (pages.getD (k : Int).toNat [])))
    rw [hpk]
    exact homeD_run hr hp t L _ (fun x hx => hl x (List.mem_cons_of_mem _ hx))
theorem chkD_run (hr : rightR (a : Int) (b : Int) E n = true) (hp : ∀ k : Nat, k < b → (pages.getD k []).length = 64) {named : List Int} {nm : List Bool} (hks : ∀ k ∈ named, 0 ≤ k ∧ k < (b : Int)) (hnm : ∀ k : Nat, k < b → ((k : Int) ∈ named ↔ nm.getD k false = true)) (las : List Int) (wt : Wt) :
    runD (las, wt) (chkD a b E pages ((List.range b).filter (fun i => nm.getD i false))) = (chkL n las wt (a : Int) (b : Int) E pages named, fun _ => none) := by
  have hl : ∀ k ∈ (List.range b).filter (fun i => nm.getD i false), k < b := fun k hk => List.mem_range.1 (List.mem_filter.1 hk).1
  have h4 := of_decide_eq_true hr
  unfold chkD
  show runD (flushed las wt, fun _ => none) (homeD a pages _ ++ _) = _
  rw [runD_append, homeD_run hr hp _ _ _ hl]
  have hW : homeW n (a : Int) (b : Int) E pages (((List.range b).filter (fun i => nm.getD i false)).map (fun k : Nat => (k : Int))) (fun _ => none) = homeW n (a : Int) (b : Int) E pages (sortK named) (fun _ => none) := by
    funext i
    rw [homeW_at hr hp _ _ (fun k hk => by
      obtain ⟨j, hj, rfl⟩ := List.mem_map.1 hk
      have := hl j hj
      omega) i, homeW_at hr hp _ _ (fun k hk => hks k ((sortK_perm named).mem_iff.2 hk)) i]
    have he : (∃ k ∈ ((List.range b).filter (fun i => nm.getD i false)).map (fun k : Nat => (k : Int)), atF (a : Int) k = i) ↔ (∃ k ∈ sortK named, atF (a : Int) k = i) := by
      constructor
      · rintro ⟨k, hk, hi⟩
        obtain ⟨j, hj, rfl⟩ := List.mem_map.1 hk
        exact ⟨_, (sortK_perm named).mem_iff.1 ((hnm j (hl j hj)).2 (List.mem_filter.1 hj).2), hi⟩
      · rintro ⟨k, hk, hi⟩
        have h1 := (sortK_perm named).mem_iff.2 hk
        have h2 := hks k h1
        obtain ⟨j, rfl⟩ := Int.eq_ofNat_of_zero_le h2.1
        exact ⟨_, List.mem_map.2 ⟨j, List.mem_filter.2 ⟨List.mem_range.2 (by omega), (hnm j (by omega)).1 h1⟩, rfl⟩, hi⟩
    simp only [he]
  rw [hW]
  have hput : putW n (fun _ => none) ((E + 1) % 2).toNat (rootF (m32 (a : Int)) (m32 (b : Int)) (E + 1)) = fun j => if j = ((E + 1) % 2).toNat then some (rootF (m32 (a : Int)) (m32 (b : Int)) (E + 1)) else none := by
    unfold putW; rw [if_pos ⟨by omega, rootF_len _ _ _⟩]
  unfold chkL
  rw [hput]
  rfl
end
end Go.Proofs.YtjngnigelkgekaaGreat.Deed
