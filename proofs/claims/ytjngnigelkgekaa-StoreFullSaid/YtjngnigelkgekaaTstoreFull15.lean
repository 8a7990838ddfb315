/- StCommit2, StKnown, StMost, UnDelta: what StoreFull needs. -/
import Derived.Test.YtjngnigelkgekaaTstoreFull14
namespace Go.Proofs.Ytjngnigelkgekaa.Store
set_option linter.unusedVariables false
set_option linter.unusedSimpArgs false
open Go.RowKit Go.Proofs.YtjngnigelkgekaaW.PrintWords Go.Proofs.YtjngnigelkgekaaW.PrintLast Go.Proofs.YtjngnigelkgekaaW.PrintMore Go.Proofs.Ytjngnigelkgekaa.Kit Go.Proofs.Ytjngnigelkgekaa.Plain Go.Proofs.Ytjngnigelkgekaa.Disk Go.Proofs.Ytjngnigelkgekaa.Root
open Go.Proofs.Ytjngnigelkgekaa.Delta (Chg KC deltaF rightF okF right_ needF)
open Go.Proofs.Ytjngnigelkgekaa.Frame (frameF frameF_len frameF_bytes fbytes_)
open Go.Proofs.Ytjngnigelkgekaa.Redo (appR okA append_ sizeF)
theorem cm_nums {u k sq : Nat} (h : u + k ≤ 4096) (hs : sq ≤ 1000000) : wrap64 ((u : Int) + (k : Int)) = ((u + k : Nat) : Int) ∧ IntKind.u32.wrap ((sq : Int) + 1) = ((sq + 1 : Nat) : Int) := ⟨by rw [IntWalk.wrap64_in _ (by omega)]; omega, by rw [IntKind.wrap_u32]; omega⟩
section
variable {w0 W : World} {F : List HP} {gs g m n : Nat} {a b ep : Int} {pages : List (List Int)} {named : List Int} {used seq : Nat} {las : List Int} {wt : Wt}
set_option maxHeartbeats 3200000 in
set_option maxRecDepth 100000 in
theorem commit_ok (h : Sep w0 W (StB gs g m a b ep pages named used seq :: Dsk g las wt :: F)) (hl : las.length = 64 * n) (hn : n ≤ 160) (hw : ∀ i b, wt i = some b → b.length = 64) {A2 : Option Addr} {n2 c2 : Nat} {l : List Chg} (hC : ∀ W', Sep w0 W' F → KC.C W' A2 n2 l) (hr : rightF l b = true) (hu : (used : Int) ≤ sizeF a) (hf : fitsF a used n2 = true)
    (hep : 0 ≤ ep ∧ ep ≤ 4294967295) (hsq : seq ≤ 1000000) (hpn : pages.length ≤ 100000) (hp : ∀ p ∈ pages, p.length ≤ 1000000) (hnl : named.length ≤ 100000) :
    Calls Try.prog 33 #[.pointer (some ⟨gs, 0, none⟩), .slice A2 n2 c2] W fun e w' => e = .returned (.int .i64 0) ∧ Sep w0 w' (StB gs g m a b ep (applyF pages l) (insAll named l) (used + (18 + 66 * n2)) (seq + 1) :: Dsk g las (appR n las wt a b ep (used : Int) (frameF ep (seq : Int) (deltaF l))) :: F) := by
  have hC0 := hC W h.tail.tail
  have hln := hC0.1
  obtain ⟨A, c, hs⟩ := stb_open h
  obtain ⟨N, hN⟩ : ∃ N, pages.length = N := ⟨_, rfl⟩
  rw [hN] at hs hpn
  have hs1 := Redo.sizeF_in a
  have hfi := fits_in hf
  have hok : okF b (-1) l = true := by
    have h2 := hr
    unfold rightF at h2
    rw [Bool.and_eq_true] at h2
    exact h2.2
  have hall := right_all hok (by decide)
  have hdl : (deltaF l).length = 2 + 66 * n2 := by
    unfold deltaF
    rw [List.length_append, Redo.okF_len hok, hln]; rfl
  have HFL : Aside0 ((frameF ep (seq : Int) (deltaF l)).length = 18 + 66 * n2) := ⟨by rw [frameF_len, hdl]; omega⟩
  have HS := Aside0.mk hs
  have HC := Aside0.mk hC
  have HR := Aside0.mk hr
  have HU := Aside0.mk hu
  have HF := Aside0.mk hf
  have HL := Aside0.mk (And.intro hl (And.intro hn hw))
  have HDL := Aside0.mk hdl
  have HN2 := Aside0.mk hfi.1
  have HN := Aside0.mk hN
  have HP := Aside0.mk (And.intro hpn hp)
  have HEP := Aside0.mk hep
  have HSQ := Aside0.mk hsq
  have HLN := Aside0.mk hln
  have HAL : Aside0 (∀ x ∈ l, x.2.length ≤ 1000000 ∧ -9223372036854775808 ≤ x.1 ∧ x.1 ≤ 9223372036854775807) := ⟨fun x hx => by
    have h1 := hall x hx
    have hb64 : b ≤ 64 := by
      have h2 := hr
      unfold rightF at h2
      rw [Bool.and_eq_true, decide_eq_true_eq] at h2
      exact h2.1
    exact ⟨by omega, by omega, by omega⟩⟩
  have HNL := Aside0.mk hnl
  obtain ⟨e1, e2⟩ := cm_nums (u := used) (k := 18 + 66 * n2) (sq := seq) (by have := hfi.2; have := hs1.2; omega) hsq
  obtain ⟨KF, hK_⟩ : ∃ K, 18 + 66 * n2 = K := ⟨_, rfl⟩
  rw [hK_] at e1 HFL
  have HKK := Aside0.mk hK_
  obtain ⟨U2, hU2⟩ : ∃ u, used + KF = u := ⟨_, rfl⟩
  obtain ⟨S2, hS2⟩ : ∃ u, seq + 1 = u := ⟨_, rfl⟩
  rw [hU2] at e1
  rw [hS2] at e2
  have HU2 := Aside0.mk hU2
  have HS2 := Aside0.mk hS2
  have hn64 : n2 ≤ 64 := hfi.1
  have z2 := (hs.cell 2).trans rfl
  clear h hs hC hC0 hr hu hf hl hn hw hln hN hs1 hfi hok hall hdl hK_ hU2 hS2 hpn hp hnl hep hsq
  go_enter Try.func33, Try.ntmps33
  go_wp2_with fail
  refine (right_ (HC.out _ HS.out.tail.tail.tail.tail) b).mono ?_
  rintro e w1 ⟨rfl, hb1⟩
  rw [HR.out]
  have B1 := Aside0.mk (HS.out.below hb1).drew
  clear hb1 z2
  go_wp2_with fail
  refine start_ (n := 13) (S := fun w' => w'.cell? ⟨gs, 1, none⟩ = some (.int .i64 a) ∧ w'.cell? ⟨gs, 2, none⟩ = some (.int .i64 b) ∧ w'.cell? ⟨gs, 3, none⟩ = some (.int .u32 ep) ∧ w'.cell? ⟨gs, 6, none⟩ = some (.int .i64 (used : Int))) (ds := [10]) #[false, false, false, false, false, false, false, false, false, false, false, false, false] (by kernel_rfl) rfl rfl ⟨(B1.out.cell 1).trans rfl, (B1.out.cell 2).trans rfl, (B1.out.cell 3).trans rfl, (B1.out.cell 6).trans rfl⟩ (fun hHeld => ?_)
  refine pure_ (i := 0) (N := some 18) (v := ?_) (a' := ?_) #[true, false, false, false, false, false, false, false, false, false, false, false, false] rfl rfl (by kernel_rfl) (fun _ _ _ h => h) (Or.inl ⟨by rfl, ?_⟩) ?_ ?_
  rotate_left
  · intro w'
    go_simp
    with_reducible rfl
  rotate_left
  · simp only [Act.put, List.setIfInBounds_toArray, List.set_cons_zero, List.set_cons_succ, i64_w, i32_w]
    rfl
  refine pure_ (i := 1) (N := some 19) (v := ?_) (a' := ?_) #[true, true, false, false, false, false, false, false, false, false, false, false, false] rfl rfl (by kernel_rfl) (fun _ _ _ h => h) (Or.inl ⟨by rfl, ?_⟩) ?_ ?_
  rotate_left
  · intro w'
    go_simp
    with_reducible rfl
  rotate_left
  · simp only [Act.put, List.setIfInBounds_toArray, List.set_cons_zero, List.set_cons_succ, i64_w, i32_w]
    rfl
  refine pure_ (i := 2) (N := some 20) (v := ?_) (a' := ?_) #[true, true, true, false, false, false, false, false, false, false, false, false, false] rfl rfl (by kernel_rfl) (fun _ _ _ h => h) (Or.inl ⟨by rfl, ?_⟩) ?_ ?_
  rotate_left
  · intro w'
    go_simp
    with_reducible rfl
  rotate_left
  · simp only [Act.put, List.setIfInBounds_toArray, List.set_cons_zero, List.set_cons_succ, i64_w, i32_w]
    rfl
  refine pure_ (i := 4) (N := some 22) (v := ?_) (a' := ?_) #[true, true, true, false, true, false, false, false, false, false, false, false, false] rfl rfl (by kernel_rfl) (fun _ _ _ h => h) (Or.inl ⟨by rfl, ?_⟩) ?_ ?_
  rotate_left
  · intro w'
    go_simp
    with_reducible rfl
  rotate_left
  · simp only [Act.put, List.setIfInBounds_toArray, List.set_cons_zero, List.set_cons_succ, i64_w, i32_w]
    rfl
  refine pure_ (i := 5) (N := some 23) (v := ?_) (a' := ?_) #[true, true, true, false, true, true, false, false, false, false, false, false, false] rfl rfl (by kernel_rfl) (fun _ _ _ h => h) (Or.inl ⟨by rfl, ?_⟩) ?_ ?_
  rotate_left
  · intro w'
    go_simp
    with_reducible rfl
  rotate_left
  · simp only [Act.put, List.setIfInBounds_toArray, List.set_cons_zero, List.set_cons_succ, i64_w, i32_w]
    rfl
  refine pure_ (i := 6) (N := some 24) (v := ?_) (a' := ?_) #[true, true, true, false, true, true, true, false, false, false, false, false, false] rfl rfl (by kernel_rfl) (fun _ _ _ h => h) (Or.inl ⟨by rfl, ?_⟩) ?_ ?_
  rotate_left
  · intro w'
    go_simp
    with_reducible rfl
  rotate_left
  · simp only [Act.put, List.setIfInBounds_toArray, List.set_cons_zero, List.set_cons_succ, i64_w, i32_w]
    rfl
  refine pure_ (i := 8) (N := some 26) (v := ?_) (a' := ?_) #[true, true, true, false, true, true, true, false, true, false, false, false, false] rfl rfl (by kernel_rfl) (fun _ _ _ h => h) (Or.inl ⟨by rfl, ?_⟩) ?_ ?_
  rotate_left
  · intro w'
    go_simp
    with_reducible rfl
  rotate_left
  · simp only [Act.put, List.setIfInBounds_toArray, List.set_cons_zero, List.set_cons_succ, i64_w, i32_w]
    rfl
  refine pure_ (i := 9) (N := some 27) (v := ?_) (a' := ?_) #[true, true, true, false, true, true, true, false, true, true, false, false, false] rfl rfl (by kernel_rfl) (fun _ _ _ h => h) (Or.inl ⟨by rfl, ?_⟩) ?_ ?_
  rotate_left
  · intro w'
    go_simp
    with_reducible rfl
  rotate_left
  · simp only [Act.put, List.setIfInBounds_toArray, List.set_cons_zero, List.set_cons_succ, i64_w, i32_w]
    rfl
  refine take_ (i := 3) (N := some 21) (v := ?_) (a' := ?_) #[true, true, true, true, true, true, true, false, true, true, false, false, false] rfl rfl (by kernel_rfl) (fun _ _ _ h => h) (Or.inl ⟨by rfl, ?_⟩) hHeld ?_ ?_
  rotate_left
  · rintro w' ⟨s0, s1, s2, s3⟩
    go_simp
    with_reducible rfl
  rotate_left
  · simp only [Act.put, List.setIfInBounds_toArray, List.set_cons_zero, List.set_cons_succ, i64_w, i32_w]
    rfl
  refine take_ (i := 7) (N := some 25) (v := ?_) (a' := ?_) #[true, true, true, true, true, true, true, true, true, true, false, false, false] rfl rfl (by kernel_rfl) (fun _ _ _ h => h) (Or.inl ⟨by rfl, ?_⟩) hHeld ?_ ?_
  rotate_left
  · rintro w' ⟨s0, s1, s2, s3⟩
    go_simp
    with_reducible rfl
  rotate_left
  · simp only [Act.put, List.setIfInBounds_toArray, List.set_cons_zero, List.set_cons_succ, i64_w, i32_w]
    rfl
  refine last_ (i := 10) (N := some 28) #[true, true, true, true, true, true, true, true, true, true, true, false, false] rfl rfl (by kernel_rfl) (by decide) (fun K hK => ?_)
  refine goes_ Try.func73 (by kernel_rfl) rfl #[.agg #[.int .i64 a, .int .i64 b, .int .u32 ep], .int .i64 (used : Int), .int .i64 (n2 : Int)] (by rfl) rfl rfl (by simp only [List.map_toArray, List.map_cons, List.map_nil]; rfl) ?_
  with_reducible refine (fits_ a b ep used n2 HU.out _).mono ?_
  rintro e w3 ⟨rfl, hb3⟩
  refine ⟨_, rfl, ?_⟩
  rw [HF.out]
  have B3 := Aside0.mk (B1.out.below hb3).drew
  clear hb3
  refine hK.out _ _ ?_
  clear hK K
  refine norm_ (a' := ?_) ?_ ?_
  rotate_left
  · show Act.put _ (some 28) _ = _
    simp only [Act.put, List.setIfInBounds_toArray, List.set_cons_zero, List.set_cons_succ, i64_w, i32_w]
    rfl
  refine pure_ (i := 11) (N := some 29) (v := ?_) (a' := ?_) #[true, true, true, true, true, true, true, true, true, true, true, true, false] rfl rfl (by kernel_rfl) (fun _ _ _ h => h) (Or.inl ⟨by rfl, ?_⟩) ?_ ?_
  rotate_left
  · intro w'
    go_simp
    with_reducible rfl
  rotate_left
  · simp only [Act.put, List.setIfInBounds_toArray, List.set_cons_zero, List.set_cons_succ, i64_w, i32_w]
    rfl
  refine pure_ (i := 12) (N := some 17) (v := ?_) (a' := ?_) #[true, true, true, true, true, true, true, true, true, true, true, true, true] rfl rfl (by kernel_rfl) (fun _ _ _ h => h) (Or.inl ⟨by rfl, ?_⟩) ?_ ?_
  rotate_left
  · intro w'
    go_simp
    with_reducible rfl
  rotate_left
  · simp only [Act.put, List.setIfInBounds_toArray, List.set_cons_zero, List.set_cons_succ, i64_w, i32_w]
    rfl
  refine done_ (by kernel_rfl) ?_
  go_wp2_with fail
  refine start_ (n := 13) (S := fun w' => w'.cell? ⟨gs, 3, none⟩ = some (.int .u32 ep) ∧ w'.cell? ⟨gs, 7, none⟩ = some (.int .u32 (seq : Int))) (ds := [11]) #[false, false, false, false, false, false, false, false, false, false, false, false, false] (by kernel_rfl) rfl rfl ⟨(B3.out.cell 3).trans rfl, (B3.out.cell 7).trans rfl⟩ (fun hHeld => ?_)
  refine pure_ (i := 0) (N := some 30) (v := ?_) (a' := ?_) #[true, false, false, false, false, false, false, false, false, false, false, false, false] rfl rfl (by kernel_rfl) (fun _ _ _ h => h) (Or.inl ⟨by rfl, ?_⟩) ?_ ?_
  rotate_left
  · intro w'
    go_simp
    with_reducible rfl
  rotate_left
  · simp only [Act.put, List.setIfInBounds_toArray, List.set_cons_zero, List.set_cons_succ, i64_w, i32_w]
    rfl
  refine pure_ (i := 1) (N := some 31) (v := ?_) (a' := ?_) #[true, true, false, false, false, false, false, false, false, false, false, false, false] rfl rfl (by kernel_rfl) (fun _ _ _ h => h) (Or.inl ⟨by rfl, ?_⟩) ?_ ?_
  rotate_left
  · intro w'
    go_simp
    with_reducible rfl
  rotate_left
  · simp only [Act.put, List.setIfInBounds_toArray, List.set_cons_zero, List.set_cons_succ, i64_w, i32_w]
    rfl
  refine pure_ (i := 2) (N := some 32) (v := ?_) (a' := ?_) #[true, true, true, false, false, false, false, false, false, false, false, false, false] rfl rfl (by kernel_rfl) (fun _ _ _ h => h) (Or.inl ⟨by rfl, ?_⟩) ?_ ?_
  rotate_left
  · intro w'
    go_simp
    with_reducible rfl
  rotate_left
  · simp only [Act.put, List.setIfInBounds_toArray, List.set_cons_zero, List.set_cons_succ, i64_w, i32_w]
    rfl
  refine pure_ (i := 3) (N := some 33) (v := ?_) (a' := ?_) #[true, true, true, true, false, false, false, false, false, false, false, false, false] rfl rfl (by kernel_rfl) (fun _ _ _ h => h) (Or.inl ⟨by rfl, ?_⟩) ?_ ?_
  rotate_left
  · intro w'
    go_simp
    with_reducible rfl
  rotate_left
  · simp only [Act.put, List.setIfInBounds_toArray, List.set_cons_zero, List.set_cons_succ, i64_w, i32_w]
    rfl
  refine pure_ (i := 5) (N := some 35) (v := ?_) (a' := ?_) #[true, true, true, true, false, true, false, false, false, false, false, false, false] rfl rfl (by kernel_rfl) (fun _ _ _ h => h) (Or.inl ⟨by rfl, ?_⟩) ?_ ?_
  rotate_left
  · intro w'
    go_simp
    with_reducible rfl
  rotate_left
  · simp only [Act.put, List.setIfInBounds_toArray, List.set_cons_zero, List.set_cons_succ, i64_w, i32_w]
    rfl
  refine pure_ (i := 6) (N := some 36) (v := ?_) (a' := ?_) #[true, true, true, true, false, true, true, false, false, false, false, false, false] rfl rfl (by kernel_rfl) (fun _ _ _ h => h) (Or.inl ⟨by rfl, ?_⟩) ?_ ?_
  rotate_left
  · intro w'
    go_simp
    with_reducible rfl
  rotate_left
  · simp only [Act.put, List.setIfInBounds_toArray, List.set_cons_zero, List.set_cons_succ, i64_w, i32_w]
    rfl
  refine pure_ (i := 7) (N := some 37) (v := ?_) (a' := ?_) #[true, true, true, true, false, true, true, true, false, false, false, false, false] rfl rfl (by kernel_rfl) (fun _ _ _ h => h) (Or.inl ⟨by rfl, ?_⟩) ?_ ?_
  rotate_left
  · intro w'
    go_simp
    with_reducible rfl
  rotate_left
  · simp only [Act.put, List.setIfInBounds_toArray, List.set_cons_zero, List.set_cons_succ, i64_w, i32_w]
    rfl
  refine pure_ (i := 9) (N := some 39) (v := ?_) (a' := ?_) #[true, true, true, true, false, true, true, true, false, true, false, false, false] rfl rfl (by kernel_rfl) (fun _ _ _ h => h) (Or.inl ⟨by rfl, ?_⟩) ?_ ?_
  rotate_left
  · intro w'
    go_simp
    with_reducible rfl
  rotate_left
  · simp only [Act.put, List.setIfInBounds_toArray, List.set_cons_zero, List.set_cons_succ, i64_w, i32_w]
    rfl
  refine take_ (i := 4) (N := some 34) (v := ?_) (a' := ?_) #[true, true, true, true, true, true, true, true, false, true, false, false, false] rfl rfl (by kernel_rfl) (fun _ _ _ h => h) (Or.inl ⟨by rfl, ?_⟩) hHeld ?_ ?_
  rotate_left
  · rintro w' ⟨s0, s1⟩
    go_simp
    with_reducible rfl
  rotate_left
  · simp only [Act.put, List.setIfInBounds_toArray, List.set_cons_zero, List.set_cons_succ, i64_w, i32_w]
    rfl
  refine take_ (i := 8) (N := some 38) (v := ?_) (a' := ?_) #[true, true, true, true, true, true, true, true, true, true, false, false, false] rfl rfl (by kernel_rfl) (fun _ _ _ h => h) (Or.inl ⟨by rfl, ?_⟩) hHeld ?_ ?_
  rotate_left
  · rintro w' ⟨s0, s1⟩
    go_simp
    with_reducible rfl
  rotate_left
  · simp only [Act.put, List.setIfInBounds_toArray, List.set_cons_zero, List.set_cons_succ, i64_w, i32_w]
    rfl
  refine one_ (i := 10) (N := some 40) #[true, true, true, true, true, true, true, true, true, true, true, false, false] rfl rfl (by kernel_rfl) (by decide) (fun K hK => ?_)
  refine goes_ Try.func75 (by kernel_rfl) rfl #[.slice A2 n2 c2] (by rfl) rfl rfl (by simp only [List.map_toArray, List.map_cons, List.map_nil]; rfl) ?_
  with_reducible refine (Delta.bytes_ (HC.out _ B3.out.tail.tail.tail.tail) (by rw [HDL.out]; have := HN2.out; omega)).mono ?_
  rintro e w4 ⟨v4, rfl, hS4⟩
  refine ⟨_, rfl, ?_⟩
  obtain ⟨A4, c4, rfl⟩ := hS4.rowN HDL.out
  have B4 := Aside0.mk (B3.out.lift1 hS4)
  clear hS4
  refine hK.out _ _ ⟨(B4.out.at2.cell 3).trans rfl, (B4.out.at2.cell 7).trans rfl⟩ (fun hHeld => ?_)
  clear hK K
  refine norm_ (a' := ?_) ?_ ?_
  rotate_left
  · show Act.put _ (some 40) _ = _
    simp only [Act.put, List.setIfInBounds_toArray, List.set_cons_zero, List.set_cons_succ, i64_w, i32_w]
    rfl
  refine last_ (i := 11) (N := some 41) #[true, true, true, true, true, true, true, true, true, true, true, true, false] rfl rfl (by kernel_rfl) (by decide) (fun K hK => ?_)
  refine goes_ Try.func74 (by kernel_rfl) rfl #[.int .u32 ep, .int .u32 (seq : Int), .slice A4 (2 + 66 * n2) c4] (by rfl) rfl rfl (by simp only [List.map_toArray, List.map_cons, List.map_nil]; rfl) ?_
  with_reducible refine (fbytes_ B4.out.rowC' (by have := HN2.out; omega) HEP.out (by have := HSQ.out; omega)).mono ?_
  rintro e w5 ⟨v5, rfl, hS5⟩
  refine ⟨_, rfl, ?_⟩
  obtain ⟨fr, hfr⟩ : ∃ f, frameF ep (seq : Int) (deltaF l) = f := ⟨_, rfl⟩
  have HFR := Aside0.mk hfr
  have HFE : Aside0 (fr.length = KF) := ⟨by rw [← hfr]; exact HFL.out⟩
  rw [hfr] at hS5
  obtain ⟨A5, c5, rfl⟩ := hS5.rowN HFE.out
  have hc5 := hS5.rowC.2.1
  have B5 := Aside0.mk (B4.out.tail.lift1 hS5).drew
  clear hS5 hfr
  refine hK.out _ _ ?_
  clear hK K
  refine norm_ (a' := ?_) ?_ ?_
  rotate_left
  · show Act.put _ (some 41) _ = _
    simp only [Act.put, List.setIfInBounds_toArray, List.set_cons_zero, List.set_cons_succ, i64_w, i32_w]
    rfl
  refine pure_ (i := 12) (N := some 5) (v := ?_) (a' := ?_) #[true, true, true, true, true, true, true, true, true, true, true, true, true] rfl rfl (by kernel_rfl) (fun _ _ _ h => h) (Or.inl ⟨by rfl, ?_⟩) ?_ ?_
  rotate_left
  · intro w'
    go_simp
    with_reducible rfl
  rotate_left
  · simp only [Act.put, List.setIfInBounds_toArray, List.set_cons_zero, List.set_cons_succ, i64_w, i32_w]
    rfl
  refine done_ (by kernel_rfl) ?_
  have HC5 := Aside0.mk hc5
  clear hc5
  go_wp2_with fail
  refine start_ (n := 14) (S := fun w' => w'.cell? ⟨gs, 0, none⟩ = some (.pointer (some ⟨g, 0, none⟩)) ∧ w'.cell? ⟨gs, 1, none⟩ = some (.int .i64 a) ∧ w'.cell? ⟨gs, 2, none⟩ = some (.int .i64 b) ∧ w'.cell? ⟨gs, 3, none⟩ = some (.int .u32 ep) ∧ w'.cell? ⟨gs, 6, none⟩ = some (.int .i64 (used : Int))) (ds := [13]) #[false, false, false, false, false, false, false, false, false, false, false, false, false, false] (by kernel_rfl) rfl rfl ⟨(B5.out.at2.cell 0).trans rfl, (B5.out.at2.cell 1).trans rfl, (B5.out.at2.cell 2).trans rfl, (B5.out.at2.cell 3).trans rfl, (B5.out.at2.cell 6).trans rfl⟩ (fun hHeld => ?_)
  refine pure_ (i := 0) (N := some 42) (v := ?_) (a' := ?_) #[true, false, false, false, false, false, false, false, false, false, false, false, false, false] rfl rfl (by kernel_rfl) (fun _ _ _ h => h) (Or.inl ⟨by rfl, ?_⟩) ?_ ?_
  rotate_left
  · intro w'
    go_simp
    with_reducible rfl
  rotate_left
  · simp only [Act.put, List.setIfInBounds_toArray, List.set_cons_zero, List.set_cons_succ, i64_w, i32_w]
    rfl
  refine pure_ (i := 1) (N := some 43) (v := ?_) (a' := ?_) #[true, true, false, false, false, false, false, false, false, false, false, false, false, false] rfl rfl (by kernel_rfl) (fun _ _ _ h => h) (Or.inl ⟨by rfl, ?_⟩) ?_ ?_
  rotate_left
  · intro w'
    go_simp
    with_reducible rfl
  rotate_left
  · simp only [Act.put, List.setIfInBounds_toArray, List.set_cons_zero, List.set_cons_succ, i64_w, i32_w]
    rfl
  refine pure_ (i := 2) (N := some 44) (v := ?_) (a' := ?_) #[true, true, true, false, false, false, false, false, false, false, false, false, false, false] rfl rfl (by kernel_rfl) (fun _ _ _ h => h) (Or.inl ⟨by rfl, ?_⟩) ?_ ?_
  rotate_left
  · intro w'
    go_simp
    with_reducible rfl
  rotate_left
  · simp only [Act.put, List.setIfInBounds_toArray, List.set_cons_zero, List.set_cons_succ, i64_w, i32_w]
    rfl
  refine pure_ (i := 4) (N := some 46) (v := ?_) (a' := ?_) #[true, true, true, false, true, false, false, false, false, false, false, false, false, false] rfl rfl (by kernel_rfl) (fun _ _ _ h => h) (Or.inl ⟨by rfl, ?_⟩) ?_ ?_
  rotate_left
  · intro w'
    go_simp
    with_reducible rfl
  rotate_left
  · simp only [Act.put, List.setIfInBounds_toArray, List.set_cons_zero, List.set_cons_succ, i64_w, i32_w]
    rfl
  refine pure_ (i := 5) (N := some 47) (v := ?_) (a' := ?_) #[true, true, true, false, true, true, false, false, false, false, false, false, false, false] rfl rfl (by kernel_rfl) (fun _ _ _ h => h) (Or.inl ⟨by rfl, ?_⟩) ?_ ?_
  rotate_left
  · intro w'
    go_simp
    with_reducible rfl
  rotate_left
  · simp only [Act.put, List.setIfInBounds_toArray, List.set_cons_zero, List.set_cons_succ, i64_w, i32_w]
    rfl
  refine pure_ (i := 6) (N := some 48) (v := ?_) (a' := ?_) #[true, true, true, false, true, true, true, false, false, false, false, false, false, false] rfl rfl (by kernel_rfl) (fun _ _ _ h => h) (Or.inl ⟨by rfl, ?_⟩) ?_ ?_
  rotate_left
  · intro w'
    go_simp
    with_reducible rfl
  rotate_left
  · simp only [Act.put, List.setIfInBounds_toArray, List.set_cons_zero, List.set_cons_succ, i64_w, i32_w]
    rfl
  refine pure_ (i := 8) (N := some 50) (v := ?_) (a' := ?_) #[true, true, true, false, true, true, true, false, true, false, false, false, false, false] rfl rfl (by kernel_rfl) (fun _ _ _ h => h) (Or.inl ⟨by rfl, ?_⟩) ?_ ?_
  rotate_left
  · intro w'
    go_simp
    with_reducible rfl
  rotate_left
  · simp only [Act.put, List.setIfInBounds_toArray, List.set_cons_zero, List.set_cons_succ, i64_w, i32_w]
    rfl
  refine pure_ (i := 9) (N := some 51) (v := ?_) (a' := ?_) #[true, true, true, false, true, true, true, false, true, true, false, false, false, false] rfl rfl (by kernel_rfl) (fun _ _ _ h => h) (Or.inl ⟨by rfl, ?_⟩) ?_ ?_
  rotate_left
  · intro w'
    go_simp
    with_reducible rfl
  rotate_left
  · simp only [Act.put, List.setIfInBounds_toArray, List.set_cons_zero, List.set_cons_succ, i64_w, i32_w]
    rfl
  refine pure_ (i := 10) (N := some 52) (v := ?_) (a' := ?_) #[true, true, true, false, true, true, true, false, true, true, true, false, false, false] rfl rfl (by kernel_rfl) (fun _ _ _ h => h) (Or.inl ⟨by rfl, ?_⟩) ?_ ?_
  rotate_left
  · intro w'
    go_simp
    with_reducible rfl
  rotate_left
  · simp only [Act.put, List.setIfInBounds_toArray, List.set_cons_zero, List.set_cons_succ, i64_w, i32_w]
    rfl
  refine pure_ (i := 12) (N := some 54) (v := ?_) (a' := ?_) #[true, true, true, false, true, true, true, false, true, true, true, false, true, false] rfl rfl (by kernel_rfl) (fun _ _ _ h => h) (Or.inl ⟨by rfl, ?_⟩) ?_ ?_
  rotate_left
  · intro w'
    go_simp
    with_reducible rfl
  rotate_left
  · simp only [Act.put, List.setIfInBounds_toArray, List.set_cons_zero, List.set_cons_succ, i64_w, i32_w]
    rfl
  refine take_ (i := 3) (N := some 45) (v := ?_) (a' := ?_) #[true, true, true, true, true, true, true, false, true, true, true, false, true, false] rfl rfl (by kernel_rfl) (fun _ _ _ h => h) (Or.inl ⟨by rfl, ?_⟩) hHeld ?_ ?_
  rotate_left
  · rintro w' ⟨s0, s1, s2, s3, s4⟩
    go_simp
    with_reducible rfl
  rotate_left
  · simp only [Act.put, List.setIfInBounds_toArray, List.set_cons_zero, List.set_cons_succ, i64_w, i32_w]
    rfl
  refine take_ (i := 7) (N := some 49) (v := ?_) (a' := ?_) #[true, true, true, true, true, true, true, true, true, true, true, false, true, false] rfl rfl (by kernel_rfl) (fun _ _ _ h => h) (Or.inl ⟨by rfl, ?_⟩) hHeld ?_ ?_
  rotate_left
  · rintro w' ⟨s0, s1, s2, s3, s4⟩
    go_simp
    with_reducible rfl
  rotate_left
  · simp only [Act.put, List.setIfInBounds_toArray, List.set_cons_zero, List.set_cons_succ, i64_w, i32_w]
    rfl
  refine take_ (i := 11) (N := some 53) (v := ?_) (a' := ?_) #[true, true, true, true, true, true, true, true, true, true, true, true, true, false] rfl rfl (by kernel_rfl) (fun _ _ _ h => h) (Or.inl ⟨by rfl, ?_⟩) hHeld ?_ ?_
  rotate_left
  · rintro w' ⟨s0, s1, s2, s3, s4⟩
    go_simp
    with_reducible rfl
  rotate_left
  · simp only [Act.put, List.setIfInBounds_toArray, List.set_cons_zero, List.set_cons_succ, i64_w, i32_w]
    rfl
  refine last_ (i := 13) (N := some 55) #[true, true, true, true, true, true, true, true, true, true, true, true, true, true] rfl rfl (by kernel_rfl) (by decide) (fun K hK => ?_)
  refine goes_ Try.func63 (by kernel_rfl) rfl #[.pointer (some ⟨g, 0, none⟩), .agg #[.int .i64 a, .int .i64 b, .int .u32 ep], .int .i64 (used : Int), .slice A5 KF c5] (by rfl) rfl rfl (by simp only [List.map_toArray, List.map_cons, List.map_nil]; rfl) ?_
  with_reducible refine (append_ (xs := fr) B5.out.at5 HL.out.1 HL.out.2.1 HL.out.2.2 a b ep (used : Int) (by have := HU.out; have := (Redo.sizeF_in a).2; omega) (fun W' hW => hW.rowC') HC5.out).mono ?_
  rintro e w6 ⟨rfl, hS6⟩
  refine ⟨_, rfl, ?_⟩
  obtain ⟨wt2, hwt2⟩ : ∃ t, appR n las wt a b ep (used : Int) fr = t := ⟨_, rfl⟩
  have HWT := Aside0.mk hwt2
  rw [hwt2] at hS6
  have B6 := Aside0.mk hS6.at2.tail.at2
  clear hS6 hwt2
  refine hK.out _ _ ?_
  clear hK K
  refine norm_ (a' := ?_) ?_ ?_
  rotate_left
  · show Act.put _ (some 55) _ = _
    simp only [Act.put, List.setIfInBounds_toArray, List.set_cons_zero, List.set_cons_succ, i64_w, i32_w]
    rfl
  refine done_ (by kernel_rfl) ?_
  have z4 := (B6.out.cell 4).trans rfl
  go_wp2_with fail
  refine (apply_ (ps := pages) (l := l) (Sep.rowVC rfl B6.out.at3).2.2 (HC.out _ B6.out.tail.tail.tail.tail) HP.out.1 HP.out.2 (fun x hx => (HAL.out x hx).1)).mono ?_
  rintro e w7 ⟨v7, rfl, hS7⟩
  obtain ⟨ps2, hps2⟩ : ∃ p, applyF pages l = p := ⟨_, rfl⟩
  have HPS := Aside0.mk hps2
  have HPL : Aside0 (ps2.length = N) := ⟨by rw [← hps2, applyF_len]; exact HN.out⟩
  rw [hps2] at hS7
  obtain ⟨A7, c7, rfl⟩ := Sep.rowVN hS7 HPL.out
  have B7 := Aside0.mk (B6.out.lift1 hS7).at4.tail.at2
  clear hS7 z4 hps2
  have z4 := (B7.out.cell 4).trans rfl
  have f4 := B7.out.frozen 4
  have B8' := Aside0.mk (B7.out.setBlk 4 (.slice A7 N c7))
  go_wp2_with fail
  obtain ⟨w8, hw8⟩ : ∃ x, w7.setCell ⟨gs, 4, none⟩ (.slice A7 N c7) = x := ⟨_, rfl⟩
  rw [hw8] at B8' ⊢
  have B8 : Aside0 (Sep w0 w8 (SetM m named :: Blk gs 102 #[.pointer (some ⟨g, 0, none⟩), .int .i64 a, .int .i64 b, .int .u32 ep, .slice A7 N c7, .map (some m), .int .i64 (used : Int), .int .u32 (seq : Int)] :: RowV KP 30 (.slice A7 N c7) ps2 :: Dsk g las wt2 :: F)) := ⟨B8'.out.at4⟩
  clear B8' hw8 z4 f4
  go_loopg [67] n2 (fun k_ p wr => ∃ (j : Nat), p = .int .i64 (j : Int) ∧ j + k_ = n2 ∧ Sep w0 wr (SetM m (insAll named (l.take j)) :: Blk gs 102 #[.pointer (some ⟨g, 0, none⟩), .int .i64 a, .int .i64 b, .int .u32 ep, .slice A7 N c7, .map (some m), .int .i64 (used : Int), .int .u32 (seq : Int)] :: RowV KP 30 (.slice A7 N c7) ps2 :: Dsk g las wt2 :: F))
  case atStart => exact ⟨0, rfl, by omega, B8.out⟩
  case round =>
    obtain ⟨j, rfl, hjk, hS⟩ := hrel
    obtain ⟨w9, rfl⟩ : ∃ x, x = wr := ⟨_, rfl⟩
    have AK := Aside0.mk hjk
    have AS := Aside0.mk hS
    clear hS
    by_cases cj : j < n2
    case pos =>
      have hjl : (j : Int) < (n2 : Int) := by omega
      obtain ⟨hx, ad, B, cB, rfl, q0, q1, q2, q3⟩ := elem2_ (HC.out _ AS.out.tail.tail.tail.tail) cj
      have hpg := (HAL.out _ (List.getElem_mem hx)).2
      have HIN : Aside0 (insAll named (l.take (j + 1)) = insK (insAll named (l.take j)) (l[j]).1) := ⟨by rw [take_one hx, insAll_snoc]⟩
      obtain ⟨pg, hpgE⟩ : ∃ p, (l[j]).1 = p := ⟨_, rfl⟩
      obtain ⟨bn, hbn⟩ : ∃ p, (l[j]).2.length = p := ⟨_, rfl⟩
      rw [hpgE] at q0 hpg HIN
      rw [hbn] at q1
      have HPG := Aside0.mk hpg
      have HIL : Aside0 ((insAll named (l.take j)).length < 1000000) := ⟨by
        have h1 := insAll_len (l.take j) named
        have h2 : (l.take j).length ≤ n2 := by rw [List.length_take, HLN.out]; omega
        have h3 := HNL.out
        have h4 := HN2.out
        omega⟩
      obtain ⟨G9, hG9⟩ : ∃ G, w9.heap.size = G := ⟨_, rfl⟩
      have BK := Aside0.mk (AS.out.newBlk 106 #[.int .i64 pg, .slice B bn cB])
      rw [hG9] at BK
      clear hjk cj q2 q3 hpgE hbn hpg hx
      go_wp2_with fail
      obtain ⟨w10, hw10⟩ : ∃ x, w9.alloc (.cells #[.int .i64 pg, .slice B bn cB] 106) = x := ⟨_, rfl⟩
      rw [hw10] at BK ⊢
      have BD := Aside0.mk BK.out.drew
      clear hw10 hG9 q0 q1
      refine start_ (n := 8) (S := fun w' => w'.cell? ⟨gs, 5, none⟩ = some (.map (some m)) ∧ w'.cell? ⟨G9, 0, none⟩ = some (.int .i64 pg)) (ds := [7]) #[false, false, false, false, false, false, false, false] (by kernel_rfl) rfl rfl ⟨(BD.out.at3.cell 5).trans rfl, (BD.out.cell 0).trans rfl⟩ (fun hHeld => ?_)
      refine pure_ (i := 0) (N := some 71) (v := ?_) (a' := ?_) #[true, false, false, false, false, false, false, false] rfl rfl (by kernel_rfl) (fun _ _ _ h => h) (Or.inl ⟨by rfl, ?_⟩) ?_ ?_
      rotate_left
      · intro w'
        go_simp
        with_reducible rfl
      rotate_left
      · simp only [Act.put, List.setIfInBounds_toArray, List.set_cons_zero, List.set_cons_succ, i64_w, i32_w]
        rfl
      refine pure_ (i := 1) (N := some 72) (v := ?_) (a' := ?_) #[true, true, false, false, false, false, false, false] rfl rfl (by kernel_rfl) (fun _ _ _ h => h) (Or.inl ⟨by rfl, ?_⟩) ?_ ?_
      rotate_left
      · intro w'
        go_simp
        with_reducible rfl
      rotate_left
      · simp only [Act.put, List.setIfInBounds_toArray, List.set_cons_zero, List.set_cons_succ, i64_w, i32_w]
        rfl
      refine pure_ (i := 2) (N := some 73) (v := ?_) (a' := ?_) #[true, true, true, false, false, false, false, false] rfl rfl (by kernel_rfl) (fun _ _ _ h => h) (Or.inl ⟨by rfl, ?_⟩) ?_ ?_
      rotate_left
      · intro w'
        go_simp
        with_reducible rfl
      rotate_left
      · simp only [Act.put, List.setIfInBounds_toArray, List.set_cons_zero, List.set_cons_succ, i64_w, i32_w]
        rfl
      refine pure_ (i := 4) (N := some 75) (v := ?_) (a' := ?_) #[true, true, true, false, true, false, false, false] rfl rfl (by kernel_rfl) (fun _ _ _ h => h) (Or.inl ⟨by rfl, ?_⟩) ?_ ?_
      rotate_left
      · intro w'
        go_simp
        with_reducible rfl
      rotate_left
      · simp only [Act.put, List.setIfInBounds_toArray, List.set_cons_zero, List.set_cons_succ, i64_w, i32_w]
        rfl
      refine pure_ (i := 6) (N := some 77) (v := ?_) (a' := ?_) #[true, true, true, false, true, false, true, false] rfl rfl (by kernel_rfl) (fun _ _ _ h => h) (Or.inl ⟨by rfl, ?_⟩) ?_ ?_
      rotate_left
      · intro w'
        go_simp
        with_reducible rfl
      rotate_left
      · simp only [Act.put, List.setIfInBounds_toArray, List.set_cons_zero, List.set_cons_succ, i64_w, i32_w]
        rfl
      refine take_ (i := 3) (N := some 74) (v := ?_) (a' := ?_) #[true, true, true, true, true, false, true, false] rfl rfl (by kernel_rfl) (fun _ _ _ h => h) (Or.inl ⟨by rfl, ?_⟩) hHeld ?_ ?_
      rotate_left
      · rintro w' ⟨s0, s1⟩
        go_simp
        with_reducible rfl
      rotate_left
      · simp only [Act.put, List.setIfInBounds_toArray, List.set_cons_zero, List.set_cons_succ, i64_w, i32_w]
        rfl
      refine take_ (i := 5) (N := some 76) (v := ?_) (a' := ?_) #[true, true, true, true, true, true, true, false] rfl rfl (by kernel_rfl) (fun _ _ _ h => h) (Or.inl ⟨by rfl, ?_⟩) hHeld ?_ ?_
      rotate_left
      · rintro w' ⟨s0, s1⟩
        go_simp
        with_reducible rfl
      rotate_left
      · simp only [Act.put, List.setIfInBounds_toArray, List.set_cons_zero, List.set_cons_succ, i64_w, i32_w]
        rfl
      refine last_ (i := 7) (N := none) #[true, true, true, true, true, true, true, true] rfl rfl (by kernel_rfl) (by decide) (fun K hK => ?_)
      obtain ⟨W11, hup, hS11⟩ := set_put (v := .agg #[]) BD.out.at2 pg HPG.out HIL.out
      refine skip_ (w1 := ?_) (by rfl) rfl ?_ ?_
      rotate_left
      · go_simp
        rfl
      refine hK.out _ _ ?_
      clear hK K
      refine done_ (by kernel_rfl) ?_
      rw [← HIN.out] at hS11
      have B11 := Aside0.mk hS11.drop2
      clear hS11 hup
      go_wp2_with fail
      go_roundg (gk - 1)
      case measure => have := AK.out; omega
      case rel => exact ⟨j + 1, by go_num, by have := AK.out; omega, B11.out⟩
    case neg =>
    obtain rfl : j = n2 := by omega
    have hjl : ¬ (j : Int) < (j : Int) := by omega
    have HTK : Aside0 (l.take j = l) := ⟨List.take_of_length_le (by rw [HLN.out]; exact Nat.le_refl _)⟩
    have B12 := Aside0.mk AS.out.at2
    rw [HTK.out] at B12
    have z6 := (B12.out.cell 6).trans rfl
    have f6 := B12.out.frozen 6
    have B13 := Aside0.mk (B12.out.setBlk 6 (.int .i64 (U2 : Int)))
    have z7 := (B13.out.cell 7).trans rfl
    have f7 := B13.out.frozen 7
    have B14 := Aside0.mk (B13.out.setBlk 7 (.int .u32 (S2 : Int)))
    clear hjk cj
    go_wp2_with fail
    go_ret
    refine ⟨by first | rfl | (simp; done), ?_⟩
    rw [HKK.out, HU2.out, HS2.out, HPS.out, HFR.out, HWT.out]
    exact stb_shut B14.out.sw23
end
end Go.Proofs.Ytjngnigelkgekaa.Store
namespace Go.Proofs.Ytjngnigelkgekaa.Store
set_option linter.unusedVariables false
set_option linter.unusedSimpArgs false
open Go.RowKit Go.Proofs.YtjngnigelkgekaaW.PrintWords Go.Proofs.YtjngnigelkgekaaW.PrintLast Go.Proofs.YtjngnigelkgekaaW.PrintMore Go.Proofs.Ytjngnigelkgekaa.Kit Go.Proofs.Ytjngnigelkgekaa.Plain Go.Proofs.Ytjngnigelkgekaa.Disk Go.Proofs.Ytjngnigelkgekaa.Root
open Go.Proofs.Ytjngnigelkgekaa.Delta (Chg KC deltaF rightF)
open Go.Proofs.Ytjngnigelkgekaa.Redo (recR logF logF_bytes appR)
open Go.Proofs.Ytjngnigelkgekaa.Home (pagesF)
open Go.Proofs.Ytjngnigelkgekaa.Frame (frameF)
theorem k_b1 : Bytes z1L := by unfold Bytes; decide +kernel
theorem k_b3 : Bytes z3L := by unfold Bytes; decide +kernel
theorem k_len1 : z1L.length = 64 * 20 := by decide +kernel
theorem k_len2 : z2L.length = 64 * 20 := by decide +kernel
theorem k_len3 : z3L.length = 64 * 20 := by decide +kernel
theorem k_pl : ∀ p ∈ zps, p.length ≤ 1000000 := by decide +kernel
theorem no_bytes : ∀ i b, noW i = some b → Bytes b := fun i b h => by cases h
/-- One change in a literal, read. -/
theorem chg_lit {w0 W : World} {F : List HP} {p : Nat} {t : TypeId} {k : Int} {A : Option Addr} {n c : Nat} {xs : List Int} (h : Sep w0 W (Blk p t #[.int .i64 k, .slice A n c] :: Row (Kd.int .u8) 5 (.slice A n c) xs :: F)) : KC.C W (some ⟨p, 0, none⟩) 1 [(k, xs)] := by
  have h1 := h.at2.rowC
  have h2 := h.at2.rowC'
  refine ⟨rfl, by decide, fun _ => ⟨_, rfl, fun j q hq => ?_⟩⟩
  have hj : j = 0 := by
    have := (List.getElem?_eq_some_iff.1 hq).1
    simp at this; omega
  subst hj
  obtain rfl : (k, xs) = q := by simpa using hq
  refine ⟨[.int .i64 k, .slice A n c], rfl, ⟨[.int .i64 k], [.slice A n c], rfl, rfl, A, c, by rw [← h1.1], by rw [← h1.1]; exact h1.2.1, by have h3 := h1.2.2; exact h3⟩, fun i u hu => ?_⟩
  rw [Nat.zero_mul, Nat.zero_add, add_plain, h.cell]
  simpa using hu
section
variable {w0 W : World} {F : List HP} {g : Nat}
theorem k_open0 (h : Sep w0 W (Dsk g z0L noW :: F)) : Calls Try.prog 27 #[.pointer (some ⟨g, 0, none⟩)] W fun e w' => e = .returned (.tuple #[.pointer none, .int .i64 22]) ∧ Sep w0 w' (Dsk g z0L noW :: F) :=
  open_none (n := 20) h List.length_replicate (by decide) Ref.none_len (fun j => secF_bytes (zeros_bytes _) no_bytes j) k_none
theorem k_format (h : Sep w0 W (Dsk g z0L noW :: F)) : Calls Try.prog 26 #[.pointer (some ⟨g, 0, none⟩), .int .i64 9, .int .i64 4] W fun e w' => e = .returned (.int .i64 0) ∧ Sep w0 w' (Dsk g z1L noW :: F) := by
  rw [← k_fmt]
  exact format_ok (n := 20) h List.length_replicate (by decide) Ref.none_len 9 4 k_right
theorem k_open1 (h : Sep w0 W (Dsk g z1L noW :: F)) : Calls Try.prog 27 #[.pointer (some ⟨g, 0, none⟩)] W fun e w' => ∃ gs m, e = .returned (.tuple #[.pointer (some ⟨gs, 0, none⟩), .int .i64 0]) ∧ Sep w0 w' (StB gs g m 9 4 2 zps [] 0 0 :: Dsk g z2L noW :: F) := by
  refine (open_ok (n := 20) h k_len1 (by decide) Ref.none_len (fun j => secF_bytes k_b1 no_bytes j) 9 4 1 k_best1 (by decide) (by decide) (logF_bytes k_b1 no_bytes _ _ _) (by rw [k_pages1]; decide) (by rw [k_pages1]; rfl) (by rw [k_pages1]; exact k_pl) (by rw [k_rec1]; decide) (by rw [k_rec1]; intro x hx; cases hx)).mono ?_
  rintro e w' ⟨gs, m, rfl, hS⟩
  rw [k_pages1, k_rec1] at hS
  have hs : insList [] (sortK (nmAll [] [])) = [] := by decide +kernel
  rw [hs, show pgAll zps [] = zps from rfl, k_chk1] at hS
  exact ⟨gs, m, rfl, hS⟩
theorem k_open3 (h : Sep w0 W (Dsk g z3L noW :: F)) : Calls Try.prog 27 #[.pointer (some ⟨g, 0, none⟩)] W fun e w' => ∃ gs m L4, e = .returned (.tuple #[.pointer (some ⟨gs, 0, none⟩), .int .i64 0]) ∧ L4.length = 64 * 20 ∧ Sep w0 w' (StB gs g m 9 4 3 (applyF zps [(2, s5)]) [] 0 0 :: Dsk g L4 noW :: F) := by
  refine (open_ok (n := 20) h k_len3 (by decide) Ref.none_len (fun j => secF_bytes k_b3 no_bytes j) 9 4 2 k_best3 (by decide) (by decide) (logF_bytes k_b3 no_bytes _ _ _) (by rw [k_pages3]; decide) (by rw [k_pages3]; rfl) (by rw [k_pages3]; exact k_pl) (by rw [k_rec3]; decide) (by rw [k_rec3]; intro x hx; rw [List.mem_singleton.1 hx]; decide)).mono ?_
  rintro e w' ⟨gs, m, rfl, hS⟩
  rw [k_pages3, k_rec3] at hS
  refine ⟨gs, m, _, rfl, ?_, hS⟩
  unfold chkL
  exact Ref.flushed_len (Ref.flushed_len (Ref.flushed_len k_len3 Ref.none_len) (homeW_len _ Ref.none_len)) (putW_len Ref.none_len)
end
end Go.Proofs.Ytjngnigelkgekaa.Store
namespace Go.Proofs.Ytjngnigelkgekaa.Store
set_option linter.unusedVariables false
set_option linter.unusedSimpArgs false
open Go.RowKit Go.Proofs.YtjngnigelkgekaaW.PrintWords Go.Proofs.YtjngnigelkgekaaW.PrintLast Go.Proofs.YtjngnigelkgekaaW.PrintMore Go.Proofs.Ytjngnigelkgekaa.Kit Go.Proofs.Ytjngnigelkgekaa.Plain
open Go.Proofs.Ytjngnigelkgekaa.Redo (sizeF sizeF_in size_)
open Go.Proofs.Ytjngnigelkgekaa.Delta (needF need_ rneed_)
set_option maxHeartbeats 800000 in
set_option maxRecDepth 100000 in
theorem rfits_ (a b c : Int) (u n : Nat) (hu : (u : Int) ≤ sizeF a) (W : World) : Calls Try.prog 78 #[.agg #[.int .i64 a, .int .i64 b, .int .u32 c], .int .i64 (u : Int), .int .i64 (n : Int)] W fun e w' => e = .returned (.bool (fitsF a u n)) ∧ Below W.heap.size W w' := by
  have hn := need_in (n : Int)
  obtain ⟨q, hq⟩ : ∃ q, needF (n : Int) = q := ⟨_, rfl⟩
  rw [hq] at hn
  have HQ := Aside0.mk hq
  have HU := Aside0.mk hu
  have A0 := Aside0.mk ((Sep.start W).newBlk 26 #[.int .i64 a, .int .i64 b, .int .u32 c]).drew
  clear hq hu
  by_cases h0 : 0 < q
  case neg =>
    have hd : decide (0 < q) = false := decide_eq_false h0
    have HV : Aside0 (fitsF a u n = false) := ⟨by unfold fitsF; rw [HQ.out]; exact decide_eq_false (fun h => h0 h.1)⟩
    go_enter Try.func78, Try.ntmps78
    go_wp2_with fail
    refine start_ (n := 12) (S := fun w' => w'.cell? ⟨W.heap.size, 0, none⟩ = some (.int .i64 a) ∧ w'.cell? ⟨W.heap.size, 1, none⟩ = some (.int .i64 b) ∧ w'.cell? ⟨W.heap.size, 2, none⟩ = some (.int .u32 c)) (ds := []) #[false, false, false, false, false, false, false, false, false, false, false, false] (by kernel_rfl) rfl rfl ⟨(A0.out.cell 0).trans rfl, (A0.out.cell 1).trans rfl, (A0.out.cell 2).trans rfl⟩ (fun hHeld => ?_)
    refine pure_ (i := 0) (N := some 7) (v := ?_) (a' := ?_) #[true, false, false, false, false, false, false, false, false, false, false, false] rfl rfl (by kernel_rfl) (fun _ _ _ h => h) (Or.inl ⟨by rfl, ?_⟩) ?_ ?_
    rotate_left
    · intro w'
      go_simp
      with_reducible rfl
    rotate_left
    · simp only [Act.put, List.setIfInBounds_toArray, List.set_cons_zero, List.set_cons_succ, i64_w, i32_w]
      rfl
    refine one_ (i := 1) (N := some 8) #[true, true, false, false, false, false, false, false, false, false, false, false] rfl rfl (by kernel_rfl) (by decide) (fun K hK => ?_)
    refine goes_ Try.func121 (by kernel_rfl) rfl #[.int .i64 (n : Int)] (by rfl) rfl rfl (by simp only [List.map_toArray, List.map_cons, List.map_nil]; rfl) ?_
    with_reducible refine (rneed_ (n : Int) _).mono ?_
    rintro e w1 ⟨rfl, rfl⟩
    refine ⟨_, rfl, ?_⟩
    rw [HQ.out]
    refine hK.out _ _ ⟨(A0.out.cell 0).trans rfl, (A0.out.cell 1).trans rfl, (A0.out.cell 2).trans rfl⟩ (fun hHeld => ?_)
    clear hK K
    refine norm_ (a' := ?_) ?_ ?_
    rotate_left
    · show Act.put _ (some 8) _ = _
      simp only [Act.put, List.setIfInBounds_toArray, List.set_cons_zero, List.set_cons_succ, i64_w, i32_w]
      rfl
    refine pure_ (i := 2) (N := some 9) (v := ?_) (a' := ?_) #[true, true, true, false, false, false, false, false, false, false, false, false] rfl rfl (by kernel_rfl) (fun _ _ _ h => h) (Or.inl ⟨by rfl, ?_⟩) ?_ ?_
    rotate_left
    · intro w'
      go_simp
      with_reducible rfl
    rotate_left
    · simp only [Act.put, List.setIfInBounds_toArray, List.set_cons_zero, List.set_cons_succ, i64_w, i32_w]
      rfl
    refine pure_ (i := 3) (N := some 10) (v := ?_) (a' := ?_) #[true, true, true, true, false, false, false, false, false, false, false, false] rfl rfl (by kernel_rfl) (fun _ _ _ h => h) (Or.inl ⟨by rfl, ?_⟩) ?_ ?_
    rotate_left
    · intro w'
      go_simp
      with_reducible rfl
    rotate_left
    · simp only [Act.put, List.setIfInBounds_toArray, List.set_cons_zero, List.set_cons_succ, i64_w, i32_w]
      rfl
    refine pure_ (i := 4) (N := some 11) (v := undef) (a' := ?_) #[true, true, true, true, true, false, false, false, false, false, false, false] rfl rfl (by kernel_rfl) (fun _ _ _ h => h) (Or.inr ⟨by rfl, rfl⟩) ?_ ?_
    rotate_left
    · simp only [Act.put, List.setIfInBounds_toArray, List.set_cons_zero, List.set_cons_succ, i64_w, i32_w]
      rfl
    refine pure_ (i := 5) (N := some 12) (v := undef) (a' := ?_) #[true, true, true, true, true, true, false, false, false, false, false, false] rfl rfl (by kernel_rfl) (fun _ _ _ h => h) (Or.inr ⟨by rfl, rfl⟩) ?_ ?_
    rotate_left
    · simp only [Act.put, List.setIfInBounds_toArray, List.set_cons_zero, List.set_cons_succ, i64_w, i32_w]
      rfl
    refine pure_ (i := 6) (N := some 13) (v := undef) (a' := ?_) #[true, true, true, true, true, true, true, false, false, false, false, false] rfl rfl (by kernel_rfl) (fun _ _ _ h => h) (Or.inr ⟨by rfl, rfl⟩) ?_ ?_
    rotate_left
    · simp only [Act.put, List.setIfInBounds_toArray, List.set_cons_zero, List.set_cons_succ, i64_w, i32_w]
      rfl
    refine pure_ (i := 7) (N := some 14) (v := undef) (a' := ?_) #[true, true, true, true, true, true, true, true, false, false, false, false] rfl rfl (by kernel_rfl) (fun _ _ _ h => h) (Or.inr ⟨by rfl, rfl⟩) ?_ ?_
    rotate_left
    · simp only [Act.put, List.setIfInBounds_toArray, List.set_cons_zero, List.set_cons_succ, i64_w, i32_w]
      rfl
    refine pure_ (i := 8) (N := some 15) (v := undef) (a' := ?_) #[true, true, true, true, true, true, true, true, true, false, false, false] rfl rfl (by kernel_rfl) (fun _ _ _ h => h) (Or.inr ⟨by rfl, rfl⟩) ?_ ?_
    rotate_left
    · simp only [Act.put, List.setIfInBounds_toArray, List.set_cons_zero, List.set_cons_succ, i64_w, i32_w]
      rfl
    refine pure_ (i := 9) (N := some 16) (v := undef) (a' := ?_) #[true, true, true, true, true, true, true, true, true, true, false, false] rfl rfl (by kernel_rfl) (fun _ _ _ h => h) (Or.inr ⟨by rfl, rfl⟩) ?_ ?_
    rotate_left
    · simp only [Act.put, List.setIfInBounds_toArray, List.set_cons_zero, List.set_cons_succ, i64_w, i32_w]
      rfl
    refine pure_ (i := 10) (N := some 17) (v := ?_) (a' := ?_) #[true, true, true, true, true, true, true, true, true, true, true, false] rfl rfl (by kernel_rfl) (fun _ _ _ h => h) (Or.inl ⟨by rfl, ?_⟩) ?_ ?_
    rotate_left
    · intro w'
      go_simp
      with_reducible rfl
    rotate_left
    · simp only [Act.put, List.setIfInBounds_toArray, List.set_cons_zero, List.set_cons_succ, i64_w, i32_w]
      rfl
    refine pure_ (i := 11) (N := some 6) (v := ?_) (a' := ?_) #[true, true, true, true, true, true, true, true, true, true, true, true] rfl rfl (by kernel_rfl) (fun _ _ _ h => h) (Or.inl ⟨by rfl, ?_⟩) ?_ ?_
    rotate_left
    · intro w'
      go_simp
      with_reducible rfl
    rotate_left
    · simp only [Act.put, List.setIfInBounds_toArray, List.set_cons_zero, List.set_cons_succ, i64_w, i32_w]
      rfl
    refine done_ (by kernel_rfl) ?_
    go_wp2_with fail
    go_ret
    exact ⟨by rw [HV.out]; first | rfl | (simp; done), A0.out.tail.toBelow⟩
  case pos =>
  have hd : decide (0 < q) = true := decide_eq_true h0
  obtain ⟨s, hs⟩ : ∃ s, sizeF a - (u : Int) = s := ⟨_, rfl⟩
  have HV : Aside0 (fitsF a u n = decide (q ≤ s)) := ⟨by unfold fitsF; rw [HQ.out, hs]; by_cases h : q ≤ s <;> simp [h, h0]⟩
  have HS := Aside0.mk hs
  clear hs
  go_enter Try.func78, Try.ntmps78
  go_wp2_with fail
  refine start_ (n := 12) (S := fun w' => w'.cell? ⟨W.heap.size, 0, none⟩ = some (.int .i64 a) ∧ w'.cell? ⟨W.heap.size, 1, none⟩ = some (.int .i64 b) ∧ w'.cell? ⟨W.heap.size, 2, none⟩ = some (.int .u32 c)) (ds := [8]) #[false, false, false, false, false, false, false, false, false, false, false, false] (by kernel_rfl) rfl rfl ⟨(A0.out.cell 0).trans rfl, (A0.out.cell 1).trans rfl, (A0.out.cell 2).trans rfl⟩ (fun hHeld => ?_)
  refine pure_ (i := 0) (N := some 7) (v := ?_) (a' := ?_) #[true, false, false, false, false, false, false, false, false, false, false, false] rfl rfl (by kernel_rfl) (fun _ _ _ h => h) (Or.inl ⟨by rfl, ?_⟩) ?_ ?_
  rotate_left
  · intro w'
    go_simp
    with_reducible rfl
  rotate_left
  · simp only [Act.put, List.setIfInBounds_toArray, List.set_cons_zero, List.set_cons_succ, i64_w, i32_w]
    rfl
  refine one_ (i := 1) (N := some 8) #[true, true, false, false, false, false, false, false, false, false, false, false] rfl rfl (by kernel_rfl) (by decide) (fun K hK => ?_)
  refine goes_ Try.func121 (by kernel_rfl) rfl #[.int .i64 (n : Int)] (by rfl) rfl rfl (by simp only [List.map_toArray, List.map_cons, List.map_nil]; rfl) ?_
  with_reducible refine (rneed_ (n : Int) _).mono ?_
  rintro e w1 ⟨rfl, rfl⟩
  refine ⟨_, rfl, ?_⟩
  rw [HQ.out]
  refine hK.out _ _ ⟨(A0.out.cell 0).trans rfl, (A0.out.cell 1).trans rfl, (A0.out.cell 2).trans rfl⟩ (fun hHeld => ?_)
  clear hK K
  refine norm_ (a' := ?_) ?_ ?_
  rotate_left
  · show Act.put _ (some 8) _ = _
    simp only [Act.put, List.setIfInBounds_toArray, List.set_cons_zero, List.set_cons_succ, i64_w, i32_w]
    rfl
  refine pure_ (i := 2) (N := some 9) (v := ?_) (a' := ?_) #[true, true, true, false, false, false, false, false, false, false, false, false] rfl rfl (by kernel_rfl) (fun _ _ _ h => h) (Or.inl ⟨by rfl, ?_⟩) ?_ ?_
  rotate_left
  · intro w'
    go_simp
    with_reducible rfl
  rotate_left
  · simp only [Act.put, List.setIfInBounds_toArray, List.set_cons_zero, List.set_cons_succ, i64_w, i32_w]
    rfl
  refine pure_ (i := 3) (N := some 10) (v := ?_) (a' := ?_) #[true, true, true, true, false, false, false, false, false, false, false, false] rfl rfl (by kernel_rfl) (fun _ _ _ h => h) (Or.inl ⟨by rfl, ?_⟩) ?_ ?_
  rotate_left
  · intro w'
    go_simp
    with_reducible rfl
  rotate_left
  · simp only [Act.put, List.setIfInBounds_toArray, List.set_cons_zero, List.set_cons_succ, i64_w, i32_w]
    rfl
  refine pure_ (i := 4) (N := some 11) (v := ?_) (a' := ?_) #[true, true, true, true, true, false, false, false, false, false, false, false] rfl rfl (by kernel_rfl) (fun _ _ _ h => h) (Or.inl ⟨by rfl, ?_⟩) ?_ ?_
  rotate_left
  · intro w'
    go_simp
    with_reducible rfl
  rotate_left
  · simp only [Act.put, List.setIfInBounds_toArray, List.set_cons_zero, List.set_cons_succ, i64_w, i32_w]
    rfl
  refine pure_ (i := 7) (N := some 14) (v := ?_) (a' := ?_) #[true, true, true, true, true, false, false, true, false, false, false, false] rfl rfl (by kernel_rfl) (fun _ _ _ h => h) (Or.inl ⟨by rfl, ?_⟩) ?_ ?_
  rotate_left
  · intro w'
    go_simp
    with_reducible rfl
  rotate_left
  · simp only [Act.put, List.setIfInBounds_toArray, List.set_cons_zero, List.set_cons_succ, i64_w, i32_w]
    rfl
  refine take_ (i := 6) (N := some 13) (v := ?_) (a' := ?_) #[true, true, true, true, true, false, true, true, false, false, false, false] rfl rfl (by kernel_rfl) (fun _ _ _ h => h) (Or.inl ⟨by rfl, ?_⟩) hHeld ?_ ?_
  rotate_left
  · rintro w' ⟨s0, s1, s2⟩
    go_simp
    with_reducible rfl
  rotate_left
  · simp only [Act.put, List.setIfInBounds_toArray, List.set_cons_zero, List.set_cons_succ, i64_w, i32_w]
    rfl
  refine one_ (i := 5) (N := some 12) #[true, true, true, true, true, true, true, true, false, false, false, false] rfl rfl (by kernel_rfl) (by decide) (fun K hK => ?_)
  refine goes_ Try.func121 (by kernel_rfl) rfl #[.int .i64 (n : Int)] (by rfl) rfl rfl (by simp only [List.map_toArray, List.map_cons, List.map_nil]; rfl) ?_
  with_reducible refine (rneed_ (n : Int) _).mono ?_
  rintro e w5 ⟨rfl, rfl⟩
  refine ⟨_, rfl, ?_⟩
  rw [HQ.out]
  refine hK.out _ _ ⟨(A0.out.cell 0).trans rfl, (A0.out.cell 1).trans rfl, (A0.out.cell 2).trans rfl⟩ (fun hHeld => ?_)
  clear hK K
  refine norm_ (a' := ?_) ?_ ?_
  rotate_left
  · show Act.put _ (some 12) _ = _
    simp only [Act.put, List.setIfInBounds_toArray, List.set_cons_zero, List.set_cons_succ, i64_w, i32_w]
    rfl
  refine last_ (i := 8) (N := some 15) #[true, true, true, true, true, true, true, true, true, false, false, false] rfl rfl (by kernel_rfl) (by decide) (fun K hK => ?_)
  refine goes_ Try.func122 (by kernel_rfl) rfl #[.agg #[.int .i64 a, .int .i64 b, .int .u32 c], .int .i64 (u : Int)] (by rfl) rfl rfl (by simp only [List.map_toArray, List.map_cons, List.map_nil]; rfl) ?_
  with_reducible refine (rleft_ a b c u HU.out _).mono ?_
  rintro e w8 ⟨rfl, hb8⟩
  refine ⟨_, rfl, ?_⟩
  rw [HS.out]
  have A8 := Aside0.mk (A0.out.below hb8)
  clear hb8
  refine hK.out _ _ ?_
  clear hK K
  refine norm_ (a' := ?_) ?_ ?_
  rotate_left
  · show Act.put _ (some 15) _ = _
    simp only [Act.put, List.setIfInBounds_toArray, List.set_cons_zero, List.set_cons_succ, i64_w, i32_w]
    rfl
  refine pure_ (i := 9) (N := some 16) (v := ?_) (a' := ?_) #[true, true, true, true, true, true, true, true, true, true, false, false] rfl rfl (by kernel_rfl) (fun _ _ _ h => h) (Or.inl ⟨by rfl, ?_⟩) ?_ ?_
  rotate_left
  · intro w'
    go_simp
    with_reducible rfl
  rotate_left
  · simp only [Act.put, List.setIfInBounds_toArray, List.set_cons_zero, List.set_cons_succ, i64_w, i32_w]
    rfl
  refine pure_ (i := 10) (N := some 17) (v := ?_) (a' := ?_) #[true, true, true, true, true, true, true, true, true, true, true, false] rfl rfl (by kernel_rfl) (fun _ _ _ h => h) (Or.inl ⟨by rfl, ?_⟩) ?_ ?_
  rotate_left
  · intro w'
    go_simp
    with_reducible rfl
  rotate_left
  · simp only [Act.put, List.setIfInBounds_toArray, List.set_cons_zero, List.set_cons_succ, i64_w, i32_w]
    rfl
  refine pure_ (i := 11) (N := some 6) (v := ?_) (a' := ?_) #[true, true, true, true, true, true, true, true, true, true, true, true] rfl rfl (by kernel_rfl) (fun _ _ _ h => h) (Or.inl ⟨by rfl, ?_⟩) ?_ ?_
  rotate_left
  · intro w'
    go_simp
    with_reducible rfl
  rotate_left
  · simp only [Act.put, List.setIfInBounds_toArray, List.set_cons_zero, List.set_cons_succ, i64_w, i32_w]
    rfl
  refine done_ (by kernel_rfl) ?_
  by_cases hqs : q ≤ s
  · have hd2 : decide (q ≤ s) = true := decide_eq_true hqs
    go_wp2_with fail
    go_ret
    exact ⟨by rw [HV.out, hd2]; first | rfl | (simp; done), A8.out.tail.toBelow⟩
  · have hd2 : decide (q ≤ s) = false := decide_eq_false hqs
    go_wp2_with fail
    go_ret
    exact ⟨by rw [HV.out, hd2]; first | rfl | (simp; done), A8.out.tail.toBelow⟩
/-- What is said of the most: so many fit, and no more. -/
def MostAt (a : Int) (k : Nat) (m : Int) : Prop := -1 ≤ m ∧ m < (k : Int) ∧ ∀ n : Nat, n < k → (fitsF a 0 n = true ↔ (n : Int) ≤ m)
theorem most_start (a : Int) : MostAt a 0 (-1) := ⟨by decide, by decide, fun n h => by omega⟩
theorem fits_down {a : Int} {n m : Nat} (h : fitsF a 0 m = true) (hnm : n ≤ m) : fitsF a 0 n = true := by
  unfold fitsF at h ⊢
  rw [decide_eq_true_eq] at h ⊢
  unfold needF at h ⊢
  split at h
  · omega
  · rw [if_neg (by omega)]; omega
theorem most_yes {a m : Int} {k : Nat} (h : MostAt a k m) (hf : fitsF a 0 k = true) : MostAt a (k + 1) (k : Int) :=
  ⟨by omega, by omega, fun n hn => ⟨fun _ => by omega, fun _ => fits_down hf (by omega)⟩⟩
theorem most_no {a m : Int} {k : Nat} (h : MostAt a k m) (hf : fitsF a 0 k = false) : MostAt a (k + 1) m :=
  ⟨h.1, by have := h.2.1; omega, fun n hn => by
    by_cases hk : n < k
    · exact h.2.2 n hk
    · obtain rfl : n = k := by omega
      exact ⟨fun h2 => (by rw [hf] at h2; cases h2), fun h2 => (by have := h.2.1; omega)⟩⟩
set_option maxHeartbeats 800000 in
set_option maxRecDepth 100000 in
theorem most_ (a c : Int) (b : Nat) (hb : b ≤ 64) (W : World) : Calls Try.prog 35 #[.agg #[.int .i64 a, .int .i64 (b : Int), .int .u32 c]] W fun e w' => ∃ m : Int, e = .returned (.int .i64 m) ∧ MostAt a (b + 1) m ∧ Below W.heap.size W w' := by
  have A0 := Aside0.mk ((Sep.start W).newBlk 26 #[.int .i64 a, .int .i64 (b : Int), .int .u32 c])
  have HB := Aside0.mk hb
  have HS0 : Aside0 (((0 : Nat) : Int) ≤ sizeF a) := ⟨(sizeF_in a).1⟩
  have HST := Aside0.mk (most_start a)
  clear hb
  go_enter Try.func35, Try.ntmps35
  go_wp2_with fail
  go_loopg [3, 4] (b + 1) (fun k_ v p wr => ∃ (k : Nat) (m : Int), v = .int .i64 m ∧ p = .int .i64 (k : Int) ∧ k + k_ = b + 1 ∧ MostAt a k m ∧ Sep W wr [Blk W.heap.size 26 #[.int .i64 a, .int .i64 (b : Int), .int .u32 c]])
  case atStart => exact ⟨0, -1, rfl, rfl, by omega, HST.out, A0.out⟩
  case round =>
    obtain ⟨k, m, rfl, rfl, hkb, hm, hS⟩ := hrel
    have AK := Aside0.mk hkb
    have AS := Aside0.mk hS
    have HM := Aside0.mk hm
    have z0 := (AS.out.cell 0).trans rfl
    have z1 := (AS.out.cell 1).trans rfl
    have z2 := (AS.out.cell 2).trans rfl
    clear hS hm
    by_cases ck : k ≤ b
    case pos =>
      have hkl : (k : Int) ≤ (b : Int) := by omega
      have hk64 : (k : Int) ≤ 64 := by have := HB.out; omega
      have hkd : decide ((k : Int) ≤ (b : Int)) = true := decide_eq_true hkl
      have hkd2 : decide ((k : Int) ≤ 64) = true := decide_eq_true hk64
      clear hkb ck
      go_wp2_with fail
      refine (rfits_ a (b : Int) c 0 k HS0.out _).mono ?_
      rintro e w2 ⟨rfl, hb2⟩
      have A2 := Aside0.mk (AS.out.below hb2)
      clear hb2
      cases hf : fitsF a 0 k with
      | true =>
        have HY := Aside0.mk (most_yes HM.out hf)
        clear hf
        go_wp2_with fail
        go_roundg (gk - 1)
        case measure => have := AK.out; omega
        case rel => exact ⟨k + 1, _, rfl, by go_num, by have := AK.out; omega, HY.out, A2.out⟩
      | false =>
        have HY := Aside0.mk (most_no HM.out hf)
        clear hf
        go_wp2_with fail
        go_roundg (gk - 1)
        case measure => have := AK.out; omega
        case rel => exact ⟨k + 1, _, rfl, by go_num, by have := AK.out; omega, HY.out, A2.out⟩
    case neg =>
    obtain rfl : k = b + 1 := by omega
    have hkl : ¬ ((b + 1 : Nat) : Int) ≤ (b : Int) := by omega
    have hkd : decide (((b + 1 : Nat) : Int) ≤ (b : Int)) = false := decide_eq_false hkl
    clear hkb ck
    go_wp2_with fail
    go_ret
    exact ⟨m, by first | rfl | (simp; done), HM.out, AS.out.tail.toBelow⟩
end Go.Proofs.Ytjngnigelkgekaa.Store
namespace Go.Proofs.Ytjngnigelkgekaa.Store
set_option linter.unusedVariables false
set_option linter.unusedSimpArgs false
open Go.RowKit Go.Proofs.YtjngnigelkgekaaW.PrintWords Go.Proofs.YtjngnigelkgekaaW.PrintLast Go.Proofs.YtjngnigelkgekaaW.PrintMore Go.Proofs.Ytjngnigelkgekaa.Kit Go.Proofs.Ytjngnigelkgekaa.Base Go.Proofs.Ytjngnigelkgekaa.Plain
open Go.Proofs.Ytjngnigelkgekaa.Delta (Chg KC deltaF rightF okF oneF two undeltaF rawF countF chunkF)
theorem okF_flat : ∀ {l : List Chg} {pages last : Int}, okF pages last l = true → -1 ≤ last → (l.flatMap oneF).length = 66 * l.length ∧ ((l.length : Int) ≤ 0 ∨ (l.length : Int) + last + 1 ≤ pages)
  | [], _, _, _, _ => ⟨rfl, .inl (by simp)⟩
  | c :: r, pages, last, h, hl => by
    unfold okF at h
    rw [Bool.and_eq_true, decide_eq_true_eq] at h
    obtain ⟨h1, h2⟩ := okF_flat h.2 (by omega)
    refine ⟨?_, .inr ?_⟩
    · rw [List.flatMap_cons, List.length_append, h1]
      simp [oneF, two, h.1.2.2]
      omega
    · rw [List.length_cons]
      omega
theorem right_len {l : List Chg} {pages : Int} (h : rightF l pages = true) : (deltaF l).length = 2 + 66 * l.length ∧ l.length ≤ 64 := by
  unfold rightF at h
  rw [Bool.and_eq_true, decide_eq_true_eq] at h
  obtain ⟨h1, h2⟩ := okF_flat h.2 (by omega)
  refine ⟨?_, by omega⟩
  unfold deltaF
  rw [List.length_append, h1]
  simp [two]
theorem flat_drop : ∀ {l : List Chg} (_ : ∀ c ∈ l, c.2.length = 64) (i : Nat), (l.flatMap oneF).drop (66 * i) = (l.drop i).flatMap oneF
  | _, _, 0 => rfl
  | [], _, i + 1 => by simp
  | c :: r, h, i + 1 => by
    have hlen : (oneF c).length = 66 := by simp [oneF, two, h c (List.mem_cons_self ..)]
    rw [List.flatMap_cons, show 66 * (i + 1) = 66 + 66 * i by omega, ← List.drop_drop, List.drop_left' hlen, List.drop_succ_cons]
    exact flat_drop (fun x hx => h x (List.mem_cons_of_mem _ hx)) i
theorem undelta_delta {l : List Chg} {pages : Int} (h : rightF l pages = true) : undeltaF (deltaF l) pages = some l := by
  have hr := right_len h
  have h' := h
  unfold rightF at h'
  rw [Bool.and_eq_true, decide_eq_true_eq] at h'
  have hall := right_all h'.2 (by omega)
  have hfl : ∀ c ∈ l, c.2.length = 64 := fun c hc => (hall c hc).2.2
  have hc : countF (deltaF l) = l.length := by
    unfold countF deltaF two rd
    simp
    omega
  have hraw : rawF (deltaF l) = l := by
    unfold rawF
    rw [hc]
    apply List.ext_getElem (by simp)
    intro i h1 h2
    rw [List.getElem_map, List.getElem_range]
    have hd : (deltaF l).drop (2 + 66 * i) = oneF l[i] ++ (l.drop (i + 1)).flatMap oneF := by
      rw [← List.drop_drop]
      show ((l.flatMap oneF).drop (66 * i)) = _
      rw [flat_drop hfl, List.drop_eq_getElem_cons h2, List.flatMap_cons]
    have hr2 : ∀ k : Nat, rd (deltaF l) ((2 + 66 * i + k : Nat) : Int) = rd (oneF l[i] ++ (l.drop (i + 1)).flatMap oneF) (k : Int) := fun k => by
      rw [← hd]
      unfold rd
      rw [Int.toNat_natCast, Int.toNat_natCast, List.getD_eq_getElem?_getD, List.getD_eq_getElem?_getD, List.getElem?_drop]
    have hp := hall l[i] (List.getElem_mem h2)
    have e0 := hr2 0
    have e1 := hr2 1
    unfold chunkF
    apply Prod.ext
    · show rd (deltaF l) ((2 + 66 * i : Nat) : Int) * 256 + rd (deltaF l) ((3 + 66 * i : Nat) : Int) = _
      rw [show 3 + 66 * i = 2 + 66 * i + 1 by omega, e1]
      have e0' : rd (deltaF l) ((2 + 66 * i : Nat) : Int) = _ := e0
      rw [e0']
      have hpp : pages ≤ 64 := h'.1
      simp [oneF, two, rd]
      omega
    · show ((deltaF l).drop (4 + 66 * i)).take 64 = _
      rw [show 4 + 66 * i = 2 + 66 * i + 2 by omega, ← List.drop_drop, hd]
      show (((l[i]).2 ++ (l.drop (i + 1)).flatMap oneF)).take 64 = _
      rw [List.take_append_of_le_length (by rw [hp.2.2]; exact Nat.le_refl _), List.take_of_length_le (by rw [hp.2.2]; exact Nat.le_refl _)]
  unfold undeltaF
  rw [if_neg (by omega), if_neg (by rw [hc]; omega), hraw, h]
  rfl
end Go.Proofs.Ytjngnigelkgekaa.Store
