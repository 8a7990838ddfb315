/- Redo2, RedoQ, Redo3, Frame1, Frame2, Recs, Home3, Frame3, Frame4, StFrame: what StoreOpens needs. -/
import Derived.Test.YtjngnigelkgekaaTstoreOpens11
import Derived.OwnWalk
namespace Go.Proofs.Ytjngnigelkgekaa.Redo
set_option linter.unusedVariables false
set_option linter.unusedSimpArgs false
open Go.RowKit Go.Proofs.YtjngnigelkgekaaW.PrintWords Go.Proofs.YtjngnigelkgekaaW.PrintLast Go.Proofs.YtjngnigelkgekaaW.PrintMore Go.Proofs.Ytjngnigelkgekaa.Kit Go.Proofs.Ytjngnigelkgekaa.Plain Go.Proofs.Ytjngnigelkgekaa.Disk Go.Proofs.Ytjngnigelkgekaa.Root
theorem ar5 {p t kk m r q c' : Nat} (h1 : p + t = q) (h2 : m - t = r) (h3 : t ≤ m) (h4 : r ≤ c') (h5 : kk ≤ r) : ((p + (t + kk) : Nat) : Int) = (q : Int) + (kk : Int) ∧ m - (t + kk) = r - kk ∧ p + (t + kk) = q + kk ∧ t + kk + (m - t - kk) = m ∧ r - kk ≤ c' - kk := ⟨by omega, by omega, by omega, by omega, by omega⟩
theorem fit6 {i n len : Nat} (h : len = 64 * n) (hi : i < n) : 64 * (i + 1) ≤ len := by omega
theorem min3 {r f kk N : Nat} (h : min r N = kk) (hN : 64 - f = N) (hr : 0 < r) (hf : f < 64) : 1 ≤ kk ∧ kk ≤ r ∧ kk ≤ 64 ∧ f + N ≤ 64 := by omega
theorem fit7 {f N L : Nat} (h : f + N ≤ 64) : f + min N L ≤ 64 := Nat.le_trans (Nat.add_le_add_left (Nat.min_le_left _ _) _) h
theorem tk7 {xs : List Int} {r N kk : Nat} (h : min r N = kk) (hl : xs.length = r) : xs.take N = xs.take kk := by
  by_cases hle : r ≤ N
  · rw [List.take_of_length_le (by omega), List.take_of_length_le (by omega)]
  · rw [show kk = N by omega]
theorem wq2 {q kk : Nat} (h : q ≤ 4096) (h2 : kk ≤ 64) : wrap64 ((q : Int) + (kk : Int)) = (q : Int) + (kk : Int) ∧ IntKind.i64.wrap ((q : Int) + (kk : Int)) = (q : Int) + (kk : Int) := ⟨IntWalk.wrap64_in _ (by omega), by rw [IntKind.wrap_i64]; omega⟩
section
variable {w0 W : World} {F : List HP} {g n : Nat} {las : List Int} {wt : Wt}
set_option maxHeartbeats 1600000 in
set_option maxRecDepth 100000 in
theorem append_yes (h : Sep w0 W (Dsk g las wt :: F)) (hl : las.length = 64 * n) (hn : n ≤ 160) (hw : ∀ i b, wt i = some b → b.length = 64) (a b c at_ : Int) (hat : -9223372036854775808 ≤ at_ ∧ at_ ≤ 9223372036854775807) {A : Option Addr} {m cp : Nat} {xs : List Int} (hx : ∀ W', Sep w0 W' F → U8.C W' A m xs) (hcp : m ≤ cp) (hyes : okA n a b c at_ m = true) :
    Calls Try.prog 63 #[.pointer (some ⟨g, 0, none⟩), .agg #[.int .i64 a, .int .i64 b, .int .u32 c], .int .i64 at_, .slice A m cp] W fun e w' => e = .returned (.bool (okA n a b c at_ m)) ∧ Sep w0 w' (Dsk g las (appR n las wt a b c at_ xs) :: F) := by
  have A0 := Aside0.mk (h.newBlk 26 #[.int .i64 a, .int .i64 b, .int .u32 c]).drew
  have HLN : Aside0 ((las.length : Int) / 64 = (n : Int)) := ⟨by omega⟩
  have hxl := (hx W h.tail).1
  have hm : m ≤ 9223372036854775807 := (hx W h.tail).2.1
  have HL := Aside0.mk (And.intro hl (And.intro hn hw))
  have HX := Aside0.mk (And.intro hx hcp)
  have HXL := Aside0.mk hxl
  obtain ⟨sz, hsz⟩ : ∃ s, sizeF a = s := ⟨_, rfl⟩
  have hs0 := sizeF_in a
  rw [hsz] at hs0
  have HSZ := Aside0.mk hsz
  have hws : wrap64 (sz - (m : Int)) = sz - (m : Int) := IntWalk.wrap64_in _ (by omega)
  have hws2 : IntKind.i64.wrap (sz - (m : Int)) = sz - (m : Int) := by rw [IntKind.wrap_i64]; omega
  clear h hl hn hw hx hxl hsz
  have HV := Aside0.mk hyes
  have hoi0 := ok_in hyes
  have hrt : rightR a b c n = true := by
    have h := hyes
    unfold okA at h
    simp only [Bool.and_eq_true] at h
    exact h.1
  have HRT := Aside0.mk hrt
  have hneg : ¬ at_ < 0 := by omega
  have hd : decide (at_ < 0) = false := decide_eq_false hneg
  have hbig : ¬ sz - (m : Int) < at_ := by
    have h : sz = 64 * a := by have h1 := HSZ.out; unfold sizeF at h1; rw [if_neg (by omega)] at h1; omega
    omega
  have hd2 : decide (sz - (m : Int) < at_) = false := decide_eq_false hbig
  have HRR : Aside0 (appR n las wt a b c at_ xs = appW las wt at_.toNat xs) := ⟨by unfold appR; rw [HXL.out, HV.out]; rfl⟩
  have hoi := ok_in HV.out
  have HOI := Aside0.mk hoi
  clear hrt hcp hyes hoi0
  go_enter Try.func63, Try.ntmps63
  go_wp2_with fail
  refine start_ (n := 22) (S := fun w' => w'.cell? ⟨W.heap.size, 0, none⟩ = some (.int .i64 a) ∧ w'.cell? ⟨W.heap.size, 1, none⟩ = some (.int .i64 b) ∧ w'.cell? ⟨W.heap.size, 2, none⟩ = some (.int .u32 c)) (ds := [16]) #[false, false, false, false, false, false, false, false, false, false, false, false, false, false, false, false, false, false, false, false, false, false] (by kernel_rfl) rfl rfl ⟨(A0.out.cell 0).trans rfl, (A0.out.cell 1).trans rfl, (A0.out.cell 2).trans rfl⟩ (fun hHeld => ?_)
  refine pure_ (i := 0) (N := some 14) (v := ?_) (a' := ?_) #[true, false, false, false, false, false, false, false, false, false, false, false, false, false, false, false, false, false, false, false, false, false] rfl rfl (by kernel_rfl) (fun _ _ _ h => h) (Or.inl ⟨by rfl, ?_⟩) ?_ ?_
  rotate_left
  · intro w'
    go_simp
    with_reducible rfl
  rotate_left
  · simp only [Act.put, List.setIfInBounds_toArray, List.set_cons_zero, List.set_cons_succ, i64_w, i32_w]
    rfl
  refine pure_ (i := 1) (N := some 15) (v := ?_) (a' := ?_) #[true, true, false, false, false, false, false, false, false, false, false, false, false, false, false, false, false, false, false, false, false, false] rfl rfl (by kernel_rfl) (fun _ _ _ h => h) (Or.inl ⟨by rfl, ?_⟩) ?_ ?_
  rotate_left
  · intro w'
    go_simp
    with_reducible rfl
  rotate_left
  · simp only [Act.put, List.setIfInBounds_toArray, List.set_cons_zero, List.set_cons_succ, i64_w, i32_w]
    rfl
  refine pure_ (i := 2) (N := some 16) (v := ?_) (a' := ?_) #[true, true, true, false, false, false, false, false, false, false, false, false, false, false, false, false, false, false, false, false, false, false] rfl rfl (by kernel_rfl) (fun _ _ _ h => h) (Or.inl ⟨by rfl, ?_⟩) ?_ ?_
  rotate_left
  · intro w'
    go_simp
    with_reducible rfl
  rotate_left
  · simp only [Act.put, List.setIfInBounds_toArray, List.set_cons_zero, List.set_cons_succ, i64_w, i32_w]
    rfl
  refine pure_ (i := 4) (N := some 18) (v := ?_) (a' := ?_) #[true, true, true, false, true, false, false, false, false, false, false, false, false, false, false, false, false, false, false, false, false, false] rfl rfl (by kernel_rfl) (fun _ _ _ h => h) (Or.inl ⟨by rfl, ?_⟩) ?_ ?_
  rotate_left
  · intro w'
    go_simp
    with_reducible rfl
  rotate_left
  · simp only [Act.put, List.setIfInBounds_toArray, List.set_cons_zero, List.set_cons_succ, i64_w, i32_w]
    rfl
  refine take_ (i := 3) (N := some 17) (v := ?_) (a' := ?_) #[true, true, true, true, true, false, false, false, false, false, false, false, false, false, false, false, false, false, false, false, false, false] rfl rfl (by kernel_rfl) (fun _ _ _ h => h) (Or.inl ⟨by rfl, ?_⟩) hHeld ?_ ?_
  rotate_left
  · rintro w' ⟨s0, s1, s2⟩
    go_simp
    with_reducible rfl
  rotate_left
  · simp only [Act.put, List.setIfInBounds_toArray, List.set_cons_zero, List.set_cons_succ, i64_w, i32_w]
    rfl
  refine one_ (i := 5) (N := some 19) #[true, true, true, true, true, true, false, false, false, false, false, false, false, false, false, false, false, false, false, false, false, false] rfl rfl (by kernel_rfl) (by decide) (fun K hK => ?_)
  refine goes_ Try.func50 (by kernel_rfl) rfl #[.pointer (some ⟨g, 0, none⟩)] (by rfl) rfl rfl (by simp only [List.map_toArray, List.map_cons, List.map_nil]; rfl) ?_
  with_reducible refine (len_ A0.out.at2).mono ?_
  rintro e w4 ⟨rfl, rfl⟩
  refine ⟨_, rfl, ?_⟩
  rw [HLN.out]
  refine hK.out _ _ ⟨(A0.out.cell 0).trans rfl, (A0.out.cell 1).trans rfl, (A0.out.cell 2).trans rfl⟩ (fun hHeld => ?_)
  clear hK K
  refine norm_ (a' := ?_) ?_ ?_
  rotate_left
  · show Act.put _ (some 19) _ = _
    simp only [Act.put, List.setIfInBounds_toArray, List.set_cons_zero, List.set_cons_succ, i64_w, i32_w]
    rfl
  refine one_ (i := 6) (N := some 20) #[true, true, true, true, true, true, true, false, false, false, false, false, false, false, false, false, false, false, false, false, false, false] rfl rfl (by kernel_rfl) (by decide) (fun K hK => ?_)
  refine goes_ Try.func68 (by kernel_rfl) rfl #[.agg #[.int .i64 a, .int .i64 b, .int .u32 c], .int .i64 (n : Int)] (by rfl) rfl rfl (by simp only [List.map_toArray, List.map_cons, List.map_nil]; rfl) ?_
  with_reducible refine (right_ a b c (n : Int) _).mono ?_
  rintro e w5 ⟨rfl, hb5⟩
  refine ⟨_, rfl, ?_⟩
  rw [HRT.out]
  have A5 := Aside0.mk (A0.out.below hb5)
  clear hb5
  refine hK.out _ _ ⟨(A5.out.cell 0).trans rfl, (A5.out.cell 1).trans rfl, (A5.out.cell 2).trans rfl⟩ (fun hHeld => ?_)
  clear hK K
  refine norm_ (a' := ?_) ?_ ?_
  rotate_left
  · show Act.put _ (some 20) _ = _
    simp only [Act.put, List.setIfInBounds_toArray, List.set_cons_zero, List.set_cons_succ, i64_w, i32_w]
    rfl
  refine pure_ (i := 7) (N := some 21) (v := ?_) (a' := ?_) #[true, true, true, true, true, true, true, true, false, false, false, false, false, false, false, false, false, false, false, false, false, false] rfl rfl (by kernel_rfl) (fun _ _ _ h => h) (Or.inl ⟨by rfl, ?_⟩) ?_ ?_
  rotate_left
  · intro w'
    go_simp
    with_reducible rfl
  rotate_left
  · simp only [Act.put, List.setIfInBounds_toArray, List.set_cons_zero, List.set_cons_succ, i64_w, i32_w]
    rfl
  refine pure_ (i := 8) (N := some 22) (v := ?_) (a' := ?_) #[true, true, true, true, true, true, true, true, true, false, false, false, false, false, false, false, false, false, false, false, false, false] rfl rfl (by kernel_rfl) (fun _ _ _ h => h) (Or.inl ⟨by rfl, ?_⟩) ?_ ?_
  rotate_left
  · intro w'
    go_simp
    with_reducible rfl
  rotate_left
  · simp only [Act.put, List.setIfInBounds_toArray, List.set_cons_zero, List.set_cons_succ, i64_w, i32_w]
    rfl
  refine pure_ (i := 9) (N := some 23) (v := ?_) (a' := ?_) #[true, true, true, true, true, true, true, true, true, true, false, false, false, false, false, false, false, false, false, false, false, false] rfl rfl (by kernel_rfl) (fun _ _ _ h => h) (Or.inl ⟨by rfl, ?_⟩) ?_ ?_
  rotate_left
  · intro w'
    go_simp
    with_reducible rfl
  rotate_left
  · simp only [Act.put, List.setIfInBounds_toArray, List.set_cons_zero, List.set_cons_succ, i64_w, i32_w]
    rfl
  refine pure_ (i := 10) (N := some 24) (v := ?_) (a' := ?_) #[true, true, true, true, true, true, true, true, true, true, true, false, false, false, false, false, false, false, false, false, false, false] rfl rfl (by kernel_rfl) (fun _ _ _ h => h) (Or.inl ⟨by rfl, ?_⟩) ?_ ?_
  rotate_left
  · intro w'
    go_simp
    with_reducible rfl
  rotate_left
  · simp only [Act.put, List.setIfInBounds_toArray, List.set_cons_zero, List.set_cons_succ, i64_w, i32_w]
    rfl
  refine pure_ (i := 11) (N := some 25) (v := ?_) (a' := ?_) #[true, true, true, true, true, true, true, true, true, true, true, true, false, false, false, false, false, false, false, false, false, false] rfl rfl (by kernel_rfl) (fun _ _ _ h => h) (Or.inl ⟨by rfl, ?_⟩) ?_ ?_
  rotate_left
  · intro w'
    go_simp
    with_reducible rfl
  rotate_left
  · simp only [Act.put, List.setIfInBounds_toArray, List.set_cons_zero, List.set_cons_succ, i64_w, i32_w]
    rfl
  refine pure_ (i := 12) (N := some 26) (v := ?_) (a' := ?_) #[true, true, true, true, true, true, true, true, true, true, true, true, true, false, false, false, false, false, false, false, false, false] rfl rfl (by kernel_rfl) (fun _ _ _ h => h) (Or.inl ⟨by rfl, ?_⟩) ?_ ?_
  rotate_left
  · intro w'
    go_simp
    with_reducible rfl
  rotate_left
  · simp only [Act.put, List.setIfInBounds_toArray, List.set_cons_zero, List.set_cons_succ, i64_w, i32_w]
    rfl
  refine pure_ (i := 13) (N := some 27) (v := ?_) (a' := ?_) #[true, true, true, true, true, true, true, true, true, true, true, true, true, true, false, false, false, false, false, false, false, false] rfl rfl (by kernel_rfl) (fun _ _ _ h => h) (Or.inl ⟨by rfl, ?_⟩) ?_ ?_
  rotate_left
  · intro w'
    go_simp
    with_reducible rfl
  rotate_left
  · simp only [Act.put, List.setIfInBounds_toArray, List.set_cons_zero, List.set_cons_succ, i64_w, i32_w]
    rfl
  refine pure_ (i := 14) (N := some 28) (v := ?_) (a' := ?_) #[true, true, true, true, true, true, true, true, true, true, true, true, true, true, true, false, false, false, false, false, false, false] rfl rfl (by kernel_rfl) (fun _ _ _ h => h) (Or.inl ⟨by rfl, ?_⟩) ?_ ?_
  rotate_left
  · intro w'
    go_simp
    with_reducible rfl
  rotate_left
  · simp only [Act.put, List.setIfInBounds_toArray, List.set_cons_zero, List.set_cons_succ, i64_w, i32_w]
    rfl
  refine pure_ (i := 17) (N := some 31) (v := ?_) (a' := ?_) #[true, true, true, true, true, true, true, true, true, true, true, true, true, true, true, false, false, true, false, false, false, false] rfl rfl (by kernel_rfl) (fun _ _ _ h => h) (Or.inl ⟨by rfl, ?_⟩) ?_ ?_
  rotate_left
  · intro w'
    go_simp
    with_reducible rfl
  rotate_left
  · simp only [Act.put, List.setIfInBounds_toArray, List.set_cons_zero, List.set_cons_succ, i64_w, i32_w]
    rfl
  refine pure_ (i := 18) (N := some 32) (v := ?_) (a' := ?_) #[true, true, true, true, true, true, true, true, true, true, true, true, true, true, true, false, false, true, true, false, false, false] rfl rfl (by kernel_rfl) (fun _ _ _ h => h) (Or.inl ⟨by rfl, ?_⟩) ?_ ?_
  rotate_left
  · intro w'
    go_simp
    with_reducible rfl
  rotate_left
  · simp only [Act.put, List.setIfInBounds_toArray, List.set_cons_zero, List.set_cons_succ, i64_w, i32_w]
    rfl
  refine take_ (i := 15) (N := some 29) (v := ?_) (a' := ?_) #[true, true, true, true, true, true, true, true, true, true, true, true, true, true, true, true, false, true, true, false, false, false] rfl rfl (by kernel_rfl) (fun _ _ _ h => h) (Or.inl ⟨by rfl, ?_⟩) hHeld ?_ ?_
  rotate_left
  · rintro w' ⟨s0, s1, s2⟩
    go_simp
    with_reducible rfl
  rotate_left
  · simp only [Act.put, List.setIfInBounds_toArray, List.set_cons_zero, List.set_cons_succ, i64_w, i32_w]
    rfl
  refine last_ (i := 16) (N := some 30) #[true, true, true, true, true, true, true, true, true, true, true, true, true, true, true, true, true, true, true, false, false, false] rfl rfl (by kernel_rfl) (by decide) (fun K hK => ?_)
  refine goes_ Try.func113 (by kernel_rfl) rfl #[.agg #[.int .i64 a, .int .i64 b, .int .u32 c]] (by rfl) rfl rfl (by simp only [List.map_toArray, List.map_cons, List.map_nil]; rfl) ?_
  with_reducible refine (size_ a b c _).mono ?_
  rintro e w6 ⟨rfl, hb6⟩
  refine ⟨_, rfl, ?_⟩
  rw [HSZ.out]
  have A6 := Aside0.mk (A5.out.below hb6)
  clear hb6
  refine hK.out _ _ ?_
  clear hK K
  refine norm_ (a' := ?_) ?_ ?_
  rotate_left
  · show Act.put _ (some 30) _ = _
    simp only [Act.put, List.setIfInBounds_toArray, List.set_cons_zero, List.set_cons_succ, i64_w, i32_w]
    rfl
  refine pure_ (i := 19) (N := some 33) (v := ?_) (a' := ?_) #[true, true, true, true, true, true, true, true, true, true, true, true, true, true, true, true, true, true, true, true, false, false] rfl rfl (by kernel_rfl) (fun _ _ _ h => h) (Or.inl ⟨by rfl, ?_⟩) ?_ ?_
  rotate_left
  · intro w'
    go_simp
    with_reducible rfl
  rotate_left
  · simp only [Act.put, List.setIfInBounds_toArray, List.set_cons_zero, List.set_cons_succ, i64_w, i32_w]
    rfl
  refine pure_ (i := 20) (N := some 34) (v := ?_) (a' := ?_) #[true, true, true, true, true, true, true, true, true, true, true, true, true, true, true, true, true, true, true, true, true, false] rfl rfl (by kernel_rfl) (fun _ _ _ h => h) (Or.inl ⟨by rfl, ?_⟩) ?_ ?_
  rotate_left
  · intro w'
    go_simp
    with_reducible rfl
  rotate_left
  · simp only [Act.put, List.setIfInBounds_toArray, List.set_cons_zero, List.set_cons_succ, i64_w, i32_w]
    rfl
  refine pure_ (i := 21) (N := some 35) (v := ?_) (a' := ?_) #[true, true, true, true, true, true, true, true, true, true, true, true, true, true, true, true, true, true, true, true, true, true] rfl rfl (by kernel_rfl) (fun _ _ _ h => h) (Or.inl ⟨by rfl, ?_⟩) ?_ ?_
  rotate_left
  · intro w'
    go_simp
    with_reducible rfl
  rotate_left
  · simp only [Act.put, List.setIfInBounds_toArray, List.set_cons_zero, List.set_cons_succ, i64_w, i32_w]
    rfl
  refine done_ (by kernel_rfl) ?_
  obtain ⟨p, rfl⟩ := Int.eq_ofNat_of_zero_le (show 0 ≤ at_ by omega)
  have A7 := Aside0.mk A6.out.tail
  have HP0 : Aside0 (p + m ≤ 4096 ∧ 128 + p + m ≤ 64 * n) := ⟨by omega⟩
  clear hd hd2 hneg hbig hat hoi hws hws2 hs0
  go_wp2_with fail
  go_loopg [2, 3] m (fun k_ s v wr => ∃ (t : Nat) (A' : Option Addr) (c' : Nat) (wt' : Wt), s = .int .i64 ((p + t : Nat) : Int) ∧ v = .slice A' (m - t) c' ∧ t + k_ = m ∧ m - t ≤ c' ∧ (∀ W', Sep w0 W' F → U8.C W' A' (m - t) (xs.drop t)) ∧ (∀ i b, wt' i = some b → b.length = 64) ∧ appW las wt' (p + t) (xs.drop t) = appW las wt p xs ∧ Sep w0 wr (Dsk g las wt' :: F))
  case atStart => exact ⟨0, A, cp, wt, rfl, rfl, by omega, HX.out.2, HX.out.1, HL.out.2.2, rfl, A7.out⟩
  case round =>
    obtain ⟨t, A', c', wt', rfl, rfl, htk, hc', hC', hw', hap, hS⟩ := hrel
    have AK := Aside0.mk htk
    have AS := Aside0.mk hS
    have HC' := Aside0.mk (And.intro hC' (And.intro hw' (And.intro hap hc')))
    obtain ⟨r, hr⟩ : ∃ r, m - t = r := ⟨_, rfl⟩
    rw [hr] at HC' hc' ⊢
    have HR := Aside0.mk hr
    have hr0 : r ≤ 4096 := by have := HP0.out; omega
    by_cases h0 : r = 0
    case pos =>
      subst h0
      have HF : Aside0 (wt' = appW las wt p xs) := ⟨by
        have h := HC'.out.2.2.1
        rw [List.drop_of_length_le (by rw [HXL.out]; omega), appW_nil] at h
        exact h⟩
      clear hS hC' hw' hap htk hr
      go_wp2_with fail
      go_ret
      exact ⟨by rw [HV.out]; first | rfl | (simp; done), by rw [HRR.out, Int.toNat_natCast, ← HF.out]; exact AS.out⟩
    case neg =>
    have hr1 : 0 < r := by omega
    have hr1i : (0 : Int) < (r : Int) := by omega
    obtain ⟨q, hq⟩ : ∃ q, p + t = q := ⟨_, rfl⟩
    rw [hq] at HC' ⊢
    have HQ := Aside0.mk hq
    have HQB : Aside0 (128 + q + r ≤ 64 * n ∧ q ≤ 4096) := ⟨by have := HP0.out; omega⟩
    have hq0 : q ≤ 4096 := HQB.out.2
    obtain ⟨i, hi⟩ : ∃ i, 2 + q / 64 = i := ⟨_, rfl⟩
    obtain ⟨f, hf⟩ : ∃ f, q % 64 = f := ⟨_, rfl⟩
    have hf64 : f < 64 := by omega
    have hin : i < n := by have := HQB.out; omega
    have HI := Aside0.mk (And.intro hi (And.intro hf hin))
    have e1 : (q : Int).tdiv 64 = ((q / 64 : Nat) : Int) := by rw [Int.tdiv_eq_ediv_of_nonneg (by omega)]; omega
    have e2 : (q : Int).tmod 64 = (f : Int) := by rw [Int.tmod_eq_emod_of_nonneg (by omega)]; omega
    have e3 : (q : Int) % 64 = (f : Int) := by omega
    have e4 : (2 : Int) + (q : Int) / 64 = (i : Int) := by omega
    have e5 : (2 : Int) + ((q / 64 : Nat) : Int) = (i : Int) := by omega
    have HSL : Aside0 ((secF n las wt' i).length = 64) := ⟨by rw [secF_len HL.out.1 HC'.out.2.1, if_pos hin]⟩
    clear hS hC' hw' hap htk hr hq hi hf hin
    go_wp2_with fail
    refine (read_in AS.out i (fit6 HL.out.1 HI.out.2.2)).mono ?_
    rintro e w3 ⟨v3, rfl, hS3⟩
    have hsf : (wt' i).getD (sec las i) = secF n las wt' i := by unfold secF; rw [if_pos HI.out.2.2]
    rw [hsf] at hS3
    obtain ⟨gx, cx, rfl⟩ := hS3.rowFormN HSL.out (by decide)
    have hcx := hS3.rowC.2.1
    have hcut := Ref.cutF_ (g := gx) (N := 64) (c := cx) (j := f) (J := (f : Int)) rfl hf64 hcx
    obtain ⟨N, hN⟩ : ∃ N, 64 - f = N := ⟨_, rfl⟩
    obtain ⟨CX, hCX⟩ : ∃ N, cx - f = N := ⟨_, rfl⟩
    rw [hN, hCX] at hcut
    have HN := Aside0.mk hN
    have B3 := Aside0.mk hS3
    have HCB := Aside0.mk (HC'.out.1 _ hS3.tail.tail)
    obtain ⟨kk, hkk⟩ : ∃ kk, min r N = kk := ⟨_, rfl⟩
    have HKK := Aside0.mk hkk
    obtain ⟨hk1, hkr, hk64, hfN⟩ := min3 hkk hN hr1 hf64
    have HFN := Aside0.mk hfN
    obtain ⟨hwq, hwq2⟩ := wq2 hq0 hk64
    have htm : t ≤ m := by have h := AK.out; exact h ▸ Nat.le_add_right _ _
    have HAR := Aside0.mk (ar5 HQ.out HR.out htm hc' hkr)
    clear htm
    clear hS3 hsf hkk hN hCX hfN
    go_wp2_with (first | (refine gate_builtin (b := .copy) (xs := #[.tmp 52, .tmp 53]) rfl ?_; refine B3.out.copyRow rfl (.tmp 52) (.tmp 53) rfl Try.underlying30 size1 (o := f) (n' := N) (c' := CX) (m := r) (c := c') (A := A') (ys := xs.drop t) rfl rfl HCB.out HFN.out ?_; intro W4 hS4; rw [HKK.out]; have B4 : Aside0 (Sep w0 W4 (Dsk g las wt' :: Row U8 5 (.slice (some ⟨gx, 0, none⟩) 64 cx) (over (secF n las wt' i) f ((xs.drop t).take N)) :: F)) := ⟨hS4.at2⟩; clear hS4))
    have HXX : Aside0 ((over (secF n las wt' i) f ((xs.drop t).take N)).length = 64) := ⟨by rw [over_len (by rw [HSL.out, List.length_take]; exact fit7 HFN.out), HSL.out]⟩
    have hrl : (xs.drop t).length = r := by rw [List.length_drop, HXL.out]; exact HR.out
    have HST : Aside0 (appW las (putW n wt' i (over (secF n las wt' i) f ((xs.drop t).take N))) (q + kk) (xs.drop (t + kk)) = appW las wt p xs) := ⟨by
      have h := appW_step (n := n) (at_ := q) (las := las) (b := xs.drop t) (wt := wt') HL.out.1 HC'.out.2.1 (fun h => by rw [h] at hrl; simp at hrl; omega) (by rw [hrl]; exact HQB.out.1) (k := kk) (by rw [hrl, HI.out.2.1, HN.out, Nat.min_comm]; exact HKK.out.symm)
      rw [HI.out.1, HI.out.2.1, List.drop_drop] at h
      have htk : (xs.drop t).take N = (xs.drop t).take kk := tk7 HKK.out hrl
      rw [htk]
      exact h.trans HC'.out.2.2.1⟩
    have HLW := Aside0.mk (putW_len (n := n) (i := i) (b := over (secF n las wt' i) f ((xs.drop t).take N)) HC'.out.2.1)
    generalize over (secF n las wt' i) f ((xs.drop t).take N) = y at B4 HXX HST HLW
    clear hcut
    refine (dwrite_ B4.out HL.out.1 HL.out.2.1 i (b := y) B4.out.at2.rowC' hcx).mono ?_
    rintro e w5 ⟨rfl, hS5⟩
    have B5 := Aside0.mk hS5
    have hcut2 := cutLo Try.underlying30 Base.infoB A' r c' kk (J := (kk : Int)) rfl hkr hc'
    have HLO : Aside0 (∀ W' : World, U8.C W' A' r (xs.drop t) → U8.C W' (if c' = kk then A' else A'.map (·.add (kk * 1))) (r - kk) ((xs.drop t).drop kk)) := ⟨fun W' hC => C_lo (a := kk) (c := c') hC hkr hc'⟩
    obtain ⟨AL, hAL⟩ : ∃ AL, (if c' = kk then A' else A'.map (·.add (kk * 1))) = AL := ⟨_, rfl⟩
    rw [hAL] at HLO
    simp only [hAL] at hcut2
    clear hAL
    clear hS5 hrl
    go_wp2_with fail
    go_quiet (fail)
    go_wp2_with fail
    go_roundg (gk - kk)
    case measure => have := AK.out; have := HR.out; omega
    case rel =>
      refine ⟨t + kk, AL, c' - kk, putW n wt' i y, by rw [HAR.out.1], by rw [HAR.out.2.1], by have h1 := AK.out; have h2 := HR.out; have h3 := HAR.out.2.2.2.1; omega, by rw [HAR.out.2.1]; exact HAR.out.2.2.2.2, fun W' hW => ?_, HLW.out, by rw [HAR.out.2.2.1]; exact HST.out, ?_⟩
      · have h := HLO.out W' (HC'.out.1 W' hW)
        rw [List.drop_drop] at h
        rw [HAR.out.2.1]
        exact h
      · exact (B5.out.drewN _).drop2
theorem append_ (h : Sep w0 W (Dsk g las wt :: F)) (hl : las.length = 64 * n) (hn : n ≤ 160) (hw : ∀ i b, wt i = some b → b.length = 64) (a b c at_ : Int) (hat : -9223372036854775808 ≤ at_ ∧ at_ ≤ 9223372036854775807) {A : Option Addr} {m cp : Nat} {xs : List Int} (hx : ∀ W', Sep w0 W' F → U8.C W' A m xs) (hcp : m ≤ cp) :
    Calls Try.prog 63 #[.pointer (some ⟨g, 0, none⟩), .agg #[.int .i64 a, .int .i64 b, .int .u32 c], .int .i64 at_, .slice A m cp] W fun e w' => e = .returned (.bool (okA n a b c at_ m)) ∧ Sep w0 w' (Dsk g las (appR n las wt a b c at_ xs) :: F) := by
  cases ho : okA n a b c at_ m with
  | false =>
    refine (append_no h hl hn hw a b c at_ hat hx hcp ho).mono ?_
    rintro e w' ⟨rfl, hS⟩
    exact ⟨by rw [ho], hS⟩
  | true =>
    refine (append_yes h hl hn hw a b c at_ hat hx hcp ho).mono ?_
    rintro e w' ⟨rfl, hS⟩
    exact ⟨by rw [ho], hS⟩
end
end Go.Proofs.Ytjngnigelkgekaa.Redo
namespace Go.Proofs.Ytjngnigelkgekaa.Redo
set_option linter.unusedVariables false
open Go.RowKit Go.Proofs.YtjngnigelkgekaaW.PrintWords Go.Proofs.YtjngnigelkgekaaW.PrintLast Go.Proofs.YtjngnigelkgekaaW.PrintMore Go.Proofs.Ytjngnigelkgekaa.Kit Go.Proofs.Ytjngnigelkgekaa.Plain Go.Proofs.Ytjngnigelkgekaa.Disk Go.Proofs.Ytjngnigelkgekaa.Root
theorem appW_len {n at_ : Nat} {las b : List Int} {wt : Wt} (hl : las.length = 64 * n) (hw : ∀ i b, wt i = some b → b.length = 64) (hfit : 128 + at_ + b.length ≤ 64 * n) : ∀ i c, appW las wt at_ b i = some c → c.length = 64 := by
  intro i c h
  unfold appW at h
  split at h
  · rename_i ht
    injection h with h
    rw [← h]
    exact sec_len (by rw [over_len (by rw [Ref.flushed_len hl hw]; omega), Ref.flushed_len hl hw]; have := ht.2.1; omega)
  · exact hw i c h
theorem appW_flushed {n at_ : Nat} {las b : List Int} {wt : Wt} (hl : las.length = 64 * n) (hw : ∀ i b, wt i = some b → b.length = 64) (hfit : 128 + at_ + b.length ≤ 64 * n) : flushed las (appW las wt at_ b) = over (flushed las wt) (128 + at_) b := by
  have hF := Ref.flushed_len hl hw
  have hG : (over (flushed las wt) (128 + at_) b).length = 64 * n := by rw [over_len (by omega)]; exact hF
  rw [← secs_self hG]
  unfold flushed
  rw [show las.length / 64 = n by omega]
  refine secs_congr (fun i hi => ?_)
  show (appW las wt at_ b i).getD (sec las i) = sec (over (secs n fun i => (wt i).getD (sec las i)) (128 + at_) b) i
  have hsF := Ref.sec_flushed hl hw hi
  have hfl : flushed las wt = secs n (fun i => (wt i).getD (sec las i)) := by unfold flushed; rw [show las.length / 64 = n by omega]
  rw [hfl] at hsF hF
  unfold appW
  rw [hfl]
  by_cases h : b ≠ [] ∧ 64 * i < 128 + at_ + b.length ∧ 128 + at_ < 64 * i + 64
  · rw [if_pos h]; rfl
  · rw [if_neg h, ← hsF]
    by_cases hb : b = []
    · subst hb; rw [over_nil]
    · refine (sec_over_out (by omega) ?_).symm
      by_cases h1 : 64 * i < 128 + at_ + b.length
      · left
        have : ¬ 128 + at_ < 64 * i + 64 := fun h2 => h ⟨hb, h1, h2⟩
        omega
      · right; omega
theorem secs_shift {G : List Int} (s : Nat) : ∀ m : Nat, 64 * (s + m) ≤ G.length → secs m (fun i => sec G (s + i)) = (G.take (64 * (s + m))).drop (64 * s) := by
  intro m h
  apply List.ext_getElem?
  intro p
  rw [secs_get (fun i hi => sec_len (by omega)), List.getElem?_drop, List.getElem?_take]
  by_cases hp : p < 64 * m
  · rw [if_pos hp, if_pos (by omega), sec_get _ _ _ (by omega), show 64 * (s + p / 64) + p % 64 = 64 * s + p by omega]
  · rw [if_neg hp, if_neg (by omega)]
theorem logF_of {n a : Nat} {las : List Int} {wt : Wt} {b c : Int} (hl : las.length = 64 * n) (hw : ∀ i b, wt i = some b → b.length = 64) (hr : rightR (a : Int) b c n = true) : logF n las wt (a : Int) b c = ((flushed las wt).take (64 * (2 + a))).drop 128 := by
  have h1 := of_decide_eq_true hr
  have hF := Ref.flushed_len hl hw
  rw [← secs_shift 2 a (by omega)]
  unfold logF
  rw [if_pos hr, Int.toNat_natCast]
  refine secs_congr (fun i hi => ?_)
  unfold secF
  rw [if_pos (by omega), Ref.sec_flushed hl hw (by omega)]
end Go.Proofs.Ytjngnigelkgekaa.Redo
namespace Go.Proofs.Ytjngnigelkgekaa.Redo
set_option linter.unusedVariables false
set_option linter.unusedSimpArgs false
open Go.RowKit Go.Proofs.YtjngnigelkgekaaW.PrintWords Go.Proofs.YtjngnigelkgekaaW.PrintLast Go.Proofs.YtjngnigelkgekaaW.PrintMore Go.Proofs.Ytjngnigelkgekaa.Kit Go.Proofs.Ytjngnigelkgekaa.Plain Go.Proofs.Ytjngnigelkgekaa.Disk Go.Proofs.Ytjngnigelkgekaa.Root
section
variable {w0 W : World} {F : List HP} {g n : Nat} {las : List Int} {wt : Wt}
end
end Go.Proofs.Ytjngnigelkgekaa.Redo
namespace Go.Proofs.Ytjngnigelkgekaa.Frame
set_option linter.unusedVariables false
set_option linter.unusedSimpArgs false
open Go.RowKit Go.Proofs.YtjngnigelkgekaaW.PrintWords Go.Proofs.YtjngnigelkgekaaW.PrintLast Go.Proofs.YtjngnigelkgekaaW.PrintMore Go.Proofs.Ytjngnigelkgekaa.Kit Go.Proofs.Ytjngnigelkgekaa.Base Go.Proofs.Ytjngnigelkgekaa.Plain
/-- The record at the beginning, if there is one. -/
def readF (b : List Int) (ep sq : Int) : Option (List Int) :=
  if 16 ≤ b.length ∧ getF b 0 = ep ∧ getF b 4 = sq ∧ 16 + (getF b 8).toNat ≤ b.length ∧ getF b ((12 + (getF b 8).toNat : Nat) : Int) = sumF (b.take (12 + (getF b 8).toNat)) then some ((b.take (12 + (getF b 8).toNat)).drop 12) else none
theorem readF_some {b x : List Int} {ep sq : Int} (h : readF b ep sq = some x) : 16 + x.length ≤ b.length := by
  unfold readF at h
  split at h
  · rename_i h1
    injection h with h
    rw [← h, List.length_drop, List.length_take]
    omega
  · cases h
theorem readF_bytes {b x : List Int} {ep sq : Int} (hb : Bytes b) (h : readF b ep sq = some x) : Bytes x := by
  unfold readF at h
  split at h
  · injection h with h
    rw [← h]
    exact (hb.take _).drop _
  · cases h
/-- What Read says of it. -/
def okR (b : List Int) (ep sq : Int) (e : Ending) (w w' : World) : Prop := match readF b ep sq with
  | none => e = .returned (.tuple #[.slice none 0 0, .int .i64 0, .bool false]) ∧ Below w.heap.size w w'
  | some x => ∃ v, e = .returned (.tuple #[v, .int .i64 ((16 + x.length : Nat) : Int), .bool true]) ∧ Sep w w' [Row U8 5 v x]
theorem okR_no {b : List Int} {ep sq : Int} {e : Ending} {w w' : World} (h : readF b ep sq = none) (he : e = .returned (.tuple #[.slice none 0 0, .int .i64 0, .bool false])) (hb : Below w.heap.size w w') : okR b ep sq e w w' := by
  unfold okR
  rw [h]
  exact ⟨he, hb⟩
theorem okR_yes {b x : List Int} {ep sq : Int} {e : Ending} {w w' : World} {v : Value} (h : readF b ep sq = some x) (he : e = .returned (.tuple #[v, .int .i64 ((16 + x.length : Nat) : Int), .bool true])) (hS : Sep w w' [Row U8 5 v x]) : okR b ep sq e w w' := by
  unfold okR
  rw [h]
  exact ⟨v, he, hS⟩
theorem rd_le (l : List Int) (hb : Bytes l) (i : Int) : 0 ≤ rd l i ∧ rd l i ≤ 255 := hb.at i
theorem getF_in {l : List Int} (hb : Bytes l) (a : Int) : 0 ≤ getF l a ∧ getF l a ≤ 4294967295 := by
  unfold getF
  split
  · omega
  · have h0 := rd_le l hb a
    have h1 := rd_le l hb (a + 1)
    have h2 := rd_le l hb (a + 2)
    have h3 := rd_le l hb (a + 3)
    omega
theorem fr_wrap {k n : Nat} (hk : (k : Int) ≤ 4294967295) (hn : 16 ≤ n) (hm : n ≤ 1000000) : IntKind.u64.wrap (k : Int) = (k : Int) ∧ wrap64 ((n : Int) - 16) = (n : Int) - 16 ∧ IntKind.i64.wrap ((n : Int) - 16) = (n : Int) - 16 ∧ IntKind.u64.wrap ((n : Int) - 16) = (n : Int) - 16 ∧ IntKind.i64.wrap (k : Int) = (k : Int) ∧ wrap64 (12 + (k : Int)) = 12 + (k : Int) ∧ wrap64 (k : Int) = (k : Int) :=
  ⟨by rw [IntKind.wrap_u64]; omega, IntWalk.wrap64_in _ (by omega), by rw [IntKind.wrap_i64]; omega, by rw [IntKind.wrap_u64]; omega, by rw [IntKind.wrap_i64]; omega, IntWalk.wrap64_in _ (by omega), IntWalk.wrap64_in _ (by omega)⟩
theorem fr_wrap2 {k : Nat} (hk : (k : Int) ≤ 4294967295) : wrap64 (12 + (k : Int) + 4) = ((16 + k : Nat) : Int) ∧ 12 + (k : Int) + 4 = ((16 + k : Nat) : Int) ∧ wrap64 (16 + (k : Int)) = ((16 + k : Nat) : Int) ∧ 16 + (k : Int) = ((16 + k : Nat) : Int) := ⟨by rw [IntWalk.wrap64_in _ (by omega)]; omega, by omega, by rw [IntWalk.wrap64_in _ (by omega)]; omega, by omega⟩
theorem fr_len {l : List Int} {k n : Nat} (hl : l.length = n) (h : 16 + k ≤ n) : ((l.take (12 + k)).drop 12).length = k := by
  rw [List.length_drop, List.length_take]; omega
theorem readF_of {l : List Int} {ep sq : Int} {k J n : Nat} (hl : l.length = n) (h16 : 16 ≤ n) (h0 : getF l 0 = ep) (h4 : getF l 4 = sq) (hkt : (getF l 8).toNat = k) (hJ : 12 + k = J) (h8 : 16 + k ≤ n) :
    readF l ep sq = if getF l (J : Int) = sumF (l.take J) then some ((l.take J).drop 12) else none := by
  unfold readF
  rw [hkt, hJ]
  by_cases h : getF l (J : Int) = sumF (l.take J)
  · have hc : 16 ≤ l.length ∧ getF l 0 = ep ∧ getF l 4 = sq ∧ 16 + k ≤ l.length ∧ getF l (J : Int) = sumF (l.take J) := ⟨by rw [hl]; exact h16, h0, h4, by rw [hl]; exact h8, h⟩
    exact (if_pos hc).trans (if_pos h).symm
  · exact (if_neg (fun h2 => h h2.2.2.2.2)).trans (if_neg h).symm
theorem fr_bnds {n c k J : Nat} (hJ : 12 + k = J) (h8 : 16 + k ≤ n) (hn : n ≤ 1000000) (hc : n ≤ c) : (-9223372036854775808 ≤ (J : Int) ∧ (J : Int) ≤ 9223372036854775807) ∧ 12 ≤ J ∧ J - 12 = k ∧ k ≤ c - 12 ∧ k < 140737488355328 := ⟨⟨by omega, by omega⟩, by omega, by omega, by omega, by omega⟩
set_option maxHeartbeats 1600000 in
set_option maxRecDepth 100000 in
theorem fread_ {A : Option Addr} {n c : Nat} {l : List Int} {w : World} (hr : U8.C w A n l) (hc : n ≤ c) (hb : Bytes l) (hn : n ≤ 1000000) (ep sq : Int) :
    Calls Try.prog 140 #[.slice A n c, .int .u32 ep, .int .u32 sq] w fun e w' => okR l ep sq e w w' := by
  have HR := Aside0.mk (And.intro hr (And.intro hc hb))
  have hl := hr.1
  have HL := Aside0.mk hl
  by_cases h16 : n < 16
  case pos =>
    have HV : Aside0 (readF l ep sq = none) := ⟨if_neg (fun h => by omega)⟩
    have h1 : (n : Int) < 16 := by omega
    clear hr hc hb hl
    go_enter Try.func140, Try.ntmps140
    go_wp2_with fail
    go_ret3
    exact okR_no HV.out (by first | rfl | (simp; done)) (Below.refl _ _)
  case neg =>
  have h1 : ¬ (n : Int) < 16 := by omega
  by_cases h0 : getF l 0 = ep
  case neg =>
    have HV : Aside0 (readF l ep sq = none) := ⟨if_neg (fun h => h0 h.2.1)⟩
    have hn1 : (getF l 0 != ep) = true := by simpa using h0
    clear hr hc hb hl h0
    go_enter Try.func140, Try.ntmps140
    go_wp2_with fail
    refine (Sum.get_ (l := l) (a := 0) HR.out.1 HR.out.2.1 HR.out.2.2 (by decide)).mono ?_
    rintro e w1 ⟨rfl, rfl⟩
    generalize getF l 0 = x at hn1
    go_wp2_with fail
    go_ret3
    exact okR_no HV.out (by first | rfl | (simp; done)) (Below.refl _ _)
  case pos =>
  have H0 := Aside0.mk h0
  have hq1 : (ep != ep) = false := by simp
  by_cases h4 : getF l 4 = sq
  case neg =>
    have HV : Aside0 (readF l ep sq = none) := ⟨if_neg (fun h => h4 h.2.2.1)⟩
    have hn1 : (getF l 4 != sq) = true := by simpa using h4
    clear hr hc hb hl h0 h4
    go_enter Try.func140, Try.ntmps140
    go_wp2_with fail
    refine (Sum.get_ (l := l) (a := 0) HR.out.1 HR.out.2.1 HR.out.2.2 (by decide)).mono ?_
    rintro e w1 ⟨rfl, rfl⟩
    rw [H0.out]
    go_wp2_with fail
    refine (Sum.get_ (l := l) (a := 4) HR.out.1 HR.out.2.1 HR.out.2.2 (by decide)).mono ?_
    rintro e w1 ⟨rfl, rfl⟩
    generalize getF l 4 = x at hn1
    go_wp2_with fail
    go_ret3
    exact okR_no HV.out (by first | rfl | (simp; done)) (Below.refl _ _)
  case pos =>
  have H4 := Aside0.mk h4
  have hq4 : (sq != sq) = false := by simp
  have hk0 := getF_in hb 8
  obtain ⟨k, hk⟩ : ∃ k : Nat, getF l 8 = (k : Int) := Int.eq_ofNat_of_zero_le hk0.1
  have hkt : (getF l 8).toNat = k := by omega
  have hk2 : (k : Int) ≤ 4294967295 := by omega
  have HK := Aside0.mk hk
  have h16n := Nat.le_of_not_lt h16
  by_cases h8 : 16 + k ≤ n
  case neg =>
    have HV : Aside0 (readF l ep sq = none) := ⟨if_neg (fun h => h8 (by have h2 := h.2.2.2.1; rw [hkt, hl] at h2; exact h2))⟩
    have hd8 : (n : Int) - 16 < (k : Int) := by omega
    obtain ⟨u1, u2, u3, u4, u5, u6, u7⟩ := fr_wrap hk2 h16n hn
    clear hr hc hb hl h0 h4 hk hkt hk0
    go_enter Try.func140, Try.ntmps140
    go_wp2_with fail
    refine (Sum.get_ (l := l) (a := 0) HR.out.1 HR.out.2.1 HR.out.2.2 (by decide)).mono ?_
    rintro e w1 ⟨rfl, rfl⟩
    rw [H0.out]
    go_wp2_with fail
    refine (Sum.get_ (l := l) (a := 4) HR.out.1 HR.out.2.1 HR.out.2.2 (by decide)).mono ?_
    rintro e w1 ⟨rfl, rfl⟩
    rw [H4.out]
    go_wp2_with fail
    refine (Sum.get_ (l := l) (a := 8) HR.out.1 HR.out.2.1 HR.out.2.2 (by decide)).mono ?_
    rintro e w1 ⟨rfl, rfl⟩
    rw [HK.out]
    go_wp2_with fail
    go_ret3
    exact okR_no HV.out (by first | rfl | (simp; done)) (Below.refl _ _)
  case pos =>
  have hd8 : ¬ (n : Int) - 16 < (k : Int) := by omega
  obtain ⟨J, hJ⟩ : ∃ J, 12 + k = J := ⟨_, rfl⟩
  have hJi : 12 + (k : Int) = (J : Int) := by omega
  have hJn : J ≤ n := by omega
  obtain ⟨u1, u2, u3, u4, u5, u6, u7⟩ := fr_wrap hk2 h16n hn
  have u6' : wrap64 (12 + (k : Int)) = (J : Int) := u6.trans hJi
  have HJI := Aside0.mk hJi
  obtain ⟨hcut, hT⟩ := take8 (A := A) (c := c) (b := J) (K := (J : Int)) rfl hl hJn hc
  have HT := Aside0.mk hT
  have HVV := Aside0.mk (readF_of hl h16n h0 h4 hkt hJ h8)
  have HDL : Aside0 (((l.take J).drop 12).length = k) := ⟨by rw [← hJ]; exact fr_len hl h8⟩
  obtain ⟨v1, v2, v3, v4⟩ := fr_wrap2 hk2
  rw [hJi] at v1 v2
  have HBD := Aside0.mk (And.intro h8 (And.intro hJ (And.intro v1 v2)))
  have HBN := Aside0.mk (fr_bnds hJ h8 hn hc)
  clear hr hl h0 h4 hk hkt hk0 hT v1 v2 v3 v4 hJ hJi u6
  go_enter Try.func140, Try.ntmps140
  go_wp2_with fail
  refine (Sum.get_ (l := l) (a := 0) HR.out.1 HR.out.2.1 HR.out.2.2 (by decide)).mono ?_
  rintro e w1 ⟨rfl, rfl⟩
  rw [H0.out]
  go_wp2_with fail
  refine (Sum.get_ (l := l) (a := 4) HR.out.1 HR.out.2.1 HR.out.2.2 (by decide)).mono ?_
  rintro e w1 ⟨rfl, rfl⟩
  rw [H4.out]
  go_wp2_with fail
  refine (Sum.get_ (l := l) (a := 8) HR.out.1 HR.out.2.1 HR.out.2.2 (by decide)).mono ?_
  rintro e w1 ⟨rfl, rfl⟩
  rw [HK.out]
  go_wp2_with fail
  rw [HJI.out]
  clear u6'
  have HRd := Aside0.mk (Kd.C_below HR.out.1 (Sep.start w).drew.toBelow)
  have HSW := Aside0.mk (Sep.start w).drew
  refine start_ (n := 8) (S := fun w' => True) (ds := []) #[false, false, false, false, false, false, false, false] (by kernel_rfl) rfl rfl (trivial) (fun hHeld => ?_)
  refine pure_ (i := 0) (N := some 38) (v := ?_) (a' := ?_) #[true, false, false, false, false, false, false, false] rfl rfl (by kernel_rfl) (fun _ _ _ h => h) (Or.inl ⟨by rfl, ?_⟩) ?_ ?_
  rotate_left
  · intro w'
    go_simp
    with_reducible rfl
  rotate_left
  · simp only [Act.put, List.setIfInBounds_toArray, List.set_cons_zero, List.set_cons_succ, i64_w, i32_w]
    rfl
  refine pure_ (i := 1) (N := some 39) (v := ?_) (a' := ?_) #[true, true, false, false, false, false, false, false] rfl rfl (by kernel_rfl) (fun _ _ _ h => h) (Or.inl ⟨by rfl, ?_⟩) ?_ ?_
  rotate_left
  · intro w'
    go_simp
    with_reducible rfl
  rotate_left
  · simp only [Act.put, List.setIfInBounds_toArray, List.set_cons_zero, List.set_cons_succ, i64_w, i32_w]
    rfl
  refine pure_ (i := 3) (N := some 41) (v := ?_) (a' := ?_) #[true, true, false, true, false, false, false, false] rfl rfl (by kernel_rfl) (fun _ _ _ h => h) (Or.inl ⟨by rfl, ?_⟩) ?_ ?_
  rotate_left
  · intro w'
    go_simp
    with_reducible rfl
  rotate_left
  · simp only [Act.put, List.setIfInBounds_toArray, List.set_cons_zero, List.set_cons_succ, i64_w, i32_w]
    rfl
  refine pure_ (i := 4) (N := some 42) (v := ?_) (a' := ?_) #[true, true, false, true, true, false, false, false] rfl rfl (by kernel_rfl) (fun _ _ _ h => h) (Or.inl ⟨by rfl, ?_⟩) ?_ ?_
  rotate_left
  · intro w'
    go_simp
    with_reducible rfl
  rotate_left
  · simp only [Act.put, List.setIfInBounds_toArray, List.set_cons_zero, List.set_cons_succ, i64_w, i32_w]
    rfl
  refine pure_ (i := 5) (N := some 43) (v := ?_) (a' := ?_) #[true, true, false, true, true, true, false, false] rfl rfl (by kernel_rfl) (fun _ _ _ h => h) (Or.inl ⟨by rfl, ?_⟩) ?_ ?_
  rotate_left
  · intro w'
    go_simp
    with_reducible rfl
  rotate_left
  · simp only [Act.put, List.setIfInBounds_toArray, List.set_cons_zero, List.set_cons_succ, i64_w, i32_w]
    rfl
  refine one_ (i := 2) (N := some 40) #[true, true, true, true, true, true, false, false] rfl rfl (by kernel_rfl) (by decide) (fun K hK => ?_)
  refine goes_ Try.func91 (by kernel_rfl) rfl #[.slice A n c, .int .i64 (J : Int)] (by rfl) rfl rfl (by simp only [List.map_toArray, List.map_cons, List.map_nil]; rfl) ?_
  with_reducible refine (Sum.get_ (l := l) (a := (J : Int)) HRd.out HR.out.2.1 HR.out.2.2 HBN.out.1).mono ?_
  rintro e w3 ⟨rfl, rfl⟩
  refine ⟨_, rfl, ?_⟩
  refine hK.out _ _ (trivial) (fun hHeld => ?_)
  clear hK K
  refine norm_ (a' := ?_) ?_ ?_
  rotate_left
  · show Act.put _ (some 40) _ = _
    simp only [Act.put, List.setIfInBounds_toArray, List.set_cons_zero, List.set_cons_succ, i64_w, i32_w]
    rfl
  refine one_ (i := 6) (N := some 44) #[true, true, true, true, true, true, true, false] rfl rfl (by kernel_rfl) (by decide) (fun K hK => ?_)
  refine goes_ Try.func90 (by kernel_rfl) rfl #[.slice A J c] (by rfl) rfl rfl (by simp only [List.map_toArray, List.map_cons, List.map_nil]; rfl) ?_
  with_reducible refine (Sum.of_ (HT.out _ HRd.out)).mono ?_
  rintro e w4 ⟨rfl, rfl⟩
  refine ⟨_, rfl, ?_⟩
  refine hK.out _ _ (trivial) (fun hHeld => ?_)
  clear hK K
  refine norm_ (a' := ?_) ?_ ?_
  rotate_left
  · show Act.put _ (some 44) _ = _
    simp only [Act.put, List.setIfInBounds_toArray, List.set_cons_zero, List.set_cons_succ, i64_w, i32_w]
    rfl
  refine pure_ (i := 7) (N := some 45) (v := ?_) (a' := ?_) #[true, true, true, true, true, true, true, true] rfl rfl (by kernel_rfl) (fun _ _ _ h => h) (Or.inl ⟨by rfl, ?_⟩) ?_ ?_
  rotate_left
  · intro w'
    go_simp
    with_reducible rfl
  rotate_left
  · simp only [Act.put, List.setIfInBounds_toArray, List.set_cons_zero, List.set_cons_succ, i64_w, i32_w]
    rfl
  refine done_ (by kernel_rfl) ?_
  by_cases hs : getF l (J : Int) = sumF (l.take J)
  case neg =>
    have HV : Aside0 (readF l ep sq = none) := ⟨HVV.out.trans (if_neg hs)⟩
    have hsn : (getF l (J : Int) != sumF (l.take J)) = true := by simpa using hs
    clear hs
    generalize getF l (J : Int) = x at hsn
    generalize sumF (l.take J) = y at hsn
    go_wp2_with fail
    go_ret3
    exact okR_no HV.out (by first | rfl | (simp; done)) HSW.out.toBelow
  case pos =>
  have HV : Aside0 (readF l ep sq = some ((l.take J).drop 12)) := ⟨HVV.out.trans (if_pos hs)⟩
  rw [hs]
  have hsn : (sumF (l.take J) != sumF (l.take J)) = false := by simp
  clear hs
  generalize sumF (l.take J) = y at hsn
  obtain ⟨A2, hcut2, hT2⟩ := mid8 (A := A) (c := c) (a := 12) (b := J) (J := 12) (K := (J : Int)) rfl rfl HL.out HBN.out.2.1 hJn hc
  have hJ12 : J - 12 = k := HBN.out.2.2.1
  rw [hJ12] at hcut2 hT2
  have HC2 := Aside0.mk (hT2 _ HRd.out)
  clear hJ12 hT2
  go_wp2_with fail
  refine (clone_ HC2.out HBN.out.2.2.2.1 HBN.out.2.2.2.2).mono ?_
  rintro e w5 ⟨v5, rfl, hS5⟩
  have B5 := Aside0.mk (HSW.out.lift1 hS5)
  clear hS5
  go_wp2_with fail
  go_ret3
  exact okR_yes HV.out (by rw [HDL.out, ← HBD.out.2.2.2]; first | rfl | (simp; done)) B5.out
end Go.Proofs.Ytjngnigelkgekaa.Frame
namespace Go.Proofs.Ytjngnigelkgekaa.Frame
set_option linter.unusedVariables false
set_option linter.unusedSimpArgs false
open Go.RowKit Go.Proofs.YtjngnigelkgekaaW.PrintWords Go.Proofs.YtjngnigelkgekaaW.PrintLast Go.Proofs.YtjngnigelkgekaaW.PrintMore Go.Proofs.Ytjngnigelkgekaa.Kit Go.Proofs.Ytjngnigelkgekaa.Base Go.Proofs.Ytjngnigelkgekaa.Plain Go.Proofs.Ytjngnigelkgekaa.Root
end Go.Proofs.Ytjngnigelkgekaa.Frame
namespace Go.Proofs.Ytjngnigelkgekaa.Frame
set_option linter.unusedVariables false
set_option linter.unusedSimpArgs false
open Go.RowKit Go.Proofs.YtjngnigelkgekaaW.PrintWords Go.Proofs.YtjngnigelkgekaaW.PrintLast Go.Proofs.YtjngnigelkgekaaW.PrintMore Go.Proofs.Ytjngnigelkgekaa.Kit Go.Proofs.Ytjngnigelkgekaa.Base Go.Proofs.Ytjngnigelkgekaa.Plain
open Go.Proofs.Ytjngnigelkgekaa.Delta (Chg KC undeltaF rawF)
def scanF (b : List Int) (ep : Int) : Nat → Nat → Nat → List (List Int) × Nat
  | 0, at_, _ => ([], at_)
  | f + 1, at_, sq => match readF (b.drop at_) ep (sq : Int) with
    | none => ([], at_)
    | some x => (x :: (scanF b ep f (at_ + (16 + x.length)) (sq + 1)).1, (scanF b ep f (at_ + (16 + x.length)) (sq + 1)).2)
def scanR (b : List Int) (ep : Int) : List (List Int) × Nat := scanF b ep (b.length + 1) 0 0
/-- How long the frames of rows are. -/
def longs : List (List Int) → Nat
  | [] => 0
  | x :: t => 16 + x.length + longs t
theorem longs_app : ∀ a b : List (List Int), longs (a ++ b) = longs a + longs b
  | [], b => by simp [longs]
  | x :: t, b => by simp only [List.cons_append, longs, longs_app t b]; omega
theorem longs_len : ∀ a : List (List Int), 16 * a.length ≤ longs a
  | [] => by simp [longs]
  | x :: t => by have := longs_len t; simp only [List.length_cons, longs]; omega
structure ScanAt (b : List Int) (ep : Int) (rs : List (List Int)) (at_ f : Nat) : Prop where
  le : at_ ≤ b.length
  fuel : b.length < at_ + f
  eq : scanR b ep = (rs ++ (scanF b ep f at_ rs.length).1, (scanF b ep f at_ rs.length).2)
  long : longs rs = at_
  bytes : ∀ x ∈ rs, Bytes x
theorem scan_start (b : List Int) (ep : Int) : ScanAt b ep [] 0 (b.length + 1) := ⟨by omega, by omega, by unfold scanR; rfl, rfl, fun x h => by cases h⟩
theorem scan_none {b : List Int} {ep : Int} {rs : List (List Int)} {at_ f : Nat} (h : ScanAt b ep rs at_ f) (hn : readF (b.drop at_) ep (rs.length : Int) = none) : scanR b ep = (rs, at_) := by
  rw [h.eq]
  cases f with
  | zero => simp [scanF]
  | succ f => simp [scanF, hn]
theorem scan_some {b x : List Int} {ep : Int} {rs : List (List Int)} {at_ f : Nat} (h : ScanAt b ep rs at_ f) (hb : Bytes b) (hs : readF (b.drop at_) ep (rs.length : Int) = some x) : ScanAt b ep (rs ++ [x]) (at_ + (16 + x.length)) (f - 1) ∧ 1 ≤ f := by
  have h1 := readF_some hs
  rw [List.length_drop] at h1
  have hf := h.fuel
  have hle := h.le
  cases f with
  | zero => exfalso; omega
  | succ f =>
    refine ⟨⟨by omega, by omega, ?_, ?_, fun y hy => ?_⟩, by omega⟩
    · rw [h.eq, List.length_append, List.length_singleton]
      simp [scanF, hs]
    · rw [longs_app, h.long]; simp [longs]
    · rcases List.mem_append.1 hy with h2 | h2
      · exact h.bytes y h2
      · obtain rfl := List.mem_singleton.1 h2
        exact readF_bytes (hb.drop _) hs
theorem scan_facts_aux (b : List Int) (hb : Bytes b) (ep : Int) : ∀ (f : Nat) (rs : List (List Int)) (at_ : Nat), ScanAt b ep rs at_ f → (∀ x ∈ (scanR b ep).1, Bytes x) ∧ longs (scanR b ep).1 = (scanR b ep).2 ∧ (scanR b ep).2 ≤ b.length
  | 0, rs, at_, h => by have := h.fuel; have := h.le; omega
  | f + 1, rs, at_, h => by
    cases hs : readF (b.drop at_) ep (rs.length : Int) with
    | none => rw [scan_none h hs]; exact ⟨h.bytes, h.long, h.le⟩
    | some x => exact scan_facts_aux b hb ep f _ _ (scan_some h hb hs).1
theorem scan_facts {b : List Int} (hb : Bytes b) (ep : Int) : (∀ x ∈ (scanR b ep).1, Bytes x) ∧ longs (scanR b ep).1 = (scanR b ep).2 ∧ (scanR b ep).2 ≤ b.length := scan_facts_aux b hb ep _ _ _ (scan_start b ep)
/-- What Records says of the log's rows. -/
def recsF (pages : Int) : List (List Int) → List (List Chg) × Nat
  | [] => ([], 0)
  | b :: t => match undeltaF b pages with
    | none => ([], 0)
    | some x => (x :: (recsF pages t).1, 16 + b.length + (recsF pages t).2)
structure RecAt (pages : Int) (rows : List (List Int)) (out : List (List Chg)) (tot j : Nat) : Prop where
  eq : recsF pages rows = (out ++ (recsF pages (rows.drop j)).1, tot + (recsF pages (rows.drop j)).2)
  long : tot = longs (rows.take j)
  num : out.length = j
theorem rec_start (pages : Int) (rows : List (List Int)) : RecAt pages rows [] 0 0 := ⟨by simp, rfl, rfl⟩
theorem rec_none {pages : Int} {rows : List (List Int)} {out : List (List Chg)} {tot j : Nat} (h : RecAt pages rows out tot j) (hj : j < rows.length) (hu : undeltaF rows[j] pages = none) : recsF pages rows = (out, tot) := by
  rw [h.eq, List.drop_eq_getElem_cons hj]
  simp [recsF, hu]
theorem rec_end {pages : Int} {rows : List (List Int)} {out : List (List Chg)} {tot j : Nat} (h : RecAt pages rows out tot j) (hj : rows.length ≤ j) : recsF pages rows = (out, tot) := by
  rw [h.eq, List.drop_eq_nil_of_le hj]
  simp [recsF]
theorem rec_some {pages : Int} {rows : List (List Int)} {out : List (List Chg)} {tot j : Nat} {x : List Chg} (h : RecAt pages rows out tot j) (hj : j < rows.length) (hu : undeltaF rows[j] pages = some x) : RecAt pages rows (out ++ [x]) (tot + (16 + rows[j].length)) (j + 1) := by
  refine ⟨?_, ?_, ?_⟩
  · rw [h.eq, List.drop_eq_getElem_cons hj]
    simp [recsF, hu]
    omega
  · rw [List.take_add_one, List.getElem?_eq_getElem hj, longs_app, ← h.long]
    simp [longs]
  · rw [List.length_append, List.length_singleton, h.num]
theorem rec_tot {pages : Int} {rows : List (List Int)} {out : List (List Chg)} {tot j : Nat} (h : RecAt pages rows out tot j) : tot ≤ longs rows := by
  have h2 := longs_app (rows.take j) (rows.drop j)
  rw [List.take_append_drop] at h2
  have h3 := h.long
  omega
theorem undelta_bytes {b : List Int} (h : Bytes b) (pages : Int) : ∀ c ∈ (undeltaF b pages).getD [], Bytes c.2 := by
  intro c hc
  unfold undeltaF at hc
  split at hc
  · cases hc
  · split at hc
    · cases hc
    · split at hc
      · simp only [Option.getD_some, rawF, List.mem_map] at hc
        obtain ⟨i, _, rfl⟩ := hc
        exact (h.drop _).take _
      · cases hc
theorem recs_bytes (pages : Int) : ∀ (rows : List (List Int)), (∀ x ∈ rows, Bytes x) → ∀ l ∈ (recsF pages rows).1, ∀ c ∈ l, Bytes c.2
  | [], _, l, hl => by simp [recsF] at hl
  | b :: t, h, l, hl => by
    cases hu : undeltaF b pages with
    | none => simp [recsF, hu] at hl
    | some x =>
      simp only [recsF, hu] at hl
      rcases List.mem_cons.1 hl with rfl | hl
      · have := undelta_bytes (h b (List.mem_cons_self ..)) pages
        rwa [hu] at this
      · exact recs_bytes pages t (fun x hx => h x (List.mem_cons_of_mem _ hx)) l hl
theorem recs_len (pages : Int) : ∀ (rows : List (List Int)), (recsF pages rows).1.length ≤ rows.length ∧ (recsF pages rows).2 ≤ longs rows
  | [] => by simp [recsF, longs]
  | b :: t => by
    have ih := recs_len pages t
    cases hu : undeltaF b pages with
    | none => simp [recsF, hu]
    | some x => simp only [recsF, hu, List.length_cons, longs]; omega
end Go.Proofs.Ytjngnigelkgekaa.Frame
namespace Go.Proofs.Ytjngnigelkgekaa.Home
set_option linter.unusedVariables false
set_option linter.unusedSimpArgs false
open Go.RowKit Go.Proofs.YtjngnigelkgekaaW.PrintWords Go.Proofs.YtjngnigelkgekaaW.PrintLast Go.Proofs.YtjngnigelkgekaaW.PrintMore Go.Proofs.Ytjngnigelkgekaa.Kit Go.Proofs.Ytjngnigelkgekaa.Plain Go.Proofs.Ytjngnigelkgekaa.Disk Go.Proofs.Ytjngnigelkgekaa.Root
end Go.Proofs.Ytjngnigelkgekaa.Home
namespace Go.Proofs.Ytjngnigelkgekaa.Frame
set_option linter.unusedVariables false
set_option linter.unusedSimpArgs false
open Go.RowKit Go.Proofs.YtjngnigelkgekaaW.PrintWords Go.Proofs.YtjngnigelkgekaaW.PrintLast Go.Proofs.YtjngnigelkgekaaW.PrintMore Go.Proofs.Ytjngnigelkgekaa.Kit Go.Proofs.Ytjngnigelkgekaa.Base Go.Proofs.Ytjngnigelkgekaa.Plain Go.Proofs.Ytjngnigelkgekaa.Root
open Go.Proofs.Ytjngnigelkgekaa.Home (K2 infoS)
theorem okR_none {b : List Int} {ep sq : Int} {e : Ending} {w w' : World} (h : readF b ep sq = none) (ho : okR b ep sq e w w') : e = .returned (.tuple #[.slice none 0 0, .int .i64 0, .bool false]) ∧ Below w.heap.size w w' := by
  unfold okR at ho
  rw [h] at ho
  exact ho
theorem okR_some {b x : List Int} {ep sq : Int} {e : Ending} {w w' : World} (h : readF b ep sq = some x) (ho : okR b ep sq e w w') : ∃ v, e = .returned (.tuple #[v, .int .i64 ((16 + x.length : Nat) : Int), .bool true]) ∧ Sep w w' [Row U8 5 v x] := by
  unfold okR at ho
  rw [h] at ho
  exact ho
theorem sc_nums {at_ K n : Nat} (h1 : at_ + K ≤ n) (hn : n ≤ 1000000) : wrap64 ((at_ : Int) + (K : Int)) = (at_ : Int) + (K : Int) ∧ IntKind.i64.wrap ((at_ : Int) + (K : Int)) = (at_ : Int) + (K : Int) := ⟨IntWalk.wrap64_in _ (by omega), by rw [IntKind.wrap_i64]; omega⟩
theorem sc_u32 {k at_ n : Nat} (h : 16 * k ≤ at_) (h2 : at_ ≤ n) (hn : n ≤ 1000000) : IntKind.u32.wrap (k : Int) = (k : Int) ∧ (k + 1) * 24 ≤ 140737488355328 ∧ k < 140737488355328 := ⟨by rw [IntKind.wrap_u32]; omega, by omega, by omega⟩
set_option maxHeartbeats 1600000 in
set_option maxRecDepth 100000 in
theorem fscan_ {A : Option Addr} {n c : Nat} {l : List Int} {w : World} (hr : U8.C w A n l) (hc : n ≤ c) (hb : Bytes l) (hn : n ≤ 1000000) (ep : Int) :
    Calls Try.prog 132 #[.slice A n c, .int .u32 ep] w fun e w' => ∃ v, e = .returned (.tuple #[v, .int .i64 ((scanR l ep).2 : Int)]) ∧ Sep w w' [Row K2 30 v (scanR l ep).1] := by
  have HR := Aside0.mk (And.intro hr (And.intro hc hb))
  have HL := Aside0.mk hr.1
  have HN := Aside0.mk hn
  have B0 := Aside0.mk ((Sep.start w).nilRow K2 30)
  have HS := Aside0.mk (scan_start l ep)
  clear hr hc hb hn
  go_enter Try.func132, Try.ntmps132
  go_wp2_with fail
  go_loopg [6, 7] (l.length + 1) (fun k_ v p wr => ∃ (rs : List (List Int)) (at_ : Nat), p = .int .i64 (at_ : Int) ∧ ScanAt l ep rs at_ k_ ∧ Sep w wr [Row K2 30 v rs])
  case atStart => exact ⟨[], 0, rfl, HS.out, B0.out⟩
  case round =>
    obtain ⟨rs, at_, rfl, hsa, hS⟩ := hrel
    have AS := Aside0.mk hS
    have HSA := Aside0.mk hsa
    obtain ⟨K, hK_⟩ : ∃ K, rs.length = K := ⟨_, rfl⟩
    obtain ⟨A3, c3, rfl⟩ := hS.rowN (n := K) hK_
    have HK := Aside0.mk hK_
    have han : at_ ≤ n := by have := hsa.le; rw [HL.out] at this; exact this
    obtain ⟨hu, hk1, hk2⟩ := sc_u32 (k := K) (by have h1 := longs_len rs; rw [hsa.long, hK_] at h1; exact h1) han HN.out
    have hcut := cutLo Try.underlying30 Base.infoB A n c at_ (J := (at_ : Int)) rfl han HR.out.2.1
    have hC := C_lo (a := at_) (c := c) HR.out.1 han HR.out.2.1
    have hC' : U8.C w (if c = at_ then A else A.map (·.add (at_ * 1))) (n - at_) (l.drop at_) := hC
    obtain ⟨AL, hAL⟩ : ∃ AL, (if c = at_ then A else A.map (·.add (at_ * 1))) = AL := ⟨_, rfl⟩
    rw [hAL] at hC'
    simp only [hAL] at hcut
    obtain ⟨M, hM⟩ : ∃ M, n - at_ = M := ⟨_, rfl⟩
    obtain ⟨CM, hCM⟩ : ∃ M, c - at_ = M := ⟨_, rfl⟩
    rw [hM] at hC'
    rw [hM, hCM] at hcut
    have HC := Aside0.mk hC'
    have HM := Aside0.mk (show M ≤ CM ∧ M ≤ 1000000 by have := HN.out; have := HR.out.2.1; omega)
    cases hs : readF (l.drop at_) ep (K : Int) with
    | none =>
      have HV : Aside0 (scanR l ep = (rs, at_)) := ⟨scan_none hsa (by rw [HK.out]; exact hs)⟩
      have HSS := Aside0.mk hs
      clear hS hsa hK_ hC hC' hAL hM hCM hs
      go_wp2_with fail
      refine (fread_ (l := l.drop at_) (Kd.C_below HC.out AS.out.toBelow) HM.out.1 (HR.out.2.2.drop _) HM.out.2 ep (K : Int)).mono ?_
      rintro e w2 ho
      obtain ⟨rfl, hb2⟩ := okR_none HSS.out ho
      have A2 := Aside0.mk (AS.out.below hb2)
      clear ho hb2
      go_wp2_with fail
      go_ret2
      exact ⟨_, by rw [HV.out]; first | rfl | (simp; done), by rw [HV.out]; exact A2.out⟩
    | some x =>
      obtain ⟨hnx, hk⟩ := scan_some hsa HR.out.2.2 (by rw [HK.out]; exact hs)
      have HNX := Aside0.mk hnx
      have HSS := Aside0.mk hs
      have hsz := hnx.le
      obtain ⟨KX, hKX⟩ : ∃ K, 16 + x.length = K := ⟨_, rfl⟩
      rw [hKX, HL.out] at hsz
      obtain ⟨y1, y2⟩ := sc_nums hsz HN.out
      have HKX := Aside0.mk hKX
      clear hS hsa hK_ hC hC' hAL hM hCM hs hnx hKX hsz
      go_wp2_with fail
      refine (fread_ (l := l.drop at_) (Kd.C_below HC.out AS.out.toBelow) HM.out.1 (HR.out.2.2.drop _) HM.out.2 ep (K : Int)).mono ?_
      rintro e w2 ho
      obtain ⟨v2, rfl, hS2⟩ := okR_some HSS.out ho
      rw [HKX.out]
      obtain ⟨A4, c4, rfl⟩ := hS2.rowV
      have L3 := Aside0.mk ((AS.out.lift1 hS2).elSlice.at2)
      clear ho hS2
      go_wp2_with (first | (refine gate_builtin (b := .append) (xs := #[.tmp 27, .tmp 29]) rfl ?_; go_loud (refine L3.out.appendDeep rfl (.tmp 27) (.tmp 29) 22 _ 24 rfl Try.underlying22 infoS rfl (by decide) (by decide) rfl rfl (by rw [HK.out]; exact hk1) ?_; intro v6 w6 hs6 hS6; have A6 := Aside0.mk hS6; clear hS6)))
      go_roundg (gk - 1)
      case measure => exact Nat.sub_lt hk Nat.one_pos
      case rel => exact ⟨rs ++ [x], at_ + KX, by go_num, by rw [← HKX.out]; exact HNX.out, A6.out⟩
end Go.Proofs.Ytjngnigelkgekaa.Frame
namespace Go.Proofs.Ytjngnigelkgekaa.Frame
set_option linter.unusedVariables false
set_option linter.unusedSimpArgs false
open Go.RowKit Go.Proofs.YtjngnigelkgekaaW.PrintWords Go.Proofs.YtjngnigelkgekaaW.PrintLast Go.Proofs.YtjngnigelkgekaaW.PrintMore Go.Proofs.Ytjngnigelkgekaa.Kit Go.Proofs.Ytjngnigelkgekaa.Base Go.Proofs.Ytjngnigelkgekaa.Plain Go.Proofs.Ytjngnigelkgekaa.Root
def frameF (ep sq : Int) (b : List Int) : List Int :=
  let h := put4 ep ++ put4 sq ++ put4 (b.length : Int) ++ b
  h ++ put4 (sumF h)
theorem put4_len (n : Int) : (put4 n).length = 4 := rfl
theorem frameF_len (ep sq : Int) (b : List Int) : (frameF ep sq b).length = 16 + b.length := by
  simp only [frameF, List.length_append, put4_len]; omega
theorem frameF_bytes (ep sq : Int) {b : List Int} (hb : Bytes b) : Bytes (frameF ep sq b) := by
  unfold frameF
  exact ((((put4_bytes _).app (put4_bytes _)).app (put4_bytes _)).app hb).app (put4_bytes _)
end Go.Proofs.Ytjngnigelkgekaa.Frame
namespace Go.Proofs.Ytjngnigelkgekaa.Frame
set_option linter.unusedVariables false
set_option linter.unusedSimpArgs false
open Go.RowKit Go.Proofs.YtjngnigelkgekaaW.PrintWords Go.Proofs.YtjngnigelkgekaaW.PrintLast Go.Proofs.YtjngnigelkgekaaW.PrintMore Go.Proofs.Ytjngnigelkgekaa.Kit Go.Proofs.Ytjngnigelkgekaa.Base Go.Proofs.Ytjngnigelkgekaa.Plain Go.Proofs.Ytjngnigelkgekaa.Root
set_option maxHeartbeats 1600000 in
set_option maxRecDepth 100000 in
theorem fbytes_ {A : Option Addr} {n c : Nat} {b : List Int} {w : World} (hr : U8.C w A n b) (hn : n ≤ 1000000) {ep sq : Int} (he : 0 ≤ ep ∧ ep ≤ 4294967295) (hs : 0 ≤ sq ∧ sq ≤ 4294967295) :
    Calls Try.prog 74 #[.int .u32 ep, .int .u32 sq, .slice A n c] w fun e w' => ∃ v, e = .returned v ∧ Sep w w' [Row U8 5 v (frameF ep sq b)] := by
  have hbl := hr.1
  have HR := Aside0.mk hr
  have HS := Aside0.mk hs
  have HE := Aside0.mk he
  have HBL := Aside0.mk hbl
  have HN := Aside0.mk hn
  have hu : IntKind.u32.wrap (n : Int) = (n : Int) := by rw [IntKind.wrap_u32]; omega
  have HU : Aside0 (0 ≤ (n : Int) ∧ (n : Int) ≤ 4294967295) := ⟨by omega⟩
  clear hr hs he hbl hn
  go_enter Try.func74, Try.ntmps74
  go_wp2_with fail
  refine (Sum.put_ (n := 0) (c := 0) (l := []) (m := ep) (Kd.C_nil _ _) HE.out (by decide)).mono ?_
  rintro e w1 ⟨v1, rfl, hS1⟩
  obtain ⟨A1, c1, rfl⟩ := hS1.rowN (n := 4) rfl
  have B1 := Aside0.mk hS1
  clear hS1
  go_wp2_with fail
  refine (Sum.put_ (m := sq) B1.out.rowC' HS.out (by decide)).mono ?_
  rintro e w2 ⟨v2, rfl, hS2⟩
  have B2 := Aside0.mk (B1.out.lift1 hS2)
  obtain ⟨A2, c2, rfl⟩ := hS2.rowN (n := 8) rfl
  clear hS2
  go_wp2_with fail
  refine (Sum.put_ (m := (n : Int)) B2.out.rowC' HU.out (by decide)).mono ?_
  rintro e w3 ⟨v3, rfl, hS3⟩
  have B3 := Aside0.mk (B2.out.lift1 hS3)
  obtain ⟨A3, c3, rfl⟩ := hS3.rowN (n := 12) rfl
  clear hS3
  go_wp2_with (first | (refine gate_builtin (b := .append) (xs := #[.tmp 16, .tmp 17]) rfl ?_; go_loud (refine B3.out.appendRow rfl (.tmp 16) (.tmp 17) 30 (.int .u8 0) 1 rfl Try.underlying30 Base.infoB rfl (by decide) A n c rfl rfl (Kd.C_below HR.out B3.out.toBelow) (by have := HN.out; have := HBL.out; simp only [List.length_append, put4_len, List.length_nil]; omega) ?_; intro v4 w4 hS4; have B4 := Aside0.mk hS4; clear hS4)))
  obtain ⟨h, hh⟩ : ∃ h, ([] ++ put4 ep ++ put4 sq ++ put4 (n : Int)) ++ b = h := ⟨_, rfl⟩
  have HH : Aside0 (frameF ep sq b = h ++ put4 (sumF h)) := ⟨by rw [← hh]; unfold frameF; rw [HBL.out]; rfl⟩
  have HHL : Aside0 (h.length = 12 + n) := ⟨by rw [← hh]; simp only [List.length_append, put4_len, List.length_nil, HBL.out]⟩
  rw [hh] at B4
  obtain ⟨N, hN⟩ : ∃ N, 12 + n = N := ⟨_, rfl⟩
  rw [hN] at HHL
  have HN2 : Aside0 (N ≤ 1000012) := ⟨by have := HN.out; omega⟩
  obtain ⟨A4, c4, rfl⟩ := B4.out.rowN HHL.out
  have B5 := Aside0.mk B4.out
  clear hh hN hu
  go_wp2_with fail
  refine (Sum.of_ (l := h) B4.out.rowC').mono ?_
  rintro e w5 ⟨rfl, rfl⟩
  go_wp2_with fail
  refine (Sum.put_ (m := sumF h) B4.out.rowC' (Sum.sumF_in _) (by have := HN2.out; omega)).mono ?_
  rintro e w6 ⟨v6, rfl, hS6⟩
  have B6 := Aside0.mk (B4.out.lift1 hS6)
  clear hS6
  go_wp2_with fail
  go_ret
  exact ⟨_, by first | rfl | (simp; done), by rw [HH.out]; exact B6.out.drop2.drop2.drop2⟩
end Go.Proofs.Ytjngnigelkgekaa.Frame
