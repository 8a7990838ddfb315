/- Redo2, RedoQ, Frame1, Frame2: what HealCounts needs. -/
import Derived.Test.YtjngnigelkgekaaGreatThealCounts17
import Derived.OwnWalk
set_option linter.unusedVariables false
set_option linter.unusedSimpArgs false
namespace Go.Proofs.YtjngnigelkgekaaGreat.Redo
open Go.RowKit Go.Proofs.YtjngnigelkgekaaGreatW.PrintWords Go.Proofs.YtjngnigelkgekaaGreatW.PrintLast Go.Proofs.YtjngnigelkgekaaGreatW.PrintMore Go.Proofs.YtjngnigelkgekaaGreat.Kit Go.Proofs.YtjngnigelkgekaaGreat.Plain Go.Proofs.YtjngnigelkgekaaGreat.Disk Go.Proofs.YtjngnigelkgekaaGreat.Root
theorem ar5 {p t kk m r q c' : Nat} (h1 : p + t = q) (h2 : m - t = r) (h3 : t ≤ m) (h4 : r ≤ c') (h5 : kk ≤ r) : ((p + (t + kk) : Nat) : Int) = (q : Int) + (kk : Int) ∧ m - (t + kk) = r - kk ∧ p + (t + kk) = q + kk ∧ t + kk + (m - t - kk) = m ∧ r - kk ≤ c' - kk := ⟨by omega, by omega, by omega, by omega, by omega⟩
theorem fit6 {i n len : Nat} (h : len = 64 * n) (hi : i < n) : 64 * (i + 1) ≤ len := by omega
theorem min3 {r f kk N : Nat} (h : min r N = kk) (hN : 64 - f = N) (hr : 0 < r) (hf : f < 64) : 1 ≤ kk ∧ kk ≤ r ∧ kk ≤ 64 ∧ f + N ≤ 64 := by omega
theorem fit7 {f N L : Nat} (h : f + N ≤ 64) : f + min N L ≤ 64 := Nat.le_trans (Nat.add_le_add_left (Nat.min_le_left _ _) _) h
theorem tk7 {xs : List Int} {r N kk : Nat} (h : min r N = kk) (hl : xs.length = r) : xs.take N = xs.take kk := by
  by_cases hle : r ≤ N
  · rw [List.take_of_length_le (by omega), List.take_of_length_le (by omega)]
  · rw [show kk = N by omega]
theorem wq2 {q kk : Nat} (h : q ≤ 4096) (h2 : kk ≤ 64) : wrap64 ((q : Int) + (kk : Int)) = (q : Int) + (kk : Int) ∧ IntKind.i64.wrap ((q : Int) + (kk : Int)) = (q : Int) + (kk : Int) := ⟨IntWalk.wrap64_in _ (by omega), by rw [IntKind.wrap_i64]; omega⟩
section
variable {w0 W : World} {F : List HP} {g n : Nat} {las : List Int} {wt : Wt}
set_option maxHeartbeats 1600000 in
set_option maxRecDepth 100000 in
theorem append_yes (h : Sep w0 W (Dsk g las wt :: F)) (hl : las.length = 64 * n) (hn : n ≤ 160) (hw : ∀ i b, wt i = some b → b.length = 64) (a b c at_ : Int) (hat : -9223372036854775808 ≤ at_ ∧ at_ ≤ 9223372036854775807) {A : Option Addr} {m cp : Nat} {xs : List Int} (hx : ∀ W', Sep w0 W' F → U8.C W' A m xs) (hcp : m ≤ cp) (hyes : okA n a b c at_ m = true) :
    Calls Tryz.prog 73 #[.pointer (some ⟨g, 0, none⟩), .agg #[.int .i64 a, .int .i64 b, .int .u32 c], .int .i64 at_, .slice A m cp] W fun e w' => e = .returned (.bool (okA n a b c at_ m)) ∧ Sep w0 w' (Dsk g las (appR n las wt a b c at_ xs) :: F) := by
  have A0 := Aside0.mk (h.newBlk 80 #[.int .i64 a, .int .i64 b, .int .u32 c]).drew
  have HLN : Aside0 ((las.length : Int) / 64 = (n : Int)) := ⟨by omega⟩
  have hxl := (hx W h.tail).1
  have hm : m ≤ 9223372036854775807 := (hx W h.tail).2.1
  have HL := Aside0.mk (And.intro hl (And.intro hn hw))
  have HX := Aside0.mk (And.intro hx hcp)
  have HXL := Aside0.mk hxl
  obtain ⟨sz, hsz⟩ : ∃ s, sizeF a = s := ⟨_, rfl⟩
  have hs0 := sizeF_in a
  rw [hsz] at hs0
  have HSZ := Aside0.mk hsz
  have hws : wrap64 (sz - (m : Int)) = sz - (m : Int) := IntWalk.wrap64_in _ (by omega)
  have hws2 : IntKind.i64.wrap (sz - (m : Int)) = sz - (m : Int) := by rw [IntKind.wrap_i64]; omega
  clear h hl hn hw hx hxl hsz
  have HV := Aside0.mk hyes
  have hoi0 := ok_in hyes
  have hrt : rightR a b c n = true := by
    have h := hyes
    unfold okA at h
    simp only [Bool.and_eq_true] at h
    exact h.1
  have HRT := Aside0.mk hrt
  have hneg : ¬ at_ < 0 := by omega
  have hd : decide (at_ < 0) = false := decide_eq_false hneg
  have hbig : ¬ sz - (m : Int) < at_ := by
    have h : sz = 64 * a := by have h1 := HSZ.out; unfold sizeF at h1; rw [if_neg (by omega)] at h1; omega
    omega
  have hd2 : decide (sz - (m : Int) < at_) = false := decide_eq_false hbig
  have HRR : Aside0 (appR n las wt a b c at_ xs = appW las wt at_.toNat xs) := ⟨by unfold appR; rw [HXL.out, HV.out]; rfl⟩
  have hoi := ok_in HV.out
  have HOI := Aside0.mk hoi
  clear hrt hcp hyes hoi0
  go_enter Tryz.func73, Tryz.ntmps73
  go_wp2_with fail
  refine start_ (n := 22) (S := fun w' => w'.cell? ⟨W.heap.size, 0, none⟩ = some (.int .i64 a) ∧ w'.cell? ⟨W.heap.size, 1, none⟩ = some (.int .i64 b) ∧ w'.cell? ⟨W.heap.size, 2, none⟩ = some (.int .u32 c)) (ds := [16]) #[false, false, false, false, false, false, false, false, false, false, false, false, false, false, false, false, false, false, false, false, false, false] (by kernel_rfl) rfl rfl ⟨(A0.out.cell 0).trans rfl, (A0.out.cell 1).trans rfl, (A0.out.cell 2).trans rfl⟩ (fun hHeld => ?_)
  refine pure_ (i := 0) (N := some 14) (v := ?_) (a' := ?_) #[true, false, false, false, false, false, false, false, false, false, false, false, false, false, false, false, false, false, false, false, false, false] rfl rfl (by kernel_rfl) (fun _ _ _ h => h) (Or.inl ⟨by rfl, ?_⟩) ?_ ?_
  rotate_left
  · intro w'
    go_simp
    with_reducible rfl
  rotate_left
  · simp only [Act.put, sIB, sCz, sCs, i64_w, i32_w]
    rfl
  refine pure_ (i := 1) (N := some 15) (v := ?_) (a' := ?_) #[true, true, false, false, false, false, false, false, false, false, false, false, false, false, false, false, false, false, false, false, false, false] rfl rfl (by kernel_rfl) (fun _ _ _ h => h) (Or.inl ⟨by rfl, ?_⟩) ?_ ?_
  rotate_left
  · intro w'
    go_simp
    with_reducible rfl
  rotate_left
  · simp only [Act.put, sIB, sCz, sCs, i64_w, i32_w]
    rfl
  refine pure_ (i := 2) (N := some 16) (v := ?_) (a' := ?_) #[true, true, true, false, false, false, false, false, false, false, false, false, false, false, false, false, false, false, false, false, false, false] rfl rfl (by kernel_rfl) (fun _ _ _ h => h) (Or.inl ⟨by rfl, ?_⟩) ?_ ?_
  rotate_left
  · intro w'
    go_simp
    with_reducible rfl
  rotate_left
  · simp only [Act.put, sIB, sCz, sCs, i64_w, i32_w]
    rfl
  refine pure_ (i := 4) (N := some 18) (v := ?_) (a' := ?_) #[true, true, true, false, true, false, false, false, false, false, false, false, false, false, false, false, false, false, false, false, false, false] rfl rfl (by kernel_rfl) (fun _ _ _ h => h) (Or.inl ⟨by rfl, ?_⟩) ?_ ?_
  rotate_left
  · intro w'
    go_simp
    with_reducible rfl
  rotate_left
  · simp only [Act.put, sIB, sCz, sCs, i64_w, i32_w]
    rfl
  refine take_ (i := 3) (N := some 17) (v := ?_) (a' := ?_) #[true, true, true, true, true, false, false, false, false, false, false, false, false, false, false, false, false, false, false, false, false, false] rfl rfl (by kernel_rfl) (fun _ _ _ h => h) (Or.inl ⟨by rfl, ?_⟩) hHeld ?_ ?_
  rotate_left
  · rintro w' ⟨s0, s1, s2⟩
    go_simp
    with_reducible rfl
  rotate_left
  · simp only [Act.put, sIB, sCz, sCs, i64_w, i32_w]
    rfl
  refine one_ (i := 5) (N := some 19) #[true, true, true, true, true, true, false, false, false, false, false, false, false, false, false, false, false, false, false, false, false, false] rfl rfl (by kernel_rfl) (by decide) (fun K hK => ?_)
  refine goes_ Tryz.func65 (by kernel_rfl) rfl #[.pointer (some ⟨g, 0, none⟩)] (by rfl) rfl rfl (by simp only [List.map_toArray, List.map_cons, List.map_nil]; rfl) ?_
  with_reducible refine (len_ A0.out.at2).mono ?_
  rintro e w4 ⟨rfl, rfl⟩
  refine ⟨_, rfl, ?_⟩
  rw [HLN.out]
  refine hK.out _ _ ⟨(A0.out.cell 0).trans rfl, (A0.out.cell 1).trans rfl, (A0.out.cell 2).trans rfl⟩ (fun hHeld => ?_)
  clear hK K
  refine norm_ (a' := ?_) ?_ ?_
  rotate_left
  · show Act.put _ (some 19) _ = _
    simp only [Act.put, sIB, sCz, sCs, i64_w, i32_w]
    rfl
  refine one_ (i := 6) (N := some 20) #[true, true, true, true, true, true, true, false, false, false, false, false, false, false, false, false, false, false, false, false, false, false] rfl rfl (by kernel_rfl) (by decide) (fun K hK => ?_)
  refine goes_ Tryz.func64 (by kernel_rfl) rfl #[.agg #[.int .i64 a, .int .i64 b, .int .u32 c], .int .i64 (n : Int)] (by rfl) rfl rfl (by simp only [List.map_toArray, List.map_cons, List.map_nil]; rfl) ?_
  with_reducible refine (right_ a b c (n : Int) _).mono ?_
  rintro e w5 ⟨rfl, hb5⟩
  refine ⟨_, rfl, ?_⟩
  rw [HRT.out]
  have A5 := Aside0.mk (A0.out.below hb5)
  clear hb5
  refine hK.out _ _ ⟨(A5.out.cell 0).trans rfl, (A5.out.cell 1).trans rfl, (A5.out.cell 2).trans rfl⟩ (fun hHeld => ?_)
  clear hK K
  refine norm_ (a' := ?_) ?_ ?_
  rotate_left
  · show Act.put _ (some 20) _ = _
    simp only [Act.put, sIB, sCz, sCs, i64_w, i32_w]
    rfl
  refine pure_ (i := 7) (N := some 21) (v := ?_) (a' := ?_) #[true, true, true, true, true, true, true, true, false, false, false, false, false, false, false, false, false, false, false, false, false, false] rfl rfl (by kernel_rfl) (fun _ _ _ h => h) (Or.inl ⟨by rfl, ?_⟩) ?_ ?_
  rotate_left
  · intro w'
    go_simp
    with_reducible rfl
  rotate_left
  · simp only [Act.put, sIB, sCz, sCs, i64_w, i32_w]
    rfl
  refine pure_ (i := 8) (N := some 22) (v := ?_) (a' := ?_) #[true, true, true, true, true, true, true, true, true, false, false, false, false, false, false, false, false, false, false, false, false, false] rfl rfl (by kernel_rfl) (fun _ _ _ h => h) (Or.inl ⟨by rfl, ?_⟩) ?_ ?_
  rotate_left
  · intro w'
    go_simp
    with_reducible rfl
  rotate_left
  · simp only [Act.put, sIB, sCz, sCs, i64_w, i32_w]
    rfl
  refine pure_ (i := 9) (N := some 23) (v := ?_) (a' := ?_) #[true, true, true, true, true, true, true, true, true, true, false, false, false, false, false, false, false, false, false, false, false, false] rfl rfl (by kernel_rfl) (fun _ _ _ h => h) (Or.inl ⟨by rfl, ?_⟩) ?_ ?_
  rotate_left
  · intro w'
    go_simp
    with_reducible rfl
  rotate_left
  · simp only [Act.put, sIB, sCz, sCs, i64_w, i32_w]
    rfl
  refine pure_ (i := 10) (N := some 24) (v := ?_) (a' := ?_) #[true, true, true, true, true, true, true, true, true, true, true, false, false, false, false, false, false, false, false, false, false, false] rfl rfl (by kernel_rfl) (fun _ _ _ h => h) (Or.inl ⟨by rfl, ?_⟩) ?_ ?_
  rotate_left
  · intro w'
    go_simp
    with_reducible rfl
  rotate_left
  · simp only [Act.put, sIB, sCz, sCs, i64_w, i32_w]
    rfl
  refine pure_ (i := 11) (N := some 25) (v := ?_) (a' := ?_) #[true, true, true, true, true, true, true, true, true, true, true, true, false, false, false, false, false, false, false, false, false, false] rfl rfl (by kernel_rfl) (fun _ _ _ h => h) (Or.inl ⟨by rfl, ?_⟩) ?_ ?_
  rotate_left
  · intro w'
    go_simp
    with_reducible rfl
  rotate_left
  · simp only [Act.put, sIB, sCz, sCs, i64_w, i32_w]
    rfl
  refine pure_ (i := 12) (N := some 26) (v := ?_) (a' := ?_) #[true, true, true, true, true, true, true, true, true, true, true, true, true, false, false, false, false, false, false, false, false, false] rfl rfl (by kernel_rfl) (fun _ _ _ h => h) (Or.inl ⟨by rfl, ?_⟩) ?_ ?_
  rotate_left
  · intro w'
    go_simp
    with_reducible rfl
  rotate_left
  · simp only [Act.put, sIB, sCz, sCs, i64_w, i32_w]
    rfl
  refine pure_ (i := 13) (N := some 27) (v := ?_) (a' := ?_) #[true, true, true, true, true, true, true, true, true, true, true, true, true, true, false, false, false, false, false, false, false, false] rfl rfl (by kernel_rfl) (fun _ _ _ h => h) (Or.inl ⟨by rfl, ?_⟩) ?_ ?_
  rotate_left
  · intro w'
    go_simp
    with_reducible rfl
  rotate_left
  · simp only [Act.put, sIB, sCz, sCs, i64_w, i32_w]
    rfl
  refine pure_ (i := 14) (N := some 28) (v := ?_) (a' := ?_) #[true, true, true, true, true, true, true, true, true, true, true, true, true, true, true, false, false, false, false, false, false, false] rfl rfl (by kernel_rfl) (fun _ _ _ h => h) (Or.inl ⟨by rfl, ?_⟩) ?_ ?_
  rotate_left
  · intro w'
    go_simp
    with_reducible rfl
  rotate_left
  · simp only [Act.put, sIB, sCz, sCs, i64_w, i32_w]
    rfl
  refine pure_ (i := 17) (N := some 31) (v := ?_) (a' := ?_) #[true, true, true, true, true, true, true, true, true, true, true, true, true, true, true, false, false, true, false, false, false, false] rfl rfl (by kernel_rfl) (fun _ _ _ h => h) (Or.inl ⟨by rfl, ?_⟩) ?_ ?_
  rotate_left
  · intro w'
    go_simp
    with_reducible rfl
  rotate_left
  · simp only [Act.put, sIB, sCz, sCs, i64_w, i32_w]
    rfl
  refine pure_ (i := 18) (N := some 32) (v := ?_) (a' := ?_) #[true, true, true, true, true, true, true, true, true, true, true, true, true, true, true, false, false, true, true, false, false, false] rfl rfl (by kernel_rfl) (fun _ _ _ h => h) (Or.inl ⟨by rfl, ?_⟩) ?_ ?_
  rotate_left
  · intro w'
    go_simp
    with_reducible rfl
  rotate_left
  · simp only [Act.put, sIB, sCz, sCs, i64_w, i32_w]
    rfl
  refine take_ (i := 15) (N := some 29) (v := ?_) (a' := ?_) #[true, true, true, true, true, true, true, true, true, true, true, true, true, true, true, true, false, true, true, false, false, false] rfl rfl (by kernel_rfl) (fun _ _ _ h => h) (Or.inl ⟨by rfl, ?_⟩) hHeld ?_ ?_
  rotate_left
  · rintro w' ⟨s0, s1, s2⟩
    go_simp
    with_reducible rfl
  rotate_left
  · simp only [Act.put, sIB, sCz, sCs, i64_w, i32_w]
    rfl
  refine last_ (i := 16) (N := some 30) #[true, true, true, true, true, true, true, true, true, true, true, true, true, true, true, true, true, true, true, false, false, false] rfl rfl (by kernel_rfl) (by decide) (fun K hK => ?_)
  refine goes_ Tryz.func107 (by kernel_rfl) rfl #[.agg #[.int .i64 a, .int .i64 b, .int .u32 c]] (by rfl) rfl rfl (by simp only [List.map_toArray, List.map_cons, List.map_nil]; rfl) ?_
  with_reducible refine (size_ a b c _).mono ?_
  rintro e w6 ⟨rfl, hb6⟩
  refine ⟨_, rfl, ?_⟩
  rw [HSZ.out]
  have A6 := Aside0.mk (A5.out.below hb6)
  clear hb6
  refine hK.out _ _ ?_
  clear hK K
  refine norm_ (a' := ?_) ?_ ?_
  rotate_left
  · show Act.put _ (some 30) _ = _
    simp only [Act.put, sIB, sCz, sCs, i64_w, i32_w]
    rfl
  refine pure_ (i := 19) (N := some 33) (v := ?_) (a' := ?_) #[true, true, true, true, true, true, true, true, true, true, true, true, true, true, true, true, true, true, true, true, false, false] rfl rfl (by kernel_rfl) (fun _ _ _ h => h) (Or.inl ⟨by rfl, ?_⟩) ?_ ?_
  rotate_left
  · intro w'
    go_simp
    with_reducible rfl
  rotate_left
  · simp only [Act.put, sIB, sCz, sCs, i64_w, i32_w]
    rfl
  refine pure_ (i := 20) (N := some 34) (v := ?_) (a' := ?_) #[true, true, true, true, true, true, true, true, true, true, true, true, true, true, true, true, true, true, true, true, true, false] rfl rfl (by kernel_rfl) (fun _ _ _ h => h) (Or.inl ⟨by rfl, ?_⟩) ?_ ?_
  rotate_left
  · intro w'
    go_simp
    with_reducible rfl
  rotate_left
  · simp only [Act.put, sIB, sCz, sCs, i64_w, i32_w]
    rfl
  refine pure_ (i := 21) (N := some 35) (v := ?_) (a' := ?_) #[true, true, true, true, true, true, true, true, true, true, true, true, true, true, true, true, true, true, true, true, true, true] rfl rfl (by kernel_rfl) (fun _ _ _ h => h) (Or.inl ⟨by rfl, ?_⟩) ?_ ?_
  rotate_left
  · intro w'
    go_simp
    with_reducible rfl
  rotate_left
  · simp only [Act.put, sIB, sCz, sCs, i64_w, i32_w]
    rfl
  refine done_ (by kernel_rfl) ?_
  obtain ⟨p, rfl⟩ := Int.eq_ofNat_of_zero_le (show 0 ≤ at_ by omega)
  have A7 := Aside0.mk A6.out.tail
  have HP0 : Aside0 (p + m ≤ 4096 ∧ 128 + p + m ≤ 64 * n) := ⟨by omega⟩
  clear hd hd2 hneg hbig hat hoi hws hws2 hs0
  go_wp2_with fail
  go_loopg [2, 3] m (fun k_ s v wr => ∃ (t : Nat) (A' : Option Addr) (c' : Nat) (wt' : Wt), s = .int .i64 ((p + t : Nat) : Int) ∧ v = .slice A' (m - t) c' ∧ t + k_ = m ∧ m - t ≤ c' ∧ (∀ W', Sep w0 W' F → U8.C W' A' (m - t) (xs.drop t)) ∧ (∀ i b, wt' i = some b → b.length = 64) ∧ appW las wt' (p + t) (xs.drop t) = appW las wt p xs ∧ Sep w0 wr (Dsk g las wt' :: F))
  case atStart => exact ⟨0, A, cp, wt, rfl, rfl, by omega, HX.out.2, HX.out.1, HL.out.2.2, rfl, A7.out⟩
  case round =>
    obtain ⟨t, A', c', wt', rfl, rfl, htk, hc', hC', hw', hap, hS⟩ := hrel
    have AK := Aside0.mk htk
    have AS := Aside0.mk hS
    have HC' := Aside0.mk (And.intro hC' (And.intro hw' (And.intro hap hc')))
    obtain ⟨r, hr⟩ : ∃ r, m - t = r := ⟨_, rfl⟩
    rw [hr] at HC' hc' ⊢
    have HR := Aside0.mk hr
    have hr0 : r ≤ 4096 := by have := HP0.out; omega
    by_cases h0 : r = 0
    case pos =>
      subst h0
      have HF : Aside0 (wt' = appW las wt p xs) := ⟨by
        have h := HC'.out.2.2.1
        rw [List.drop_of_length_le (by rw [HXL.out]; omega), appW_nil] at h
        exact h⟩
      clear hS hC' hw' hap htk hr
      go_wp2_with fail
      go_ret
      exact ⟨by rw [HV.out]; first | rfl | (simp; done), by rw [HRR.out, Int.toNat_natCast, ← HF.out]; exact AS.out⟩
    case neg =>
    have hr1 : 0 < r := by omega
    have hr1i : (0 : Int) < (r : Int) := by omega
    obtain ⟨q, hq⟩ : ∃ q, p + t = q := ⟨_, rfl⟩
    rw [hq] at HC' ⊢
    have HQ := Aside0.mk hq
    have HQB : Aside0 (128 + q + r ≤ 64 * n ∧ q ≤ 4096) := ⟨by have := HP0.out; omega⟩
    have hq0 : q ≤ 4096 := HQB.out.2
    obtain ⟨i, hi⟩ : ∃ i, 2 + q / 64 = i := ⟨_, rfl⟩
    obtain ⟨f, hf⟩ : ∃ f, q % 64 = f := ⟨_, rfl⟩
    have hf64 : f < 64 := by omega
    have hin : i < n := by have := HQB.out; omega
    have HI := Aside0.mk (And.intro hi (And.intro hf hin))
    have e1 : (q : Int).tdiv 64 = ((q / 64 : Nat) : Int) := by rw [Int.tdiv_eq_ediv_of_nonneg (by omega)]; omega
    have e2 : (q : Int).tmod 64 = (f : Int) := by rw [Int.tmod_eq_emod_of_nonneg (by omega)]; omega
    have e3 : (q : Int) % 64 = (f : Int) := by omega
    have e4 : (2 : Int) + (q : Int) / 64 = (i : Int) := by omega
    have e5 : (2 : Int) + ((q / 64 : Nat) : Int) = (i : Int) := by omega
    have HSL : Aside0 ((secF n las wt' i).length = 64) := ⟨by rw [secF_len HL.out.1 HC'.out.2.1, if_pos hin]⟩
    clear hS hC' hw' hap htk hr hq hi hf hin
    go_wp2_with fail
    refine (read_in AS.out i (fit6 HL.out.1 HI.out.2.2)).mono ?_
    rintro e w3 ⟨v3, rfl, hS3⟩
    have hsf : (wt' i).getD (sec las i) = secF n las wt' i := by unfold secF; rw [if_pos HI.out.2.2]
    rw [hsf] at hS3
    obtain ⟨gx, cx, rfl⟩ := hS3.rowFormN HSL.out (by decide)
    have hcx := hS3.rowC.2.1
    have hcut := Ref.cutF_ (g := gx) (N := 64) (c := cx) (j := f) (J := (f : Int)) rfl hf64 hcx
    obtain ⟨N, hN⟩ : ∃ N, 64 - f = N := ⟨_, rfl⟩
    obtain ⟨CX, hCX⟩ : ∃ N, cx - f = N := ⟨_, rfl⟩
    rw [hN, hCX] at hcut
    have HN := Aside0.mk hN
    have B3 := Aside0.mk hS3
    have HCB := Aside0.mk (HC'.out.1 _ hS3.tail.tail)
    obtain ⟨kk, hkk⟩ : ∃ kk, min r N = kk := ⟨_, rfl⟩
    have HKK := Aside0.mk hkk
    obtain ⟨hk1, hkr, hk64, hfN⟩ := min3 hkk hN hr1 hf64
    have HFN := Aside0.mk hfN
    obtain ⟨hwq, hwq2⟩ := wq2 hq0 hk64
    have htm : t ≤ m := by have h := AK.out; exact h ▸ Nat.le_add_right _ _
    have HAR := Aside0.mk (ar5 HQ.out HR.out htm hc' hkr)
    clear htm
    clear hS3 hsf hkk hN hCX hfN
    go_wp2_with (first | (refine gate_builtin (b := .copy) (xs := #[.tmp 52, .tmp 53]) rfl ?_; refine B3.out.copyRow rfl (.tmp 52) (.tmp 53) rfl Tryz.underlying24 size1 (o := f) (n' := N) (c' := CX) (m := r) (c := c') (A := A') (ys := xs.drop t) rfl rfl HCB.out HFN.out ?_; intro W4 hS4; rw [HKK.out]; have B4 : Aside0 (Sep w0 W4 (Dsk g las wt' :: Row U8 5 (.slice (some ⟨gx, 0, none⟩) 64 cx) (over (secF n las wt' i) f ((xs.drop t).take N)) :: F)) := ⟨hS4.at2⟩; clear hS4))
    have HXX : Aside0 ((over (secF n las wt' i) f ((xs.drop t).take N)).length = 64) := ⟨by rw [over_len (by rw [HSL.out, List.length_take]; exact fit7 HFN.out), HSL.out]⟩
    have hrl : (xs.drop t).length = r := by rw [List.length_drop, HXL.out]; exact HR.out
    have HST : Aside0 (appW las (putW n wt' i (over (secF n las wt' i) f ((xs.drop t).take N))) (q + kk) (xs.drop (t + kk)) = appW las wt p xs) := ⟨by
      have h := appW_step (n := n) (at_ := q) (las := las) (b := xs.drop t) (wt := wt') HL.out.1 HC'.out.2.1 (fun h => by rw [h] at hrl; simp at hrl; omega) (by rw [hrl]; exact HQB.out.1) (k := kk) (by rw [hrl, HI.out.2.1, HN.out, Nat.min_comm]; exact HKK.out.symm)
      rw [HI.out.1, HI.out.2.1, List.drop_drop] at h
      have htk : (xs.drop t).take N = (xs.drop t).take kk := tk7 HKK.out hrl
      rw [htk]
      exact h.trans HC'.out.2.2.1⟩
    have HLW := Aside0.mk (putW_len (n := n) (i := i) (b := over (secF n las wt' i) f ((xs.drop t).take N)) HC'.out.2.1)
    generalize over (secF n las wt' i) f ((xs.drop t).take N) = y at B4 HXX HST HLW
    clear hcut
    refine (dwrite_ B4.out HL.out.1 HL.out.2.1 i (b := y) B4.out.at2.rowC' hcx).mono ?_
    rintro e w5 ⟨rfl, hS5⟩
    have B5 := Aside0.mk hS5
    have hcut2 := cutLo Tryz.underlying24 Base.infoB A' r c' kk (J := (kk : Int)) rfl hkr hc'
    have HLO : Aside0 (∀ W' : World, U8.C W' A' r (xs.drop t) → U8.C W' (if c' = kk then A' else A'.map (·.add (kk * 1))) (r - kk) ((xs.drop t).drop kk)) := ⟨fun W' hC => C_lo (a := kk) (c := c') hC hkr hc'⟩
    obtain ⟨AL, hAL⟩ : ∃ AL, (if c' = kk then A' else A'.map (·.add (kk * 1))) = AL := ⟨_, rfl⟩
    rw [hAL] at HLO
    simp only [hAL] at hcut2
    clear hAL
    clear hS5 hrl
    go_wp2_with fail
    go_quiet (fail)
    go_wp2_with fail
    go_roundg (gk - kk)
    case measure => have := AK.out; have := HR.out; omega
    case rel =>
      refine ⟨t + kk, AL, c' - kk, putW n wt' i y, by rw [HAR.out.1], by rw [HAR.out.2.1], by have h1 := AK.out; have h2 := HR.out; have h3 := HAR.out.2.2.2.1; omega, by rw [HAR.out.2.1]; exact HAR.out.2.2.2.2, fun W' hW => ?_, HLW.out, by rw [HAR.out.2.2.1]; exact HST.out, ?_⟩
      · have h := HLO.out W' (HC'.out.1 W' hW)
        rw [List.drop_drop] at h
        rw [HAR.out.2.1]
        exact h
      · exact (B5.out.drewN _).drop2
theorem append_ (h : Sep w0 W (Dsk g las wt :: F)) (hl : las.length = 64 * n) (hn : n ≤ 160) (hw : ∀ i b, wt i = some b → b.length = 64) (a b c at_ : Int) (hat : -9223372036854775808 ≤ at_ ∧ at_ ≤ 9223372036854775807) {A : Option Addr} {m cp : Nat} {xs : List Int} (hx : ∀ W', Sep w0 W' F → U8.C W' A m xs) (hcp : m ≤ cp) :
    Calls Tryz.prog 73 #[.pointer (some ⟨g, 0, none⟩), .agg #[.int .i64 a, .int .i64 b, .int .u32 c], .int .i64 at_, .slice A m cp] W fun e w' => e = .returned (.bool (okA n a b c at_ m)) ∧ Sep w0 w' (Dsk g las (appR n las wt a b c at_ xs) :: F) := by
  cases ho : okA n a b c at_ m with
  | false =>
    refine (append_no h hl hn hw a b c at_ hat hx hcp ho).mono ?_
    rintro e w' ⟨rfl, hS⟩
    exact ⟨by rw [ho], hS⟩
  | true =>
    refine (append_yes h hl hn hw a b c at_ hat hx hcp ho).mono ?_
    rintro e w' ⟨rfl, hS⟩
    exact ⟨by rw [ho], hS⟩
end
end Go.Proofs.YtjngnigelkgekaaGreat.Redo
namespace Go.Proofs.YtjngnigelkgekaaGreat.Redo
open Go.RowKit Go.Proofs.YtjngnigelkgekaaGreatW.PrintWords Go.Proofs.YtjngnigelkgekaaGreatW.PrintLast Go.Proofs.YtjngnigelkgekaaGreatW.PrintMore Go.Proofs.YtjngnigelkgekaaGreat.Kit Go.Proofs.YtjngnigelkgekaaGreat.Plain Go.Proofs.YtjngnigelkgekaaGreat.Disk Go.Proofs.YtjngnigelkgekaaGreat.Root
theorem appW_len {n at_ : Nat} {las b : List Int} {wt : Wt} (hl : las.length = 64 * n) (hw : ∀ i b, wt i = some b → b.length = 64) (hfit : 128 + at_ + b.length ≤ 64 * n) : ∀ i c, appW las wt at_ b i = some c → c.length = 64 := by
  intro i c h
  unfold appW at h
  split at h
  · rename_i ht
    injection h with h
    rw [← h]
    exact sec_len (by rw [over_len (by rw [Ref.flushed_len hl hw]; omega), Ref.flushed_len hl hw]; have := ht.2.1; omega)
  · exact hw i c h
theorem appW_flushed {n at_ : Nat} {las b : List Int} {wt : Wt} (hl : las.length = 64 * n) (hw : ∀ i b, wt i = some b → b.length = 64) (hfit : 128 + at_ + b.length ≤ 64 * n) : flushed las (appW las wt at_ b) = over (flushed las wt) (128 + at_) b := by
  have hF := Ref.flushed_len hl hw
  have hG : (over (flushed las wt) (128 + at_) b).length = 64 * n := by rw [over_len (by omega)]; exact hF
  rw [← secs_self hG]
  unfold flushed
  rw [show las.length / 64 = n by omega]
  refine secs_congr (fun i hi => ?_)
  show (appW las wt at_ b i).getD (sec las i) = sec (over (secs n fun i => (wt i).getD (sec las i)) (128 + at_) b) i
  have hsF := Ref.sec_flushed hl hw hi
  have hfl : flushed las wt = secs n (fun i => (wt i).getD (sec las i)) := by unfold flushed; rw [show las.length / 64 = n by omega]
  rw [hfl] at hsF hF
  unfold appW
  rw [hfl]
  by_cases h : b ≠ [] ∧ 64 * i < 128 + at_ + b.length ∧ 128 + at_ < 64 * i + 64
  · rw [if_pos h]; rfl
  · rw [if_neg h, ← hsF]
    by_cases hb : b = []
    · subst hb; rw [over_nil]
    · refine (sec_over_out (by omega) ?_).symm
      by_cases h1 : 64 * i < 128 + at_ + b.length
      · left
        have : ¬ 128 + at_ < 64 * i + 64 := fun h2 => h ⟨hb, h1, h2⟩
        omega
      · right; omega
theorem secs_shift {G : List Int} (s : Nat) : ∀ m : Nat, 64 * (s + m) ≤ G.length → secs m (fun i => sec G (s + i)) = (G.take (64 * (s + m))).drop (64 * s) := by
  intro m h
  apply List.ext_getElem?
  intro p
  rw [secs_get (fun i hi => sec_len (by omega)), List.getElem?_drop, List.getElem?_take]
  by_cases hp : p < 64 * m
  · rw [if_pos hp, if_pos (by omega), sec_get _ _ _ (by omega), show 64 * (s + p / 64) + p % 64 = 64 * s + p by omega]
  · rw [if_neg hp, if_neg (by omega)]
theorem logF_of {n a : Nat} {las : List Int} {wt : Wt} {b c : Int} (hl : las.length = 64 * n) (hw : ∀ i b, wt i = some b → b.length = 64) (hr : rightR (a : Int) b c n = true) : logF n las wt (a : Int) b c = ((flushed las wt).take (64 * (2 + a))).drop 128 := by
  have h1 := of_decide_eq_true hr
  have hF := Ref.flushed_len hl hw
  rw [← secs_shift 2 a (by omega)]
  unfold logF
  rw [if_pos hr, Int.toNat_natCast]
  refine secs_congr (fun i hi => ?_)
  unfold secF
  rw [if_pos (by omega), Ref.sec_flushed hl hw (by omega)]
end Go.Proofs.YtjngnigelkgekaaGreat.Redo
namespace Go.Proofs.YtjngnigelkgekaaGreat.Frame
open Go.RowKit Go.Proofs.YtjngnigelkgekaaGreatW.PrintWords Go.Proofs.YtjngnigelkgekaaGreatW.PrintLast Go.Proofs.YtjngnigelkgekaaGreatW.PrintMore Go.Proofs.YtjngnigelkgekaaGreat.Kit Go.Proofs.YtjngnigelkgekaaGreat.Base Go.Proofs.YtjngnigelkgekaaGreat.Plain
def readF (b : List Int) (ep sq : Int) : Option (List Int) :=
  if 16 ≤ b.length ∧ getF b 0 = ep ∧ getF b 4 = sq ∧ 16 + (getF b 8).toNat ≤ b.length ∧ getF b ((12 + (getF b 8).toNat : Nat) : Int) = sumF (b.take (12 + (getF b 8).toNat)) then some ((b.take (12 + (getF b 8).toNat)).drop 12) else none
theorem readF_some {b x : List Int} {ep sq : Int} (h : readF b ep sq = some x) : 16 + x.length ≤ b.length := by
  unfold readF at h
  split at h
  · rename_i h1
    injection h with h
    rw [← h, List.length_drop, List.length_take]
    omega
  · cases h
theorem readF_bytes {b x : List Int} {ep sq : Int} (hb : Bytes b) (h : readF b ep sq = some x) : Bytes x := by
  unfold readF at h
  split at h
  · injection h with h
    rw [← h]
    exact (hb.take _).drop _
  · cases h
def okR (b : List Int) (ep sq : Int) (e : Ending) (w w' : World) : Prop := match readF b ep sq with
  | none => e = .returned (.tuple #[.slice none 0 0, .int .i64 0, .bool false]) ∧ Below w.heap.size w w'
  | some x => ∃ v, e = .returned (.tuple #[v, .int .i64 ((16 + x.length : Nat) : Int), .bool true]) ∧ Sep w w' [Row U8 5 v x]
theorem okR_no {b : List Int} {ep sq : Int} {e : Ending} {w w' : World} (h : readF b ep sq = none) (he : e = .returned (.tuple #[.slice none 0 0, .int .i64 0, .bool false])) (hb : Below w.heap.size w w') : okR b ep sq e w w' := by
  unfold okR
  rw [h]
  exact ⟨he, hb⟩
theorem okR_yes {b x : List Int} {ep sq : Int} {e : Ending} {w w' : World} {v : Value} (h : readF b ep sq = some x) (he : e = .returned (.tuple #[v, .int .i64 ((16 + x.length : Nat) : Int), .bool true])) (hS : Sep w w' [Row U8 5 v x]) : okR b ep sq e w w' := by
  unfold okR
  rw [h]
  exact ⟨v, he, hS⟩
theorem rd_le (l : List Int) (hb : Bytes l) (i : Int) : 0 ≤ rd l i ∧ rd l i ≤ 255 := hb.at i
theorem getF_in {l : List Int} (hb : Bytes l) (a : Int) : 0 ≤ getF l a ∧ getF l a ≤ 4294967295 := by
  unfold getF
  split
  · omega
  · have h0 := rd_le l hb a
    have h1 := rd_le l hb (a + 1)
    have h2 := rd_le l hb (a + 2)
    have h3 := rd_le l hb (a + 3)
    omega
theorem fr_wrap {k n : Nat} (hk : (k : Int) ≤ 4294967295) (hn : 16 ≤ n) (hm : n ≤ 1000000) : IntKind.u64.wrap (k : Int) = (k : Int) ∧ wrap64 ((n : Int) - 16) = (n : Int) - 16 ∧ IntKind.i64.wrap ((n : Int) - 16) = (n : Int) - 16 ∧ IntKind.u64.wrap ((n : Int) - 16) = (n : Int) - 16 ∧ IntKind.i64.wrap (k : Int) = (k : Int) ∧ wrap64 (12 + (k : Int)) = 12 + (k : Int) ∧ wrap64 (k : Int) = (k : Int) :=
  ⟨by rw [IntKind.wrap_u64]; omega, IntWalk.wrap64_in _ (by omega), by rw [IntKind.wrap_i64]; omega, by rw [IntKind.wrap_u64]; omega, by rw [IntKind.wrap_i64]; omega, IntWalk.wrap64_in _ (by omega), IntWalk.wrap64_in _ (by omega)⟩
theorem fr_wrap2 {k : Nat} (hk : (k : Int) ≤ 4294967295) : wrap64 (12 + (k : Int) + 4) = ((16 + k : Nat) : Int) ∧ 12 + (k : Int) + 4 = ((16 + k : Nat) : Int) ∧ wrap64 (16 + (k : Int)) = ((16 + k : Nat) : Int) ∧ 16 + (k : Int) = ((16 + k : Nat) : Int) := ⟨by rw [IntWalk.wrap64_in _ (by omega)]; omega, by omega, by rw [IntWalk.wrap64_in _ (by omega)]; omega, by omega⟩
theorem fr_len {l : List Int} {k n : Nat} (hl : l.length = n) (h : 16 + k ≤ n) : ((l.take (12 + k)).drop 12).length = k := by
  rw [List.length_drop, List.length_take]; omega
theorem readF_of {l : List Int} {ep sq : Int} {k J n : Nat} (hl : l.length = n) (h16 : 16 ≤ n) (h0 : getF l 0 = ep) (h4 : getF l 4 = sq) (hkt : (getF l 8).toNat = k) (hJ : 12 + k = J) (h8 : 16 + k ≤ n) :
    readF l ep sq = if getF l (J : Int) = sumF (l.take J) then some ((l.take J).drop 12) else none := by
  unfold readF
  rw [hkt, hJ]
  by_cases h : getF l (J : Int) = sumF (l.take J)
  · have hc : 16 ≤ l.length ∧ getF l 0 = ep ∧ getF l 4 = sq ∧ 16 + k ≤ l.length ∧ getF l (J : Int) = sumF (l.take J) := ⟨by rw [hl]; exact h16, h0, h4, by rw [hl]; exact h8, h⟩
    exact (if_pos hc).trans (if_pos h).symm
  · exact (if_neg (fun h2 => h h2.2.2.2.2)).trans (if_neg h).symm
theorem fr_bnds {n c k J : Nat} (hJ : 12 + k = J) (h8 : 16 + k ≤ n) (hn : n ≤ 1000000) (hc : n ≤ c) : (-9223372036854775808 ≤ (J : Int) ∧ (J : Int) ≤ 9223372036854775807) ∧ 12 ≤ J ∧ J - 12 = k ∧ k ≤ c - 12 ∧ k < 140737488355328 := ⟨⟨by omega, by omega⟩, by omega, by omega, by omega, by omega⟩
set_option maxHeartbeats 1600000 in
set_option maxRecDepth 100000 in
theorem fread_ {A : Option Addr} {n c : Nat} {l : List Int} {w : World} (hr : U8.C w A n l) (hc : n ≤ c) (hb : Bytes l) (hn : n ≤ 1000000) (ep sq : Int) :
    Calls Tryz.prog 148 #[.slice A n c, .int .u32 ep, .int .u32 sq] w fun e w' => okR l ep sq e w w' := by
  have HR := Aside0.mk (And.intro hr (And.intro hc hb))
  have hl := hr.1
  have HL := Aside0.mk hl
  by_cases h16 : n < 16
  case pos =>
    have HV : Aside0 (readF l ep sq = none) := ⟨if_neg (fun h => by omega)⟩
    have h1 : (n : Int) < 16 := by omega
    clear hr hc hb hl
    go_enter Tryz.func148, Tryz.ntmps148
    go_wp2_with fail
    go_ret3
    exact okR_no HV.out (by first | rfl | (simp; done)) (Below.refl _ _)
  case neg =>
  have h1 : ¬ (n : Int) < 16 := by omega
  by_cases h0 : getF l 0 = ep
  case neg =>
    have HV : Aside0 (readF l ep sq = none) := ⟨if_neg (fun h => h0 h.2.1)⟩
    have hn1 : (getF l 0 != ep) = true := by simpa using h0
    clear hr hc hb hl h0
    go_enter Tryz.func148, Tryz.ntmps148
    go_wp2_with fail
    refine (Sum.get_ (l := l) (a := 0) HR.out.1 HR.out.2.1 HR.out.2.2 (by decide)).mono ?_
    rintro e w1 ⟨rfl, rfl⟩
    generalize getF l 0 = x at hn1
    go_wp2_with fail
    go_ret3
    exact okR_no HV.out (by first | rfl | (simp; done)) (Below.refl _ _)
  case pos =>
  have H0 := Aside0.mk h0
  have hq1 : (ep != ep) = false := by simp
  by_cases h4 : getF l 4 = sq
  case neg =>
    have HV : Aside0 (readF l ep sq = none) := ⟨if_neg (fun h => h4 h.2.2.1)⟩
    have hn1 : (getF l 4 != sq) = true := by simpa using h4
    clear hr hc hb hl h0 h4
    go_enter Tryz.func148, Tryz.ntmps148
    go_wp2_with fail
    refine (Sum.get_ (l := l) (a := 0) HR.out.1 HR.out.2.1 HR.out.2.2 (by decide)).mono ?_
    rintro e w1 ⟨rfl, rfl⟩
    rw [H0.out]
    go_wp2_with fail
    refine (Sum.get_ (l := l) (a := 4) HR.out.1 HR.out.2.1 HR.out.2.2 (by decide)).mono ?_
    rintro e w1 ⟨rfl, rfl⟩
    generalize getF l 4 = x at hn1
    go_wp2_with fail
    go_ret3
    exact okR_no HV.out (by first | rfl | (simp; done)) (Below.refl _ _)
  case pos =>
  have H4 := Aside0.mk h4
  have hq4 : (sq != sq) = false := by simp
  have hk0 := getF_in hb 8
  obtain ⟨k, hk⟩ : ∃ k : Nat, getF l 8 = (k : Int) := Int.eq_ofNat_of_zero_le hk0.1
  have hkt : (getF l 8).toNat = k := by omega
  have hk2 : (k : Int) ≤ 4294967295 := by omega
  have HK := Aside0.mk hk
  have h16n := Nat.le_of_not_lt h16
  by_cases h8 : 16 + k ≤ n
  case neg =>
    have HV : Aside0 (readF l ep sq = none) := ⟨if_neg (fun h => h8 (by have h2 := h.2.2.2.1; rw [hkt, hl] at h2; exact h2))⟩
    have hd8 : (n : Int) - 16 < (k : Int) := by omega
    obtain ⟨u1, u2, u3, u4, u5, u6, u7⟩ := fr_wrap hk2 h16n hn
    clear hr hc hb hl h0 h4 hk hkt hk0
    go_enter Tryz.func148, Tryz.ntmps148
    go_wp2_with fail
    refine (Sum.get_ (l := l) (a := 0) HR.out.1 HR.out.2.1 HR.out.2.2 (by decide)).mono ?_
    rintro e w1 ⟨rfl, rfl⟩
    rw [H0.out]
    go_wp2_with fail
    refine (Sum.get_ (l := l) (a := 4) HR.out.1 HR.out.2.1 HR.out.2.2 (by decide)).mono ?_
    rintro e w1 ⟨rfl, rfl⟩
    rw [H4.out]
    go_wp2_with fail
    refine (Sum.get_ (l := l) (a := 8) HR.out.1 HR.out.2.1 HR.out.2.2 (by decide)).mono ?_
    rintro e w1 ⟨rfl, rfl⟩
    rw [HK.out]
    go_wp2_with fail
    go_ret3
    exact okR_no HV.out (by first | rfl | (simp; done)) (Below.refl _ _)
  case pos =>
  have hd8 : ¬ (n : Int) - 16 < (k : Int) := by omega
  obtain ⟨J, hJ⟩ : ∃ J, 12 + k = J := ⟨_, rfl⟩
  have hJi : 12 + (k : Int) = (J : Int) := by omega
  have hJn : J ≤ n := by omega
  obtain ⟨u1, u2, u3, u4, u5, u6, u7⟩ := fr_wrap hk2 h16n hn
  have u6' : wrap64 (12 + (k : Int)) = (J : Int) := u6.trans hJi
  have HJI := Aside0.mk hJi
  obtain ⟨hcut, hT⟩ := take8 (A := A) (c := c) (b := J) (K := (J : Int)) rfl hl hJn hc
  have HT := Aside0.mk hT
  have HVV := Aside0.mk (readF_of hl h16n h0 h4 hkt hJ h8)
  have HDL : Aside0 (((l.take J).drop 12).length = k) := ⟨by rw [← hJ]; exact fr_len hl h8⟩
  obtain ⟨v1, v2, v3, v4⟩ := fr_wrap2 hk2
  rw [hJi] at v1 v2
  have HBD := Aside0.mk (And.intro h8 (And.intro hJ (And.intro v1 v2)))
  have HBN := Aside0.mk (fr_bnds hJ h8 hn hc)
  clear hr hl h0 h4 hk hkt hk0 hT v1 v2 v3 v4 hJ hJi u6
  go_enter Tryz.func148, Tryz.ntmps148
  go_wp2_with fail
  refine (Sum.get_ (l := l) (a := 0) HR.out.1 HR.out.2.1 HR.out.2.2 (by decide)).mono ?_
  rintro e w1 ⟨rfl, rfl⟩
  rw [H0.out]
  go_wp2_with fail
  refine (Sum.get_ (l := l) (a := 4) HR.out.1 HR.out.2.1 HR.out.2.2 (by decide)).mono ?_
  rintro e w1 ⟨rfl, rfl⟩
  rw [H4.out]
  go_wp2_with fail
  refine (Sum.get_ (l := l) (a := 8) HR.out.1 HR.out.2.1 HR.out.2.2 (by decide)).mono ?_
  rintro e w1 ⟨rfl, rfl⟩
  rw [HK.out]
  go_wp2_with fail
  rw [HJI.out]
  clear u6'
  have HRd := Aside0.mk (Kd.C_below HR.out.1 (Sep.start w).drew.toBelow)
  have HSW := Aside0.mk (Sep.start w).drew
  refine start_ (n := 8) (S := fun w' => True) (ds := []) #[false, false, false, false, false, false, false, false] (by kernel_rfl) rfl rfl (trivial) (fun hHeld => ?_)
  refine pure_ (i := 0) (N := some 38) (v := ?_) (a' := ?_) #[true, false, false, false, false, false, false, false] rfl rfl (by kernel_rfl) (fun _ _ _ h => h) (Or.inl ⟨by rfl, ?_⟩) ?_ ?_
  rotate_left
  · intro w'
    go_simp
    with_reducible rfl
  rotate_left
  · simp only [Act.put, sIB, sCz, sCs, i64_w, i32_w]
    rfl
  refine pure_ (i := 1) (N := some 39) (v := ?_) (a' := ?_) #[true, true, false, false, false, false, false, false] rfl rfl (by kernel_rfl) (fun _ _ _ h => h) (Or.inl ⟨by rfl, ?_⟩) ?_ ?_
  rotate_left
  · intro w'
    go_simp
    with_reducible rfl
  rotate_left
  · simp only [Act.put, sIB, sCz, sCs, i64_w, i32_w]
    rfl
  refine pure_ (i := 3) (N := some 41) (v := ?_) (a' := ?_) #[true, true, false, true, false, false, false, false] rfl rfl (by kernel_rfl) (fun _ _ _ h => h) (Or.inl ⟨by rfl, ?_⟩) ?_ ?_
  rotate_left
  · intro w'
    go_simp
    with_reducible rfl
  rotate_left
  · simp only [Act.put, sIB, sCz, sCs, i64_w, i32_w]
    rfl
  refine pure_ (i := 4) (N := some 42) (v := ?_) (a' := ?_) #[true, true, false, true, true, false, false, false] rfl rfl (by kernel_rfl) (fun _ _ _ h => h) (Or.inl ⟨by rfl, ?_⟩) ?_ ?_
  rotate_left
  · intro w'
    go_simp
    with_reducible rfl
  rotate_left
  · simp only [Act.put, sIB, sCz, sCs, i64_w, i32_w]
    rfl
  refine pure_ (i := 5) (N := some 43) (v := ?_) (a' := ?_) #[true, true, false, true, true, true, false, false] rfl rfl (by kernel_rfl) (fun _ _ _ h => h) (Or.inl ⟨by rfl, ?_⟩) ?_ ?_
  rotate_left
  · intro w'
    go_simp
    with_reducible rfl
  rotate_left
  · simp only [Act.put, sIB, sCz, sCs, i64_w, i32_w]
    rfl
  refine one_ (i := 2) (N := some 40) #[true, true, true, true, true, true, false, false] rfl rfl (by kernel_rfl) (by decide) (fun K hK => ?_)
  refine goes_ Tryz.func131 (by kernel_rfl) rfl #[.slice A n c, .int .i64 (J : Int)] (by rfl) rfl rfl (by simp only [List.map_toArray, List.map_cons, List.map_nil]; rfl) ?_
  with_reducible refine (Sum.get_ (l := l) (a := (J : Int)) HRd.out HR.out.2.1 HR.out.2.2 HBN.out.1).mono ?_
  rintro e w3 ⟨rfl, rfl⟩
  refine ⟨_, rfl, ?_⟩
  refine hK.out _ _ (trivial) (fun hHeld => ?_)
  clear hK K
  refine norm_ (a' := ?_) ?_ ?_
  rotate_left
  · show Act.put _ (some 40) _ = _
    simp only [Act.put, sIB, sCz, sCs, i64_w, i32_w]
    rfl
  refine one_ (i := 6) (N := some 44) #[true, true, true, true, true, true, true, false] rfl rfl (by kernel_rfl) (by decide) (fun K hK => ?_)
  refine goes_ Tryz.func103 (by kernel_rfl) rfl #[.slice A J c] (by rfl) rfl rfl (by simp only [List.map_toArray, List.map_cons, List.map_nil]; rfl) ?_
  with_reducible refine (Sum.of_ (HT.out _ HRd.out)).mono ?_
  rintro e w4 ⟨rfl, rfl⟩
  refine ⟨_, rfl, ?_⟩
  refine hK.out _ _ (trivial) (fun hHeld => ?_)
  clear hK K
  refine norm_ (a' := ?_) ?_ ?_
  rotate_left
  · show Act.put _ (some 44) _ = _
    simp only [Act.put, sIB, sCz, sCs, i64_w, i32_w]
    rfl
  refine pure_ (i := 7) (N := some 45) (v := ?_) (a' := ?_) #[true, true, true, true, true, true, true, true] rfl rfl (by kernel_rfl) (fun _ _ _ h => h) (Or.inl ⟨by rfl, ?_⟩) ?_ ?_
  rotate_left
  · intro w'
    go_simp
    with_reducible rfl
  rotate_left
  · simp only [Act.put, sIB, sCz, sCs, i64_w, i32_w]
    rfl
  refine done_ (by kernel_rfl) ?_
  by_cases hs : getF l (J : Int) = sumF (l.take J)
  case neg =>
    have HV : Aside0 (readF l ep sq = none) := ⟨HVV.out.trans (if_neg hs)⟩
    have hsn : (getF l (J : Int) != sumF (l.take J)) = true := by simpa using hs
    clear hs
    generalize getF l (J : Int) = x at hsn
    generalize sumF (l.take J) = y at hsn
    go_wp2_with fail
    go_ret3
    exact okR_no HV.out (by first | rfl | (simp; done)) HSW.out.toBelow
  case pos =>
  have HV : Aside0 (readF l ep sq = some ((l.take J).drop 12)) := ⟨HVV.out.trans (if_pos hs)⟩
  rw [hs]
  have hsn : (sumF (l.take J) != sumF (l.take J)) = false := by simp
  clear hs
  generalize sumF (l.take J) = y at hsn
  obtain ⟨A2, hcut2, hT2⟩ := mid8 (A := A) (c := c) (a := 12) (b := J) (J := 12) (K := (J : Int)) rfl rfl HL.out HBN.out.2.1 hJn hc
  have hJ12 : J - 12 = k := HBN.out.2.2.1
  rw [hJ12] at hcut2 hT2
  have HC2 := Aside0.mk (hT2 _ HRd.out)
  clear hJ12 hT2
  go_wp2_with fail
  refine (clone_ HC2.out HBN.out.2.2.2.1 HBN.out.2.2.2.2).mono ?_
  rintro e w5 ⟨v5, rfl, hS5⟩
  have B5 := Aside0.mk (HSW.out.lift1 hS5)
  clear hS5
  go_wp2_with fail
  go_ret3
  exact okR_yes HV.out (by rw [HDL.out, ← HBD.out.2.2.2]; first | rfl | (simp; done)) B5.out
end Go.Proofs.YtjngnigelkgekaaGreat.Frame
namespace Go.Proofs.YtjngnigelkgekaaGreat.Frame
open Go.RowKit Go.Proofs.YtjngnigelkgekaaGreatW.PrintWords Go.Proofs.YtjngnigelkgekaaGreatW.PrintLast Go.Proofs.YtjngnigelkgekaaGreatW.PrintMore Go.Proofs.YtjngnigelkgekaaGreat.Kit Go.Proofs.YtjngnigelkgekaaGreat.Base Go.Proofs.YtjngnigelkgekaaGreat.Plain Go.Proofs.YtjngnigelkgekaaGreat.Root
set_option maxHeartbeats 1600000 in
set_option maxRecDepth 100000 in
theorem rread_ {A : Option Addr} {n c : Nat} {l : List Int} {w : World} (hr : U8.C w A n l) (hc : n ≤ c) (hb : Bytes l) (hn : n ≤ 1000000) (ep sq : Int) :
    Calls Tryz.prog 111 #[.slice A n c, .int .u32 ep, .int .u32 sq] w fun e w' => okR l ep sq e w w' := by
  have HR := Aside0.mk (And.intro hr (And.intro hc hb))
  have hl := hr.1
  have HL := Aside0.mk hl
  have B0 := Aside0.mk (Sep.start w)
  by_cases h16 : n < 16
  case pos =>
    have HV : Aside0 (readF l ep sq = none) := ⟨if_neg (fun h => by omega)⟩
    have h1 : (n : Int) < 16 := by omega
    clear hr hc hb hl
    go_enter Tryz.func111, Tryz.ntmps111
    go_wp2_with fail
    go_ret3
    exact okR_no HV.out (by first | rfl | (simp; done)) (Below.refl _ _)
  case neg =>
  have h1 : ¬ (n : Int) < 16 := by omega
  by_cases h0 : getF l 0 = ep
  case neg =>
    have HV : Aside0 (readF l ep sq = none) := ⟨if_neg (fun h => h0 h.2.1)⟩
    have hn1 : (getF l 0 != ep) = true := by simpa using h0
    clear hr hc hb hl h0
    go_enter Tryz.func111, Tryz.ntmps111
    go_wp2_with fail
    refine (rget_ (l := l) (a := 0) HR.out.1 HR.out.2.2).mono ?_
    rintro e w1 ⟨rfl, hb1⟩
    have B1 := Aside0.mk (B0.out.below hb1)
    clear hb1
    generalize getF l 0 = x at hn1
    go_wp2_with fail
    go_ret3
    exact okR_no HV.out (by first | rfl | (simp; done)) B1.out.toBelow
  case pos =>
  have H0 := Aside0.mk h0
  have hq1 : (ep != ep) = false := by simp
  by_cases h4 : getF l 4 = sq
  case neg =>
    have HV : Aside0 (readF l ep sq = none) := ⟨if_neg (fun h => h4 h.2.2.1)⟩
    have hn1 : (getF l 4 != sq) = true := by simpa using h4
    clear hr hc hb hl h0 h4
    go_enter Tryz.func111, Tryz.ntmps111
    go_wp2_with fail
    refine (rget_ (l := l) (a := 0) HR.out.1 HR.out.2.2).mono ?_
    rintro e w1 ⟨rfl, hb1⟩
    have B1 := Aside0.mk (B0.out.below hb1)
    clear hb1
    rw [H0.out]
    go_wp2_with fail
    refine (rget_ (l := l) (a := 4) (Kd.C_below HR.out.1 B1.out.toBelow) HR.out.2.2).mono ?_
    rintro e w2 ⟨rfl, hb2⟩
    have B2 := Aside0.mk (B1.out.below hb2)
    clear hb2
    generalize getF l 4 = x at hn1
    go_wp2_with fail
    go_ret3
    exact okR_no HV.out (by first | rfl | (simp; done)) B2.out.toBelow
  case pos =>
  have H4 := Aside0.mk h4
  have hq4 : (sq != sq) = false := by simp
  have hk0 := getF_in hb 8
  obtain ⟨k, hk⟩ : ∃ k : Nat, getF l 8 = (k : Int) := Int.eq_ofNat_of_zero_le hk0.1
  have hkt : (getF l 8).toNat = k := by omega
  have hk2 : (k : Int) ≤ 4294967295 := by omega
  have HK := Aside0.mk hk
  have h16n := Nat.le_of_not_lt h16
  by_cases h8 : 16 + k ≤ n
  case neg =>
    have HV : Aside0 (readF l ep sq = none) := ⟨if_neg (fun h => h8 (by have h2 := h.2.2.2.1; rw [hkt, hl] at h2; exact h2))⟩
    have hd8 : (n : Int) - 16 < (k : Int) := by omega
    obtain ⟨u1, u2, u3, u4, u5, u6, u7⟩ := fr_wrap hk2 h16n hn
    clear hr hc hb hl h0 h4 hk hkt hk0
    go_enter Tryz.func111, Tryz.ntmps111
    go_wp2_with fail
    refine (rget_ (l := l) (a := 0) HR.out.1 HR.out.2.2).mono ?_
    rintro e w1 ⟨rfl, hb1⟩
    have B1 := Aside0.mk (B0.out.below hb1)
    clear hb1
    rw [H0.out]
    go_wp2_with fail
    refine (rget_ (l := l) (a := 4) (Kd.C_below HR.out.1 B1.out.toBelow) HR.out.2.2).mono ?_
    rintro e w2 ⟨rfl, hb2⟩
    have B2 := Aside0.mk (B1.out.below hb2)
    clear hb2
    rw [H4.out]
    go_wp2_with fail
    refine (rget_ (l := l) (a := 8) (Kd.C_below HR.out.1 B2.out.toBelow) HR.out.2.2).mono ?_
    rintro e w3 ⟨rfl, hb3⟩
    have B3 := Aside0.mk (B2.out.below hb3)
    clear hb3
    rw [HK.out]
    go_wp2_with fail
    go_ret3
    exact okR_no HV.out (by first | rfl | (simp; done)) B3.out.toBelow
  case pos =>
  have hd8 : ¬ (n : Int) - 16 < (k : Int) := by omega
  obtain ⟨J, hJ⟩ : ∃ J, 12 + k = J := ⟨_, rfl⟩
  have hJi : 12 + (k : Int) = (J : Int) := by omega
  have hJn : J ≤ n := by omega
  obtain ⟨hcut, hT⟩ := take8 (A := A) (c := c) (b := J) (K := (J : Int)) rfl hl hJn hc
  have HT := Aside0.mk hT
  have HVV := Aside0.mk (readF_of hl h16n h0 h4 hkt hJ h8)
  have HDL : Aside0 (((l.take J).drop 12).length = k) := ⟨by rw [← hJ]; exact fr_len hl h8⟩
  have HW := Aside0.mk (fr_wrap2 hk2)
  have HBN := Aside0.mk (fr_bnds hJ h8 hn hc)
  have HJI := Aside0.mk hJi
  obtain ⟨u1, u2, u3, u4, u5, u6, u7⟩ := fr_wrap hk2 h16n hn
  rw [hJi] at u6
  have HU6 := Aside0.mk u6
  clear hr hl h0 h4 hk hkt hk0 hT hJ hJi u6
  go_enter Tryz.func111, Tryz.ntmps111
  go_wp2_with fail
  refine (rget_ (l := l) (a := 0) HR.out.1 HR.out.2.2).mono ?_
  rintro e w1 ⟨rfl, hb1⟩
  have B1 := Aside0.mk (B0.out.below hb1)
  clear hb1
  rw [H0.out]
  go_wp2_with fail
  refine (rget_ (l := l) (a := 4) (Kd.C_below HR.out.1 B1.out.toBelow) HR.out.2.2).mono ?_
  rintro e w2 ⟨rfl, hb2⟩
  have B2 := Aside0.mk (B1.out.below hb2)
  clear hb2
  rw [H4.out]
  go_wp2_with fail
  refine (rget_ (l := l) (a := 8) (Kd.C_below HR.out.1 B2.out.toBelow) HR.out.2.2).mono ?_
  rintro e w3 ⟨rfl, hb3⟩
  have B3 := Aside0.mk (B2.out.below hb3)
  clear hb3
  rw [HK.out]
  go_wp2_with fail
  refine (rget_ (l := l) (a := 8) (Kd.C_below HR.out.1 B3.out.toBelow) HR.out.2.2).mono ?_
  rintro e w4 ⟨rfl, hb4⟩
  have B4 := Aside0.mk (B3.out.below hb4).drew
  clear hb4
  rw [HK.out]
  have w12 : wrap64 (12 + (k : Int)) = (J : Int) := by rw [HJI.out]; exact HU6.out
  go_wp2_with fail
  refine start_ (n := 10) (S := fun w' => True) (ds := []) #[false, false, false, false, false, false, false, false, false, false] (by kernel_rfl) rfl rfl (trivial) (fun hHeld => ?_)
  refine pure_ (i := 0) (N := some 38) (v := ?_) (a' := ?_) #[true, false, false, false, false, false, false, false, false, false] rfl rfl (by kernel_rfl) (fun _ _ _ h => h) (Or.inl ⟨by rfl, ?_⟩) ?_ ?_
  rotate_left
  · intro w'
    go_simp
    with_reducible rfl
  rotate_left
  · simp only [Act.put, sIB, sCz, sCs, i64_w, i32_w]
    rfl
  refine pure_ (i := 1) (N := some 39) (v := ?_) (a' := ?_) #[true, true, false, false, false, false, false, false, false, false] rfl rfl (by kernel_rfl) (fun _ _ _ h => h) (Or.inl ⟨by rfl, ?_⟩) ?_ ?_
  rotate_left
  · intro w'
    go_simp
    with_reducible rfl
  rotate_left
  · simp only [Act.put, sIB, sCz, sCs, i64_w, i32_w]
    rfl
  refine pure_ (i := 2) (N := some 40) (v := ?_) (a' := ?_) #[true, true, true, false, false, false, false, false, false, false] rfl rfl (by kernel_rfl) (fun _ _ _ h => h) (Or.inl ⟨by rfl, ?_⟩) ?_ ?_
  rotate_left
  · intro w'
    go_simp
    with_reducible rfl
  rotate_left
  · simp only [Act.put, sIB, sCz, sCs, i64_w, i32_w]
    rfl
  refine pure_ (i := 4) (N := some 42) (v := ?_) (a' := ?_) #[true, true, true, false, true, false, false, false, false, false] rfl rfl (by kernel_rfl) (fun _ _ _ h => h) (Or.inl ⟨by rfl, ?_⟩) ?_ ?_
  rotate_left
  · intro w'
    go_simp
    with_reducible rfl
  rotate_left
  · simp only [Act.put, sIB, sCz, sCs, i64_w, i32_w]
    rfl
  refine pure_ (i := 5) (N := some 43) (v := ?_) (a' := ?_) #[true, true, true, false, true, true, false, false, false, false] rfl rfl (by kernel_rfl) (fun _ _ _ h => h) (Or.inl ⟨by rfl, ?_⟩) ?_ ?_
  rotate_left
  · intro w'
    go_simp
    with_reducible rfl
  rotate_left
  · simp only [Act.put, sIB, sCz, sCs, i64_w, i32_w]
    rfl
  refine pure_ (i := 6) (N := some 44) (v := ?_) (a' := ?_) #[true, true, true, false, true, true, true, false, false, false] rfl rfl (by kernel_rfl) (fun _ _ _ h => h) (Or.inl ⟨by rfl, ?_⟩) ?_ ?_
  rotate_left
  · intro w'
    go_simp
    with_reducible rfl
  rotate_left
  · simp only [Act.put, sIB, sCz, sCs, i64_w, i32_w]
    rfl
  refine pure_ (i := 7) (N := some 45) (v := ?_) (a' := ?_) #[true, true, true, false, true, true, true, true, false, false] rfl rfl (by kernel_rfl) (fun _ _ _ h => h) (Or.inl ⟨by rfl, ?_⟩) ?_ ?_
  rotate_left
  · intro w'
    go_simp
    with_reducible rfl
  rotate_left
  · simp only [Act.put, sIB, sCz, sCs, i64_w, i32_w]
    rfl
  refine one_ (i := 3) (N := some 41) #[true, true, true, true, true, true, true, true, false, false] rfl rfl (by kernel_rfl) (by decide) (fun K hK => ?_)
  refine goes_ Tryz.func126 (by kernel_rfl) rfl #[.slice A n c, .int .i64 (wrap64 (12 + (k : Int)))] (by rfl) rfl rfl (by simp only [List.map_toArray, List.map_cons, List.map_nil]; rfl) ?_
  with_reducible refine (rget_ (l := l) (a := wrap64 (12 + (k : Int))) (Kd.C_below HR.out.1 B4.out.toBelow) HR.out.2.2).mono ?_
  rintro e w5 ⟨rfl, hb5⟩
  refine ⟨_, rfl, ?_⟩
  rw [w12]
  have B5 := Aside0.mk (B4.out.below hb5)
  clear hb5
  refine hK.out _ _ (trivial) (fun hHeld => ?_)
  clear hK K
  refine norm_ (a' := ?_) ?_ ?_
  rotate_left
  · show Act.put _ (some 41) _ = _
    simp only [Act.put, sIB, sCz, sCs, i64_w, i32_w]
    rfl
  refine one_ (i := 8) (N := some 46) #[true, true, true, true, true, true, true, true, true, false] rfl rfl (by kernel_rfl) (by decide) (fun K hK => ?_)
  refine goes_ Tryz.func89 (by kernel_rfl) rfl #[.slice A J c] (by rfl) rfl rfl (by simp only [List.map_toArray, List.map_cons, List.map_nil]; rfl) ?_
  with_reducible refine (rsum_ (HT.out _ (Kd.C_below HR.out.1 B5.out.toBelow))).mono ?_
  rintro e w6 ⟨rfl, rfl⟩
  refine ⟨_, rfl, ?_⟩
  refine hK.out _ _ (trivial) (fun hHeld => ?_)
  clear hK K
  refine norm_ (a' := ?_) ?_ ?_
  rotate_left
  · show Act.put _ (some 46) _ = _
    simp only [Act.put, sIB, sCz, sCs, i64_w, i32_w]
    rfl
  refine pure_ (i := 9) (N := some 47) (v := ?_) (a' := ?_) #[true, true, true, true, true, true, true, true, true, true] rfl rfl (by kernel_rfl) (fun _ _ _ h => h) (Or.inl ⟨by rfl, ?_⟩) ?_ ?_
  rotate_left
  · intro w'
    go_simp
    with_reducible rfl
  rotate_left
  · simp only [Act.put, sIB, sCz, sCs, i64_w, i32_w]
    rfl
  refine done_ (by kernel_rfl) ?_
  by_cases hs : getF l (J : Int) = sumF (l.take J)
  case neg =>
    have HV : Aside0 (readF l ep sq = none) := ⟨HVV.out.trans (if_neg hs)⟩
    have hsn : (getF l (J : Int) != sumF (l.take J)) = true := by simpa using hs
    clear hs
    generalize getF l (J : Int) = x at hsn
    generalize sumF (l.take J) = y at hsn
    go_wp2_with fail
    go_ret3
    exact okR_no HV.out (by first | rfl | (simp; done)) B5.out.toBelow
  case pos =>
  have HV : Aside0 (readF l ep sq = some ((l.take J).drop 12)) := ⟨HVV.out.trans (if_pos hs)⟩
  rw [hs]
  have hsn : (sumF (l.take J) != sumF (l.take J)) = false := by simp
  clear hs
  generalize sumF (l.take J) = y at hsn
  obtain ⟨A2, hcut2, hT2⟩ := mid8 (A := A) (c := c) (a := 12) (b := J) (J := 12) (K := (J : Int)) rfl rfl HL.out HBN.out.2.1 hJn hc
  have hJ12 : J - 12 = k := HBN.out.2.2.1
  rw [hJ12] at hcut2 hT2
  have HT2 := Aside0.mk hT2
  have B6 := Aside0.mk (B5.out.litRow (enc := Value.int .u8) (h1 := fun _ => rfl) (e := 5) [] (by simp))
  have HC2 := Aside0.mk (hT2 _ (Kd.C_below HR.out.1 B6.out.toBelow))
  have hkb : k ≤ 1000000 := by have := h8; omega
  clear hJ12 hT2
  have u16 := HW.out.2.2.1
  obtain ⟨KK, hKK⟩ : ∃ K, 16 + k = K := ⟨_, rfl⟩
  rw [hKK] at u16
  have HKK := Aside0.mk hKK
  have HKB := Aside0.mk hkb
  clear hkb hKK u1 u2 u3 u4 u5 u7 h8 h16 hd8 h1 hk2 h16n hb hc hn hJn
  go_wp2_with (first | (refine gate_builtin (b := .append) (xs := #[.tmp 48, .tmp 52]) rfl ?_; go_loud (refine B6.out.appendRow rfl (.tmp 48) (.tmp 52) 24 (.int .u8 0) 1 rfl Tryz.underlying24 infoB rfl (by decide) A2 k (c - 12) rfl rfl HC2.out (by rw [HDL.out]; have := HKB.out; simp; omega) ?_; intro v7 w7 hS7; have B7 := Aside0.mk hS7; clear hS7)))
  go_ret3
  exact okR_yes HV.out (by rw [HDL.out, HKK.out]; simp; exact u16) B7.out
end Go.Proofs.YtjngnigelkgekaaGreat.Frame
