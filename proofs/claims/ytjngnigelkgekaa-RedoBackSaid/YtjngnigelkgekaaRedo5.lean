/- RedoBack: the walk. -/
import Derived.Test.YtjngnigelkgekaaRedo4
namespace Go.Proofs.Ytjngnigelkgekaa.Redo
set_option linter.unusedVariables false
set_option linter.unusedSimpArgs false
open Go.RowKit Go.Proofs.YtjngnigelkgekaaW.PrintWords Go.Proofs.YtjngnigelkgekaaW.PrintLast Go.Proofs.YtjngnigelkgekaaW.PrintMore Go.Proofs.Ytjngnigelkgekaa.Kit Go.Proofs.Ytjngnigelkgekaa.Plain Go.Proofs.Ytjngnigelkgekaa.Disk Go.Proofs.Ytjngnigelkgekaa.Root
theorem rb_ok {k m : Nat} (h : k + m ≤ 320) : okA 12 5 3 1 (k : Int) m = true := by
  unfold okA rightR sizeF
  simp only [Bool.and_eq_true, decide_eq_true_eq]
  rw [if_neg (by omega)]
  omega
theorem rb_facts {xx bs : List Int} {k m : Nat} (hx : xx.length = 64 * 12) (hb : bs.length = m) (hk : k + m ≤ 320) :
    (∀ i b, appW xx (fun _ => none) k bs i = some b → b.length = 64) ∧ flushed xx (appW xx (fun _ => none) k bs) = over xx (128 + k) bs ∧
    (∀ x ∈ keysI xx (appW xx (fun _ => none) k bs), ∃ j : Nat, x = (j : Int) ∧ j ≤ 12 ∧ 64 * j < 128 + k + m ∧ 128 + k < 64 * j + 64) ∧
    logF 12 xx (appW xx (fun _ => none) k bs) 5 3 1 = ((over xx (128 + k) bs).take 448).drop 128 ∧ (m = 0 → keysI xx (appW xx (fun _ => none) k bs) = []) := by
  have h1 := appW_len (n := 12) (at_ := k) (b := bs) hx Ref.none_len (by omega)
  have h2 := appW_flushed (n := 12) (at_ := k) (b := bs) hx Ref.none_len (by omega)
  rw [flushed_none (n := 12) hx] at h2
  refine ⟨h1, h2, fun x hm => ?_, ?_, fun hm => ?_⟩
  · obtain ⟨j, rfl, hj, hw⟩ := keys_mem (n := 12) hx hm
    refine ⟨j, rfl, by omega, ?_⟩
    unfold appW at hw
    split at hw
    · rename_i h; rw [hb] at h; exact h.2
    · exact absurd rfl hw
  · have h3 := logF_of (n := 12) (a := 5) (b := 3) (c := 1) hx h1 rfl
    rw [h2] at h3
    exact h3
  · have : bs = [] := List.eq_nil_of_length_eq_zero (by omega)
    subst this
    rw [appW_nil]
    unfold keysI
    rw [keys_none]
    rfl
theorem rb_over {xx bs : List Int} {k m N : Nat} (hb : bs.length = m) (hN : m ≤ N) : over xx (128 + k) (bs.take N) = over xx (128 + k) bs := by
  rw [List.take_of_length_le (by omega)]
theorem rb_appR {xx bs : List Int} {k m : Nat} (hb : bs.length = m) (h : k + m ≤ 320) : appR 12 xx (fun _ => none) 5 3 1 (k : Int) bs = appW xx (fun _ => none) k bs := by
  unfold appR
  rw [hb, rb_ok h, Int.toNat_natCast]
  rfl
theorem rb_mem {ks : List Int} {j : Nat} (h : j < ks.length) : rd ks (j : Int) ∈ ks := by
  unfold rd
  rw [Int.toNat_natCast, List.getD_eq_getElem?_getD, List.getElem?_eq_getElem h]
  exact List.getElem_mem h
theorem rb_cut {y : List Int} (h : y.length = 768) : ((y.take 448).drop 128).length = 320 := by rw [List.length_drop, List.length_take, h]; rfl
theorem rb_k {k : Nat} (h : k ≤ 320) : 128 + k < 768 ∧ wrap64 (128 + (k : Int)) = 128 + (k : Int) ∧ wrap64 (320 - (k : Int)) = 320 - (k : Int) ∧ (128 + (k : Int)) = ((128 + k : Nat) : Int) ∧ (320 - (k : Int)) = ((320 - k : Nat) : Int) := ⟨by omega, IntWalk.wrap64_in _ (by omega), IntWalk.wrap64_in _ (by omega), by omega, by omega⟩
theorem rb_j {i k m : Nat} (hi : i ≤ 12) (hk : k + m ≤ 320) (h1 : 64 * i < 128 + k + m) (h2 : 128 + k < 64 * i + 64) : wrap64 ((i : Int) * 64) = (i : Int) * 64 ∧ wrap64 (128 + (k : Int) + (m : Int)) = 128 + (k : Int) + (m : Int) ∧ wrap64 ((i : Int) * 64 + 64) = (i : Int) * 64 + 64 ∧ decide (128 + (k : Int) + (m : Int) ≤ (i : Int) * 64) = false ∧ decide ((i : Int) * 64 + 64 ≤ 128 + (k : Int)) = false ∧ ¬ 128 + (k : Int) + (m : Int) ≤ (i : Int) * 64 ∧ ¬ (i : Int) * 64 + 64 ≤ 128 + (k : Int) :=
  ⟨IntWalk.wrap64_in _ (by omega), IntWalk.wrap64_in _ (by omega), IntWalk.wrap64_in _ (by omega), decide_eq_false (by omega), decide_eq_false (by omega), by omega, by omega⟩
set_option maxHeartbeats 1600000 in
set_option maxRecDepth 100000 in
theorem redoBack_ {A1 A2 : Option Addr} {n1 c1 n2 c2 : Nat} {b im : List Int} {at_ : Int} {w : World} (h1 : U8.C w A1 n1 b) (hc1 : n1 ≤ c1) (h2 : U8.C w A2 n2 im) :
    Calls Try.prog 17 #[.int .i64 at_, .slice A1 n1 c1, .slice A2 n2 c2] w fun e w' => e = .returned (.bool true) ∧ Below w.heap.size w w' := by
  have H1 := Aside0.mk h1
  have H2 := Aside0.mk h2
  have hm1 : n1 ≤ 9223372036854775807 := h1.2.1
  have hm2 : n2 ≤ 9223372036854775807 := h2.2.1
  have hin := Book.withinF_in (n := at_) (lo := 0) (hi := 320) (by decide)
  obtain ⟨k, hk⟩ := Int.eq_ofNat_of_zero_le (show 0 ≤ Book.withinF at_ 0 320 by omega)
  have hk3 : k ≤ 320 := by omega
  have HKB := Aside0.mk hk3
  have HK := Aside0.mk hk
  have hmk : ∀ W : World, (Instr.makeSlice 30 (.int .i64 768) (.int .i64 768)).run Try.prog W = .ok (.slice (some ⟨W.heap.size, 0, none⟩) 768 768) (W.alloc (.cells (madeCells #[.int .u8 0] 768) 5)) := make_ (m := 768) (by omega)
  have M1 := Aside0.mk (madeB 768 (Sep.start w) (by omega))
  clear h1 h2 hin hk
  go_enter Try.func17, Try.ntmps17
  go_wp2_with (first | (refine gate_builtin (b := .copy) (xs := #[.tmp 14, .tmp 15]) rfl ?_; refine M1.out.copyRow rfl (.tmp 14) (.tmp 15) rfl Try.underlying30 size1 (o := 0) (n' := 768) (c' := 768) (m := n2) (c := c2) (A := A2) (ys := im) rfl rfl (Kd.C_below H2.out M1.out.toBelow) (by decide) ?_; intro W2 hS2; have B2 := Aside0.mk hS2; clear hS2))
  have HX : Aside0 ((over (List.replicate 768 (0 : Int)) 0 (im.take 768)).length = 768) := ⟨by rw [over_len (by simp; omega), List.length_replicate]⟩
  generalize over (List.replicate 768 (0 : Int)) 0 (im.take 768) = xx at B2 HX
  clear hmk
  refine (of_ok (n := 12) (l := xx) (m := 768) (c := 768) (A := some ⟨w.heap.size, 0, none⟩) (by have h := B2.out.rowC.2.2; rwa [HX.out] at h) (by decide) (by decide) (by decide) (by decide)).mono ?_
  rintro e w3 ⟨g, rfl, hS3⟩
  have B3 := Aside0.mk ((B2.out.lift1 hS3).newBlk 26 #[.int .i64 5, .int .i64 3, .int .u32 1])
  clear hS3
  go_wp2_with fail
  refine (Book.within_ at_ 0 320 _ (by decide) (by decide) (by decide)).mono ?_
  rintro e w4 ⟨rfl, rfl⟩
  rw [HK.out]
  obtain ⟨hk1, hw1, hw2, hk4, hk5⟩ := rb_k HKB.out
  obtain ⟨w4, hw4⟩ : ∃ w4, w3.alloc (.cells #[.int .i64 5, .int .i64 3, .int .u32 1] 26) = w4 := ⟨_, rfl⟩
  rw [hw4] at B3 ⊢
  clear hw4
  go_upto_if 28 with fail
  go_cut [1] from 24 to 32 (fun v wx => wx = w4 ∧ ∃ m1 bs, v = .slice A1 m1 c1 ∧ m1 ≤ c1 ∧ k + m1 ≤ 320 ∧ U8.C w A1 m1 bs)
  case first =>
    by_cases hq : 320 - (k : Int) < (n1 : Int)
    · obtain ⟨hcut, hT⟩ := Base.take8 (A := A1) (c := c1) (b := 320 - k) (K := 320 - (k : Int)) hk5 H1.out.1 (by omega) hc1
      have HT := Aside0.mk (hT _ H1.out)
      clear hT hk4 hk5
      go_wp2_with fail
      go_meet
      case rel => exact ⟨rfl, 320 - k, _, rfl, by omega, by omega, HT.out⟩
    · clear hk4 hk5
      go_wp2_with fail
      go_meet
      case rel => exact ⟨rfl, n1, b, rfl, hc1, by omega, H1.out⟩
  case rest =>
    obtain ⟨rfl, m1, bs, rfl, q1, q2, q3⟩ := hcut
    have HM := Aside0.mk (And.intro q1 (And.intro q2 q3))
    clear q1 q2 q3
    have B4 := Aside0.mk B3.out.at2
    have z0 := (B3.out.cell 0).trans rfl
    have z1 := (B3.out.cell 1).trans rfl
    have z2 := (B3.out.cell 2).trans rfl
    go_wp2_with fail
    refine (append_ (n := 12) (xs := bs) (m := m1) (cp := c1) B4.out HX.out (by decide) Ref.none_len 5 3 1 (k : Int) (by omega) (fun W' hW => Kd.C_below HM.out.2.2 hW.toBelow) HM.out.1).mono ?_
    rintro e w5 ⟨rfl, hS5⟩
    rw [rb_appR HM.out.2.2.1 HM.out.2.1] at hS5
    rw [rb_ok HM.out.2.1]
    have B5 := Aside0.mk hS5.at3
    have HF := Aside0.mk (rb_facts HX.out HM.out.2.2.1 HM.out.2.1)
    have HOV := Aside0.mk (rb_over (xx := xx) (k := k) (N := 768 - (128 + k)) HM.out.2.2.1 (by have := HM.out.2.1; omega))
    have hcut := Ref.cutF_ (g := w.heap.size) (N := 768) (c := 768) (j := 128 + k) (J := 128 + (k : Int)) hk4 hk1 (Nat.le_refl _)
    obtain ⟨N, hN⟩ : ∃ N, 768 - (128 + k) = N := ⟨_, rfl⟩
    have HN : Aside0 (128 + k + N ≤ 768) := ⟨by omega⟩
    rw [hN] at hcut HOV
    generalize appW xx (fun _ => none) k bs = wt at B5 HF
    clear z0 z1 z2 hS5 hk4 hk5 hN
    go_wp2_with (first | (refine gate_builtin (b := .copy) (xs := #[.tmp 42, .tmp 43]) rfl ?_; refine B5.out.copyRow rfl (.tmp 42) (.tmp 43) rfl Try.underlying30 size1 (o := 128 + k) (n' := N) (c' := N) (m := m1) (c := c1) (A := A1) (ys := bs) rfl rfl (Kd.C_below HM.out.2.2 B5.out.toBelow) HN.out ?_; intro W6 hS6; rw [HOV.out] at hS6; have B6 := Aside0.mk hS6; clear hS6))
    have HY : Aside0 ((over xx (128 + k) bs).length = 768) := ⟨by rw [over_len (by rw [HM.out.2.2.1, HX.out]; have := HM.out.2.1; omega), HX.out]⟩
    generalize over xx (128 + k) bs = y at B6 HY HF
    clear hcut
    obtain ⟨sy, hsy⟩ : ∃ s, strOfNums y = s := ⟨_, rfl⟩
    have HSY := Aside0.mk hsy
    have hss : (sy.toList == sy.toList) = true := by simp
    have c6 := Str.strC (c := 768) (xs := y) (n := 768) (by have h := B6.out.drew.rowC.2.2; rwa [HY.out] at h)
    rw [hsy] at c6
    clear hsy
    go_wp2_with fail
    refine start_ (n := 6) (S := fun w' => (convert 30 9 (.slice (some ⟨w.heap.size, 0, none⟩) 768 768)).run Try.prog w' = .ok (.string sy) w') (ds := []) #[false, false, false, false, false, false] (by kernel_rfl) rfl rfl (c6) (fun hHeld => ?_)
    refine pure_ (i := 0) (N := some 45) (v := ?_) (a' := ?_) #[true, false, false, false, false, false] rfl rfl (by kernel_rfl) (fun _ _ _ h => h) (Or.inl ⟨by rfl, ?_⟩) ?_ ?_
    rotate_left
    · intro w'
      go_simp
      with_reducible rfl
    rotate_left
    · simp only [Act.put, List.setIfInBounds_toArray, List.set_cons_zero, List.set_cons_succ, i64_w, i32_w]
      rfl
    refine pure_ (i := 3) (N := some 48) (v := ?_) (a' := ?_) #[true, false, false, true, false, false] rfl rfl (by kernel_rfl) (fun _ _ _ h => h) (Or.inl ⟨by rfl, ?_⟩) ?_ ?_
    rotate_left
    · intro w'
      go_simp
      with_reducible rfl
    rotate_left
    · simp only [Act.put, List.setIfInBounds_toArray, List.set_cons_zero, List.set_cons_succ, i64_w, i32_w]
      rfl
    refine take_ (i := 4) (N := some 49) (v := ?_) (a' := ?_) #[true, false, false, true, true, false] rfl rfl (by kernel_rfl) (fun _ _ _ h => h) (Or.inl ⟨by rfl, ?_⟩) hHeld ?_ ?_
    rotate_left
    · intro w' s0
      go_simp
      with_reducible rfl
    rotate_left
    · simp only [Act.put, List.setIfInBounds_toArray, List.set_cons_zero, List.set_cons_succ, i64_w, i32_w]
      rfl
    refine one_ (i := 1) (N := some 46) #[true, true, false, true, true, false] rfl rfl (by kernel_rfl) (by decide) (fun K hK => ?_)
    refine goes_ Try.func24 (by kernel_rfl) rfl #[.pointer (some ⟨g, 0, none⟩)] (by rfl) rfl rfl (by simp only [List.map_toArray, List.map_cons, List.map_nil]; rfl) ?_
    with_reducible refine (seen_ B6.out.drew.at2).mono ?_
    rintro e w7 ⟨v7, rfl, hS7⟩
    refine ⟨_, rfl, ?_⟩
    rw [HF.out.2.1] at hS7
    obtain ⟨A7, c7, rfl⟩ := hS7.rowN (n := 768) HY.out
    have hs7 := str_ hS7
    rw [HSY.out] at hs7
    have B7 := Aside0.mk hS7.tail
    clear hS7 c6
    refine hK.out _ _ ((by have h := Str.strC (c := 768) (xs := y) (n := 768) (by have h := B7.out.at2.rowC.2.2; rwa [HY.out] at h); rwa [HSY.out] at h)) (fun hHeld => ?_)
    clear hK K
    refine norm_ (a' := ?_) ?_ ?_
    rotate_left
    · show Act.put _ (some 46) _ = _
      simp only [Act.put, List.setIfInBounds_toArray, List.set_cons_zero, List.set_cons_succ, i64_w, i32_w]
      rfl
    refine one_ (i := 2) (N := some 47) #[true, true, true, true, true, false] rfl rfl (by kernel_rfl) (by decide) (fun K hK => ?_)
    refine value_ (w1 := ?_) (v := ?_) (by rfl) rfl ?_ ?_
    rotate_left 2
    · go_simp
      constructor
      · rfl
      · rfl
    refine hK.out _ _ ((by have h := Str.strC (c := 768) (xs := y) (n := 768) (by have h := B7.out.at2.rowC.2.2; rwa [HY.out] at h); rwa [HSY.out] at h)) (fun hHeld => ?_)
    clear hK K
    refine norm_ (a' := ?_) ?_ ?_
    rotate_left
    · show Act.put _ (some 47) _ = _
      simp only [Act.put, List.setIfInBounds_toArray, List.set_cons_zero, List.set_cons_succ, i64_w, i32_w]
      rfl
    refine pure_ (i := 5) (N := some 50) (v := ?_) (a' := ?_) #[true, true, true, true, true, true] rfl rfl (by kernel_rfl) (fun _ _ _ h => h) (Or.inl ⟨by rfl, ?_⟩) ?_ ?_
    rotate_left
    · intro w'
      go_simp
      with_reducible rfl
    rotate_left
    · simp only [Act.put, List.setIfInBounds_toArray, List.set_cons_zero, List.set_cons_succ, i64_w, i32_w]
      rfl
    refine done_ (by kernel_rfl) ?_
    clear hs7
    go_wp2_with fail
    refine (waits_ B7.out).mono ?_
    rintro e w9 ⟨v9, rfl, hS9⟩
    obtain ⟨ks, hks⟩ : ∃ ks, keysI xx wt = ks := ⟨_, rfl⟩
    rw [hks] at hS9
    have HKM : Aside0 (∀ x ∈ ks, ∃ j : Nat, x = (j : Int) ∧ j ≤ 12 ∧ 64 * j < 128 + k + m1 ∧ 128 + k < 64 * j + 64) := ⟨by have h := HF.out.2.2.1; rwa [hks] at h⟩
    have HKS := Aside0.mk hks
    obtain ⟨nk, hnk⟩ : ∃ n, ks.length = n := ⟨_, rfl⟩
    obtain ⟨A9, c9, rfl⟩ := hS9.rowN (n := nk) hnk
    have B9 := Aside0.mk hS9
    have HNK := Aside0.mk hnk
    have hnb : nk ≤ 9223372036854775807 := hS9.rowC'.2.1
    clear hks hnk hS9
    go_wp2_with fail
    go_loopg [54] nk (fun m_ v wr => ∃ j : Nat, v = .int .i64 (j : Int) ∧ j + m_ = nk ∧ Sep w wr [Row I64 3 (.slice A9 nk c9) ks, Dsk g xx wt, Row U8 5 (.slice (some ⟨w.heap.size, 0, none⟩) 768 768) y, Blk w3.heap.size 26 #[.int .i64 5, .int .i64 3, .int .u32 1]])
    case atStart => exact ⟨0, rfl, by omega, B9.out⟩
    case round =>
      obtain ⟨j, rfl, hjm, hS⟩ := hrel
      have AK := Aside0.mk hjm
      have AS := Aside0.mk hS
      clear hS hjm
      by_cases cj : j < nk
      case pos =>
        have hjl : (j : Int) < (nk : Int) := by omega
        have hjld : decide ((j : Int) < (nk : Int)) = true := decide_eq_true hjl
        obtain ⟨ad, hA, hcc⟩ := Kd.at_int AS.out.rowC' (j : Int) (by omega) (by omega)
        subst hA
        obtain ⟨i, hi, i1, i2, i3⟩ := HKM.out _ (rb_mem (ks := ks) (j := j) (by rw [HNK.out]; exact cj))
        rw [hi, Int.toNat_natCast] at hcc
        obtain ⟨j1, j2, j3, j4, j5, j6, j7⟩ := rb_j i1 HM.out.2.1 i2 i3
        clear hi i2 i3 cj hk1 hw2
        go_wp2_with fail
        go_roundg (gk - 1)
        case measure => have := AK.out; omega
        case rel => exact ⟨j + 1, by go_num, by have := AK.out; omega, AS.out⟩
      case neg =>
      obtain rfl : j = nk := by have := AK.out; omega
      have hjl : ¬ (j : Int) < (j : Int) := by omega
      have hjld : decide ((j : Int) < (j : Int)) = false := decide_eq_false hjl
      obtain ⟨A10, hcut, hC10⟩ := Base.mid8 (A := some ⟨w.heap.size, 0, none⟩) (n := 768) (c := 768) (a := 128) (b := 448) (l := y) (J := 128) (K := 448) rfl rfl HY.out (by decide) (by decide) (by decide)
      rw [show 448 - 128 = 320 from rfl, show 768 - 128 = 640 from rfl] at hcut
      rw [show 448 - 128 = 320 from rfl] at hC10
      obtain ⟨sz, hsz⟩ : ∃ s, strOfNums ((y.take 448).drop 128) = s := ⟨_, rfl⟩
      have hzz : (sz.toList == sz.toList) = true := by simp
      have HC10 : Aside0 (∀ W : World, Sep w W [Dsk g xx wt, Row U8 5 (.slice (some ⟨w.heap.size, 0, none⟩) 768 768) y, Blk w3.heap.size 26 #[.int .i64 5, .int .i64 3, .int .u32 1]] → (convert 30 9 (.slice A10 320 640)).run Try.prog W = .ok (.string sz) W) := ⟨fun W hW => by rw [← hsz]; exact Str.strC (hC10 _ (by have h := hW.at2.rowC.2.2; rwa [HY.out] at h))⟩
      have HSZ := Aside0.mk hsz
      have HLG := Aside0.mk (rb_cut HY.out)
      have BD := Aside0.mk AS.out.tail.drew
      clear hsz hC10
      go_wp2_with fail
      by_cases hm0 : m1 = 0
      · subst hm0
        have HKE := Aside0.mk (HF.out.2.2.2.2 rfl)
        refine start_ (n := 23) (S := fun w' => w'.cell? ⟨w3.heap.size, 0, none⟩ = some (.int .i64 5) ∧ w'.cell? ⟨w3.heap.size, 1, none⟩ = some (.int .i64 3) ∧ w'.cell? ⟨w3.heap.size, 2, none⟩ = some (.int .u32 1) ∧ (convert 30 9 (.slice A10 320 640)).run Try.prog w' = .ok (.string sz) w') (ds := [20]) #[false, false, false, false, false, false, false, false, false, false, false, false, false, false, false, false, false, false, false, false, false, false, false] (by kernel_rfl) rfl rfl ⟨(BD.out.at3.cell 0).trans rfl, (BD.out.at3.cell 1).trans rfl, (BD.out.at3.cell 2).trans rfl, HC10.out _ BD.out⟩ (fun hHeld => ?_)
        refine pure_ (i := 0) (N := some 75) (v := ?_) (a' := ?_) #[true, false, false, false, false, false, false, false, false, false, false, false, false, false, false, false, false, false, false, false, false, false, false] rfl rfl (by kernel_rfl) (fun _ _ _ h => h) (Or.inl ⟨by rfl, ?_⟩) ?_ ?_
        rotate_left
        · intro w'
          go_simp
          with_reducible rfl
        rotate_left
        · simp only [Act.put, List.setIfInBounds_toArray, List.set_cons_zero, List.set_cons_succ, i64_w, i32_w]
          rfl
        refine pure_ (i := 4) (N := some 79) (v := ?_) (a' := ?_) #[true, false, false, false, true, false, false, false, false, false, false, false, false, false, false, false, false, false, false, false, false, false, false] rfl rfl (by kernel_rfl) (fun _ _ _ h => h) (Or.inl ⟨by rfl, ?_⟩) ?_ ?_
        rotate_left
        · intro w'
          go_simp
          with_reducible rfl
        rotate_left
        · simp only [Act.put, List.setIfInBounds_toArray, List.set_cons_zero, List.set_cons_succ, i64_w, i32_w]
          rfl
        refine pure_ (i := 5) (N := some 80) (v := ?_) (a' := ?_) #[true, false, false, false, true, true, false, false, false, false, false, false, false, false, false, false, false, false, false, false, false, false, false] rfl rfl (by kernel_rfl) (fun _ _ _ h => h) (Or.inl ⟨by rfl, ?_⟩) ?_ ?_
        rotate_left
        · intro w'
          go_simp
          with_reducible rfl
        rotate_left
        · simp only [Act.put, List.setIfInBounds_toArray, List.set_cons_zero, List.set_cons_succ, i64_w, i32_w]
          rfl
        refine take_ (i := 1) (N := some 76) (v := ?_) (a' := ?_) #[true, true, false, false, true, true, false, false, false, false, false, false, false, false, false, false, false, false, false, false, false, false, false] rfl rfl (by kernel_rfl) (fun _ _ _ h => h) (Or.inl ⟨by rfl, ?_⟩) hHeld ?_ ?_
        rotate_left
        · rintro w' ⟨s0, s1, s2, s3⟩
          go_simp
          with_reducible rfl
        rotate_left
        · simp only [Act.put, List.setIfInBounds_toArray, List.set_cons_zero, List.set_cons_succ, i64_w, i32_w]
          rfl
        refine take_ (i := 6) (N := some 81) (v := ?_) (a' := ?_) #[true, true, false, false, true, true, true, false, false, false, false, false, false, false, false, false, false, false, false, false, false, false, false] rfl rfl (by kernel_rfl) (fun _ _ _ h => h) (Or.inl ⟨by rfl, ?_⟩) hHeld ?_ ?_
        rotate_left
        · rintro w' ⟨s0, s1, s2, s3⟩
          go_simp
          with_reducible rfl
        rotate_left
        · simp only [Act.put, List.setIfInBounds_toArray, List.set_cons_zero, List.set_cons_succ, i64_w, i32_w]
          rfl
        refine one_ (i := 2) (N := some 77) #[true, true, true, false, true, true, true, false, false, false, false, false, false, false, false, false, false, false, false, false, false, false, false] rfl rfl (by kernel_rfl) (by decide) (fun K hK => ?_)
        refine goes_ Try.func64 (by kernel_rfl) rfl #[.pointer (some ⟨g, 0, none⟩), .agg #[.int .i64 5, .int .i64 3, .int .u32 1]] (by rfl) rfl rfl (by simp only [List.map_toArray, List.map_cons, List.map_nil]; rfl) ?_
        with_reducible refine (bytes_ (n := 12) BD.out HX.out HF.out.1 5 3 1).mono ?_
        rintro e w11 ⟨v11, rfl, hS11⟩
        refine ⟨_, rfl, ?_⟩
        rw [HF.out.2.2.2.1] at hS11
        obtain ⟨A11, c11, rfl⟩ := hS11.rowN (n := 320) HLG.out
        have hs11 := str_ hS11
        rw [HSZ.out] at hs11
        have B11 := Aside0.mk hS11.tail
        clear hS11
        refine hK.out _ _ ⟨(B11.out.at3.cell 0).trans rfl, (B11.out.at3.cell 1).trans rfl, (B11.out.at3.cell 2).trans rfl, HC10.out _ B11.out⟩ (fun hHeld => ?_)
        clear hK K
        refine norm_ (a' := ?_) ?_ ?_
        rotate_left
        · show Act.put _ (some 77) _ = _
          simp only [Act.put, List.setIfInBounds_toArray, List.set_cons_zero, List.set_cons_succ, i64_w, i32_w]
          rfl
        refine one_ (i := 3) (N := some 78) #[true, true, true, true, true, true, true, false, false, false, false, false, false, false, false, false, false, false, false, false, false, false, false] rfl rfl (by kernel_rfl) (by decide) (fun K hK => ?_)
        refine value_ (w1 := ?_) (v := ?_) (by rfl) rfl ?_ ?_
        rotate_left 2
        · go_simp
          constructor
          · rfl
          · rfl
        refine hK.out _ _ ⟨(B11.out.at3.cell 0).trans rfl, (B11.out.at3.cell 1).trans rfl, (B11.out.at3.cell 2).trans rfl, HC10.out _ B11.out⟩ (fun hHeld => ?_)
        clear hK K
        refine norm_ (a' := ?_) ?_ ?_
        rotate_left
        · show Act.put _ (some 78) _ = _
          simp only [Act.put, List.setIfInBounds_toArray, List.set_cons_zero, List.set_cons_succ, i64_w, i32_w]
          rfl
        refine pure_ (i := 7) (N := some 82) (v := ?_) (a' := ?_) #[true, true, true, true, true, true, true, true, false, false, false, false, false, false, false, false, false, false, false, false, false, false, false] rfl rfl (by kernel_rfl) (fun _ _ _ h => h) (Or.inl ⟨by rfl, ?_⟩) ?_ ?_
        rotate_left
        · intro w'
          go_simp
          with_reducible rfl
        rotate_left
        · simp only [Act.put, List.setIfInBounds_toArray, List.set_cons_zero, List.set_cons_succ, i64_w, i32_w]
          rfl
        refine pure_ (i := 8) (N := some 83) (v := ?_) (a' := ?_) #[true, true, true, true, true, true, true, true, true, false, false, false, false, false, false, false, false, false, false, false, false, false, false] rfl rfl (by kernel_rfl) (fun _ _ _ h => h) (Or.inl ⟨by rfl, ?_⟩) ?_ ?_
        rotate_left
        · intro w'
          go_simp
          with_reducible rfl
        rotate_left
        · simp only [Act.put, List.setIfInBounds_toArray, List.set_cons_zero, List.set_cons_succ, i64_w, i32_w]
          rfl
        refine pure_ (i := 9) (N := some 84) (v := ?_) (a' := ?_) #[true, true, true, true, true, true, true, true, true, true, false, false, false, false, false, false, false, false, false, false, false, false, false] rfl rfl (by kernel_rfl) (fun _ _ _ h => h) (Or.inl ⟨by rfl, ?_⟩) ?_ ?_
        rotate_left
        · intro w'
          go_simp
          with_reducible rfl
        rotate_left
        · simp only [Act.put, List.setIfInBounds_toArray, List.set_cons_zero, List.set_cons_succ, i64_w, i32_w]
          rfl
        refine pure_ (i := 10) (N := some 85) (v := ?_) (a' := ?_) #[true, true, true, true, true, true, true, true, true, true, true, false, false, false, false, false, false, false, false, false, false, false, false] rfl rfl (by kernel_rfl) (fun _ _ _ h => h) (Or.inl ⟨by rfl, ?_⟩) ?_ ?_
        rotate_left
        · intro w'
          go_simp
          with_reducible rfl
        rotate_left
        · simp only [Act.put, List.setIfInBounds_toArray, List.set_cons_zero, List.set_cons_succ, i64_w, i32_w]
          rfl
        refine pure_ (i := 11) (N := some 86) (v := ?_) (a' := ?_) #[true, true, true, true, true, true, true, true, true, true, true, true, false, false, false, false, false, false, false, false, false, false, false] rfl rfl (by kernel_rfl) (fun _ _ _ h => h) (Or.inl ⟨by rfl, ?_⟩) ?_ ?_
        rotate_left
        · intro w'
          go_simp
          with_reducible rfl
        rotate_left
        · simp only [Act.put, List.setIfInBounds_toArray, List.set_cons_zero, List.set_cons_succ, i64_w, i32_w]
          rfl
        refine pure_ (i := 12) (N := some 87) (v := ?_) (a' := ?_) #[true, true, true, true, true, true, true, true, true, true, true, true, true, false, false, false, false, false, false, false, false, false, false] rfl rfl (by kernel_rfl) (fun _ _ _ h => h) (Or.inl ⟨by rfl, ?_⟩) ?_ ?_
        rotate_left
        · intro w'
          go_simp
          with_reducible rfl
        rotate_left
        · simp only [Act.put, List.setIfInBounds_toArray, List.set_cons_zero, List.set_cons_succ, i64_w, i32_w]
          rfl
        refine pure_ (i := 13) (N := some 88) (v := ?_) (a' := ?_) #[true, true, true, true, true, true, true, true, true, true, true, true, true, true, false, false, false, false, false, false, false, false, false] rfl rfl (by kernel_rfl) (fun _ _ _ h => h) (Or.inl ⟨by rfl, ?_⟩) ?_ ?_
        rotate_left
        · intro w'
          go_simp
          with_reducible rfl
        rotate_left
        · simp only [Act.put, List.setIfInBounds_toArray, List.set_cons_zero, List.set_cons_succ, i64_w, i32_w]
          rfl
        refine one_ (i := 14) (N := some 89) #[true, true, true, true, true, true, true, true, true, true, true, true, true, true, true, false, false, false, false, false, false, false, false] rfl rfl (by kernel_rfl) (by decide) (fun K hK => ?_)
        refine goes_ Try.func49 (by kernel_rfl) rfl #[.pointer (some ⟨g, 0, none⟩)] (by rfl) rfl rfl (by simp only [List.map_toArray, List.map_cons, List.map_nil]; rfl) ?_
        with_reducible refine (waits_ B11.out).mono ?_
        rintro e w12 ⟨v12, rfl, hS12⟩
        refine ⟨_, rfl, ?_⟩
        rw [HKE.out] at hS12
        obtain ⟨A12, c12, rfl⟩ := hS12.rowN (n := 0) rfl
        have B12 := Aside0.mk hS12.tail
        clear hS12
        refine hK.out _ _ ⟨(B12.out.at3.cell 0).trans rfl, (B12.out.at3.cell 1).trans rfl, (B12.out.at3.cell 2).trans rfl, HC10.out _ B12.out⟩ (fun hHeld => ?_)
        clear hK K
        refine norm_ (a' := ?_) ?_ ?_
        rotate_left
        · show Act.put _ (some 89) _ = _
          simp only [Act.put, List.setIfInBounds_toArray, List.set_cons_zero, List.set_cons_succ, i64_w, i32_w]
          rfl
        refine pure_ (i := 15) (N := some 90) (v := ?_) (a' := ?_) #[true, true, true, true, true, true, true, true, true, true, true, true, true, true, true, true, false, false, false, false, false, false, false] rfl rfl (by kernel_rfl) (fun _ _ _ h => h) (Or.inl ⟨by rfl, ?_⟩) ?_ ?_
        rotate_left
        · intro w'
          go_simp
          with_reducible rfl
        rotate_left
        · simp only [Act.put, List.setIfInBounds_toArray, List.set_cons_zero, List.set_cons_succ, i64_w, i32_w]
          rfl
        refine pure_ (i := 16) (N := some 91) (v := ?_) (a' := ?_) #[true, true, true, true, true, true, true, true, true, true, true, true, true, true, true, true, true, false, false, false, false, false, false] rfl rfl (by kernel_rfl) (fun _ _ _ h => h) (Or.inl ⟨by rfl, ?_⟩) ?_ ?_
        rotate_left
        · intro w'
          go_simp
          with_reducible rfl
        rotate_left
        · simp only [Act.put, List.setIfInBounds_toArray, List.set_cons_zero, List.set_cons_succ, i64_w, i32_w]
          rfl
        refine pure_ (i := 17) (N := some 92) (v := ?_) (a' := ?_) #[true, true, true, true, true, true, true, true, true, true, true, true, true, true, true, true, true, true, false, false, false, false, false] rfl rfl (by kernel_rfl) (fun _ _ _ h => h) (Or.inl ⟨by rfl, ?_⟩) ?_ ?_
        rotate_left
        · intro w'
          go_simp
          with_reducible rfl
        rotate_left
        · simp only [Act.put, List.setIfInBounds_toArray, List.set_cons_zero, List.set_cons_succ, i64_w, i32_w]
          rfl
        refine pure_ (i := 18) (N := some 93) (v := ?_) (a' := ?_) #[true, true, true, true, true, true, true, true, true, true, true, true, true, true, true, true, true, true, true, false, false, false, false] rfl rfl (by kernel_rfl) (fun _ _ _ h => h) (Or.inl ⟨by rfl, ?_⟩) ?_ ?_
        rotate_left
        · intro w'
          go_simp
          with_reducible rfl
        rotate_left
        · simp only [Act.put, List.setIfInBounds_toArray, List.set_cons_zero, List.set_cons_succ, i64_w, i32_w]
          rfl
        refine pure_ (i := 19) (N := some 94) (v := ?_) (a' := ?_) #[true, true, true, true, true, true, true, true, true, true, true, true, true, true, true, true, true, true, true, true, false, false, false] rfl rfl (by kernel_rfl) (fun _ _ _ h => h) (Or.inl ⟨by rfl, ?_⟩) ?_ ?_
        rotate_left
        · intro w'
          go_simp
          with_reducible rfl
        rotate_left
        · simp only [Act.put, List.setIfInBounds_toArray, List.set_cons_zero, List.set_cons_succ, i64_w, i32_w]
          rfl
        refine last_ (i := 20) (N := some 95) #[true, true, true, true, true, true, true, true, true, true, true, true, true, true, true, true, true, true, true, true, true, false, false] rfl rfl (by kernel_rfl) (by decide) (fun K hK => ?_)
        refine goes_ Try.func62 (by kernel_rfl) rfl #[] (by rfl) rfl rfl (by simp) ?_
        with_reducible refine (known_ _).mono ?_
        rintro e w13 ⟨rfl, hb13⟩
        refine ⟨_, rfl, ?_⟩
        have B13 := Aside0.mk (B12.out.below hb13)
        clear hb13
        refine hK.out _ _ ?_
        clear hK K
        refine norm_ (a' := ?_) ?_ ?_
        rotate_left
        · show Act.put _ (some 95) _ = _
          simp only [Act.put, List.setIfInBounds_toArray, List.set_cons_zero, List.set_cons_succ, i64_w, i32_w]
          rfl
        refine pure_ (i := 21) (N := some 96) (v := ?_) (a' := ?_) #[true, true, true, true, true, true, true, true, true, true, true, true, true, true, true, true, true, true, true, true, true, true, false] rfl rfl (by kernel_rfl) (fun _ _ _ h => h) (Or.inl ⟨by rfl, ?_⟩) ?_ ?_
        rotate_left
        · intro w'
          go_simp
          with_reducible rfl
        rotate_left
        · simp only [Act.put, List.setIfInBounds_toArray, List.set_cons_zero, List.set_cons_succ, i64_w, i32_w]
          rfl
        refine pure_ (i := 22) (N := some 6) (v := ?_) (a' := ?_) #[true, true, true, true, true, true, true, true, true, true, true, true, true, true, true, true, true, true, true, true, true, true, true] rfl rfl (by kernel_rfl) (fun _ _ _ h => h) (Or.inl ⟨by rfl, ?_⟩) ?_ ?_
        rotate_left
        · intro w'
          go_simp
          with_reducible rfl
        rotate_left
        · simp only [Act.put, List.setIfInBounds_toArray, List.set_cons_zero, List.set_cons_succ, i64_w, i32_w]
          rfl
        refine done_ (by kernel_rfl) ?_
        go_wp2_with fail
        go_ret
        exact ⟨by first | rfl | (simp; done), B13.out.toBelow⟩
      · have hml : (0 : Int) < (m1 : Int) := by omega
        have hmld : decide ((0 : Int) < (m1 : Int)) = true := decide_eq_true hml
        have hmp : 0 < m1 := by omega
        have hmn : decide (0 < m1) = true := decide_eq_true hmp
        refine start_ (n := 23) (S := fun w' => w'.cell? ⟨w3.heap.size, 0, none⟩ = some (.int .i64 5) ∧ w'.cell? ⟨w3.heap.size, 1, none⟩ = some (.int .i64 3) ∧ w'.cell? ⟨w3.heap.size, 2, none⟩ = some (.int .u32 1) ∧ (convert 30 9 (.slice A10 320 640)).run Try.prog w' = .ok (.string sz) w') (ds := [20]) #[false, false, false, false, false, false, false, false, false, false, false, false, false, false, false, false, false, false, false, false, false, false, false] (by kernel_rfl) rfl rfl ⟨(BD.out.at3.cell 0).trans rfl, (BD.out.at3.cell 1).trans rfl, (BD.out.at3.cell 2).trans rfl, HC10.out _ BD.out⟩ (fun hHeld => ?_)
        refine pure_ (i := 0) (N := some 75) (v := ?_) (a' := ?_) #[true, false, false, false, false, false, false, false, false, false, false, false, false, false, false, false, false, false, false, false, false, false, false] rfl rfl (by kernel_rfl) (fun _ _ _ h => h) (Or.inl ⟨by rfl, ?_⟩) ?_ ?_
        rotate_left
        · intro w'
          go_simp
          with_reducible rfl
        rotate_left
        · simp only [Act.put, List.setIfInBounds_toArray, List.set_cons_zero, List.set_cons_succ, i64_w, i32_w]
          rfl
        refine pure_ (i := 4) (N := some 79) (v := ?_) (a' := ?_) #[true, false, false, false, true, false, false, false, false, false, false, false, false, false, false, false, false, false, false, false, false, false, false] rfl rfl (by kernel_rfl) (fun _ _ _ h => h) (Or.inl ⟨by rfl, ?_⟩) ?_ ?_
        rotate_left
        · intro w'
          go_simp
          with_reducible rfl
        rotate_left
        · simp only [Act.put, List.setIfInBounds_toArray, List.set_cons_zero, List.set_cons_succ, i64_w, i32_w]
          rfl
        refine pure_ (i := 5) (N := some 80) (v := ?_) (a' := ?_) #[true, false, false, false, true, true, false, false, false, false, false, false, false, false, false, false, false, false, false, false, false, false, false] rfl rfl (by kernel_rfl) (fun _ _ _ h => h) (Or.inl ⟨by rfl, ?_⟩) ?_ ?_
        rotate_left
        · intro w'
          go_simp
          with_reducible rfl
        rotate_left
        · simp only [Act.put, List.setIfInBounds_toArray, List.set_cons_zero, List.set_cons_succ, i64_w, i32_w]
          rfl
        refine take_ (i := 1) (N := some 76) (v := ?_) (a' := ?_) #[true, true, false, false, true, true, false, false, false, false, false, false, false, false, false, false, false, false, false, false, false, false, false] rfl rfl (by kernel_rfl) (fun _ _ _ h => h) (Or.inl ⟨by rfl, ?_⟩) hHeld ?_ ?_
        rotate_left
        · rintro w' ⟨s0, s1, s2, s3⟩
          go_simp
          with_reducible rfl
        rotate_left
        · simp only [Act.put, List.setIfInBounds_toArray, List.set_cons_zero, List.set_cons_succ, i64_w, i32_w]
          rfl
        refine take_ (i := 6) (N := some 81) (v := ?_) (a' := ?_) #[true, true, false, false, true, true, true, false, false, false, false, false, false, false, false, false, false, false, false, false, false, false, false] rfl rfl (by kernel_rfl) (fun _ _ _ h => h) (Or.inl ⟨by rfl, ?_⟩) hHeld ?_ ?_
        rotate_left
        · rintro w' ⟨s0, s1, s2, s3⟩
          go_simp
          with_reducible rfl
        rotate_left
        · simp only [Act.put, List.setIfInBounds_toArray, List.set_cons_zero, List.set_cons_succ, i64_w, i32_w]
          rfl
        refine one_ (i := 2) (N := some 77) #[true, true, true, false, true, true, true, false, false, false, false, false, false, false, false, false, false, false, false, false, false, false, false] rfl rfl (by kernel_rfl) (by decide) (fun K hK => ?_)
        refine goes_ Try.func64 (by kernel_rfl) rfl #[.pointer (some ⟨g, 0, none⟩), .agg #[.int .i64 5, .int .i64 3, .int .u32 1]] (by rfl) rfl rfl (by simp only [List.map_toArray, List.map_cons, List.map_nil]; rfl) ?_
        with_reducible refine (bytes_ (n := 12) BD.out HX.out HF.out.1 5 3 1).mono ?_
        rintro e w11 ⟨v11, rfl, hS11⟩
        refine ⟨_, rfl, ?_⟩
        rw [HF.out.2.2.2.1] at hS11
        obtain ⟨A11, c11, rfl⟩ := hS11.rowN (n := 320) HLG.out
        have hs11 := str_ hS11
        rw [HSZ.out] at hs11
        have B11 := Aside0.mk hS11.tail
        clear hS11
        refine hK.out _ _ ⟨(B11.out.at3.cell 0).trans rfl, (B11.out.at3.cell 1).trans rfl, (B11.out.at3.cell 2).trans rfl, HC10.out _ B11.out⟩ (fun hHeld => ?_)
        clear hK K
        refine norm_ (a' := ?_) ?_ ?_
        rotate_left
        · show Act.put _ (some 77) _ = _
          simp only [Act.put, List.setIfInBounds_toArray, List.set_cons_zero, List.set_cons_succ, i64_w, i32_w]
          rfl
        refine one_ (i := 3) (N := some 78) #[true, true, true, true, true, true, true, false, false, false, false, false, false, false, false, false, false, false, false, false, false, false, false] rfl rfl (by kernel_rfl) (by decide) (fun K hK => ?_)
        refine value_ (w1 := ?_) (v := ?_) (by rfl) rfl ?_ ?_
        rotate_left 2
        · go_simp
          constructor
          · rfl
          · rfl
        refine hK.out _ _ ⟨(B11.out.at3.cell 0).trans rfl, (B11.out.at3.cell 1).trans rfl, (B11.out.at3.cell 2).trans rfl, HC10.out _ B11.out⟩ (fun hHeld => ?_)
        clear hK K
        refine norm_ (a' := ?_) ?_ ?_
        rotate_left
        · show Act.put _ (some 78) _ = _
          simp only [Act.put, List.setIfInBounds_toArray, List.set_cons_zero, List.set_cons_succ, i64_w, i32_w]
          rfl
        refine pure_ (i := 7) (N := some 82) (v := ?_) (a' := ?_) #[true, true, true, true, true, true, true, true, false, false, false, false, false, false, false, false, false, false, false, false, false, false, false] rfl rfl (by kernel_rfl) (fun _ _ _ h => h) (Or.inl ⟨by rfl, ?_⟩) ?_ ?_
        rotate_left
        · intro w'
          go_simp
          with_reducible rfl
        rotate_left
        · simp only [Act.put, List.setIfInBounds_toArray, List.set_cons_zero, List.set_cons_succ, i64_w, i32_w]
          rfl
        refine pure_ (i := 8) (N := some 83) (v := ?_) (a' := ?_) #[true, true, true, true, true, true, true, true, true, false, false, false, false, false, false, false, false, false, false, false, false, false, false] rfl rfl (by kernel_rfl) (fun _ _ _ h => h) (Or.inl ⟨by rfl, ?_⟩) ?_ ?_
        rotate_left
        · intro w'
          go_simp
          with_reducible rfl
        rotate_left
        · simp only [Act.put, List.setIfInBounds_toArray, List.set_cons_zero, List.set_cons_succ, i64_w, i32_w]
          rfl
        refine pure_ (i := 9) (N := some 84) (v := ?_) (a' := ?_) #[true, true, true, true, true, true, true, true, true, true, false, false, false, false, false, false, false, false, false, false, false, false, false] rfl rfl (by kernel_rfl) (fun _ _ _ h => h) (Or.inl ⟨by rfl, ?_⟩) ?_ ?_
        rotate_left
        · intro w'
          go_simp
          with_reducible rfl
        rotate_left
        · simp only [Act.put, List.setIfInBounds_toArray, List.set_cons_zero, List.set_cons_succ, i64_w, i32_w]
          rfl
        refine pure_ (i := 10) (N := some 85) (v := ?_) (a' := ?_) #[true, true, true, true, true, true, true, true, true, true, true, false, false, false, false, false, false, false, false, false, false, false, false] rfl rfl (by kernel_rfl) (fun _ _ _ h => h) (Or.inl ⟨by rfl, ?_⟩) ?_ ?_
        rotate_left
        · intro w'
          go_simp
          with_reducible rfl
        rotate_left
        · simp only [Act.put, List.setIfInBounds_toArray, List.set_cons_zero, List.set_cons_succ, i64_w, i32_w]
          rfl
        refine pure_ (i := 11) (N := some 86) (v := ?_) (a' := ?_) #[true, true, true, true, true, true, true, true, true, true, true, true, false, false, false, false, false, false, false, false, false, false, false] rfl rfl (by kernel_rfl) (fun _ _ _ h => h) (Or.inl ⟨by rfl, ?_⟩) ?_ ?_
        rotate_left
        · intro w'
          go_simp
          with_reducible rfl
        rotate_left
        · simp only [Act.put, List.setIfInBounds_toArray, List.set_cons_zero, List.set_cons_succ, i64_w, i32_w]
          rfl
        refine pure_ (i := 12) (N := some 87) (v := ?_) (a' := ?_) #[true, true, true, true, true, true, true, true, true, true, true, true, true, false, false, false, false, false, false, false, false, false, false] rfl rfl (by kernel_rfl) (fun _ _ _ h => h) (Or.inl ⟨by rfl, ?_⟩) ?_ ?_
        rotate_left
        · intro w'
          go_simp
          with_reducible rfl
        rotate_left
        · simp only [Act.put, List.setIfInBounds_toArray, List.set_cons_zero, List.set_cons_succ, i64_w, i32_w]
          rfl
        refine pure_ (i := 13) (N := some 88) (v := undef) (a' := ?_) #[true, true, true, true, true, true, true, true, true, true, true, true, true, true, false, false, false, false, false, false, false, false, false] rfl rfl (by kernel_rfl) (fun _ _ _ h => h) (Or.inr ⟨by rfl, rfl⟩) ?_ ?_
        rotate_left
        · simp only [Act.put, List.setIfInBounds_toArray, List.set_cons_zero, List.set_cons_succ, i64_w, i32_w]
          rfl
        refine pure_ (i := 14) (N := some 89) (v := undef) (a' := ?_) #[true, true, true, true, true, true, true, true, true, true, true, true, true, true, true, false, false, false, false, false, false, false, false] rfl rfl (by kernel_rfl) (fun _ _ _ h => h) (Or.inr ⟨by rfl, rfl⟩) ?_ ?_
        rotate_left
        · simp only [Act.put, List.setIfInBounds_toArray, List.set_cons_zero, List.set_cons_succ, i64_w, i32_w]
          rfl
        refine pure_ (i := 15) (N := some 90) (v := undef) (a' := ?_) #[true, true, true, true, true, true, true, true, true, true, true, true, true, true, true, true, false, false, false, false, false, false, false] rfl rfl (by kernel_rfl) (fun _ _ _ h => h) (Or.inr ⟨by rfl, rfl⟩) ?_ ?_
        rotate_left
        · simp only [Act.put, List.setIfInBounds_toArray, List.set_cons_zero, List.set_cons_succ, i64_w, i32_w]
          rfl
        refine pure_ (i := 16) (N := some 91) (v := undef) (a' := ?_) #[true, true, true, true, true, true, true, true, true, true, true, true, true, true, true, true, true, false, false, false, false, false, false] rfl rfl (by kernel_rfl) (fun _ _ _ h => h) (Or.inr ⟨by rfl, rfl⟩) ?_ ?_
        rotate_left
        · simp only [Act.put, List.setIfInBounds_toArray, List.set_cons_zero, List.set_cons_succ, i64_w, i32_w]
          rfl
        refine pure_ (i := 17) (N := some 92) (v := ?_) (a' := ?_) #[true, true, true, true, true, true, true, true, true, true, true, true, true, true, true, true, true, true, false, false, false, false, false] rfl rfl (by kernel_rfl) (fun _ _ _ h => h) (Or.inl ⟨by rfl, ?_⟩) ?_ ?_
        rotate_left
        · intro w'
          go_simp
          with_reducible rfl
        rotate_left
        · simp only [Act.put, List.setIfInBounds_toArray, List.set_cons_zero, List.set_cons_succ, i64_w, i32_w]
          rfl
        refine pure_ (i := 18) (N := some 93) (v := ?_) (a' := ?_) #[true, true, true, true, true, true, true, true, true, true, true, true, true, true, true, true, true, true, true, false, false, false, false] rfl rfl (by kernel_rfl) (fun _ _ _ h => h) (Or.inl ⟨by rfl, ?_⟩) ?_ ?_
        rotate_left
        · intro w'
          go_simp
          with_reducible rfl
        rotate_left
        · simp only [Act.put, List.setIfInBounds_toArray, List.set_cons_zero, List.set_cons_succ, i64_w, i32_w]
          rfl
        refine pure_ (i := 19) (N := some 94) (v := ?_) (a' := ?_) #[true, true, true, true, true, true, true, true, true, true, true, true, true, true, true, true, true, true, true, true, false, false, false] rfl rfl (by kernel_rfl) (fun _ _ _ h => h) (Or.inl ⟨by rfl, ?_⟩) ?_ ?_
        rotate_left
        · intro w'
          go_simp
          with_reducible rfl
        rotate_left
        · simp only [Act.put, List.setIfInBounds_toArray, List.set_cons_zero, List.set_cons_succ, i64_w, i32_w]
          rfl
        refine last_ (i := 20) (N := some 95) #[true, true, true, true, true, true, true, true, true, true, true, true, true, true, true, true, true, true, true, true, true, false, false] rfl rfl (by kernel_rfl) (by decide) (fun K hK => ?_)
        refine goes_ Try.func62 (by kernel_rfl) rfl #[] (by rfl) rfl rfl (by simp) ?_
        with_reducible refine (known_ _).mono ?_
        rintro e w13 ⟨rfl, hb13⟩
        refine ⟨_, rfl, ?_⟩
        have B13 := Aside0.mk (B11.out.below hb13)
        clear hb13
        refine hK.out _ _ ?_
        clear hK K
        refine norm_ (a' := ?_) ?_ ?_
        rotate_left
        · show Act.put _ (some 95) _ = _
          simp only [Act.put, List.setIfInBounds_toArray, List.set_cons_zero, List.set_cons_succ, i64_w, i32_w]
          rfl
        refine pure_ (i := 21) (N := some 96) (v := ?_) (a' := ?_) #[true, true, true, true, true, true, true, true, true, true, true, true, true, true, true, true, true, true, true, true, true, true, false] rfl rfl (by kernel_rfl) (fun _ _ _ h => h) (Or.inl ⟨by rfl, ?_⟩) ?_ ?_
        rotate_left
        · intro w'
          go_simp
          with_reducible rfl
        rotate_left
        · simp only [Act.put, List.setIfInBounds_toArray, List.set_cons_zero, List.set_cons_succ, i64_w, i32_w]
          rfl
        refine pure_ (i := 22) (N := some 6) (v := ?_) (a' := ?_) #[true, true, true, true, true, true, true, true, true, true, true, true, true, true, true, true, true, true, true, true, true, true, true] rfl rfl (by kernel_rfl) (fun _ _ _ h => h) (Or.inl ⟨by rfl, ?_⟩) ?_ ?_
        rotate_left
        · intro w'
          go_simp
          with_reducible rfl
        rotate_left
        · simp only [Act.put, List.setIfInBounds_toArray, List.set_cons_zero, List.set_cons_succ, i64_w, i32_w]
          rfl
        refine done_ (by kernel_rfl) ?_
        go_wp2_with fail
        go_ret
        exact ⟨by first | rfl | (simp; done), B13.out.toBelow⟩
end Go.Proofs.Ytjngnigelkgekaa.Redo
