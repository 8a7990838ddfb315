/- Chapter 17's laws: pages are the same. -/
import Derived.Test.YtjngnigelkgekaaHome2
import Derived.Test.YtjngnigelkgekaaKA
namespace Go.Proofs.Ytjngnigelkgekaa.Home
set_option linter.unusedVariables false
set_option linter.unusedSimpArgs false
open Go.RowKit Go.Proofs.YtjngnigelkgekaaW.PrintWords Go.Proofs.YtjngnigelkgekaaW.PrintLast Go.Proofs.YtjngnigelkgekaaW.PrintMore Go.Proofs.Ytjngnigelkgekaa.Kit Go.Proofs.Ytjngnigelkgekaa.Plain Go.Proofs.Ytjngnigelkgekaa.Disk Go.Proofs.Ytjngnigelkgekaa.Root
theorem may_eq (n : Nat) (a b c i : Int) : mayF n a b c i = (decide (0 ≤ homeF a b i ∧ homeF a b i < n) && rightR a b c n && decide (0 ≤ homeF a b i)) := by
  cases hr : rightR a b c n with
  | false => unfold mayF; rw [hr]; simp
  | true =>
    by_cases hi : 0 ≤ i ∧ i < b
    · have hm : mayF n a b c i = true := by unfold mayF; rw [hr, decide_eq_true hi.1, decide_eq_true hi.2]; rfl
      have hA := home_at hm
      rw [hm, hA.1, decide_eq_true (show 0 ≤ ((atF a i : Nat) : Int) ∧ ((atF a i : Nat) : Int) < n by omega), decide_eq_true (show 0 ≤ ((atF a i : Nat) : Int) by omega)]
      rfl
    · have hm : mayF n a b c i = false := by
        unfold mayF
        by_cases h0 : 0 ≤ i
        · rw [decide_eq_false (show ¬ i < b from fun h => hi ⟨h0, h⟩)]; simp
        · rw [decide_eq_false h0]; simp
      have hk : homeF a b i = -1 := by unfold homeF; exact if_pos (by omega)
      rw [hm, hk]
      rfl
theorem K2_at {W : World} {A : Option Addr} {n : Nat} {l : List (List Int)} (h : K2.C W A n l) {j : Nat} (hj : j < n) : ∃ (hx : j < l.length) (ad : Addr) (B : Option Addr) (c : Nat), A = some ad ∧ W.cell? (ad.add j) = some (.slice B (l[j]).length c) ∧ U8.C W B (l[j]).length l[j] := by
  obtain ⟨hx, ad, cs, he, hk, hc0, _⟩ := elem_ h hj
  obtain ⟨B, c, hcs, hmc, hC⟩ := hk
  subst hcs
  have := hc0 _ rfl
  rw [show j * K2.sz = j from Nat.mul_one j] at this
  exact ⟨hx, ad, B, c, he, this, hC⟩
set_option maxHeartbeats 3200000 in
set_option maxRecDepth 100000 in
theorem same_ {A0 A3 : Option Addr} {m0 c0 m3 c3 n : Nat} {l xs : List Int} {a b c i : Int} {w : World} (h0 : U8.C w A0 m0 l) (hc0 : m0 ≤ c0) (hm0 : m0 = 64 * n) (h1 : 1 ≤ n) (h2 : n ≤ 160) (h3 : U8.C w A3 m3 xs) (hc3 : m3 ≤ c3) :
    Calls Try.prog 58 #[.slice A0 m0 c0, .agg #[.int .i64 a, .int .i64 b, .int .u32 c], .int .i64 i, .slice A3 m3 c3] w fun e w' => e = .returned (.bool true) ∧ Below w.heap.size w w' := by
  have HL : Aside0 (l.length = 64 * n) := ⟨h0.1.trans hm0⟩
  have H0 := Aside0.mk (And.intro h0 (And.intro hc0 (And.intro hm0 (And.intro h1 h2))))
  have H3 := Aside0.mk (And.intro h3 hc3)
  have HN3 := Aside0.mk h3.1
  have hm3 : m3 ≤ 9223372036854775807 := h3.2.1
  have A1 := Aside0.mk ((Sep.start w).newBlk 26 #[.int .i64 a, .int .i64 b, .int .u32 c])
  clear h0 hc0 hm0 h1 h2 h3 hc3
  go_enter Try.func58, Try.ntmps58
  go_wp2_with fail
  refine (pair_ (Kd.C_below H0.out.1 A1.out.toBelow) H0.out.2.1 H0.out.2.2.1 H0.out.2.2.2.1 H0.out.2.2.2.2).mono ?_
  rintro e w2 ⟨g, gr, rfl, hS2⟩
  have A2 : Aside0 (Sep w w2 [Dsk g l (fun _ => none), RT gr n l (fun _ => none) 0, Blk w.heap.size 26 #[.int .i64 a, .int .i64 b, .int .u32 c]]) := ⟨A1.out.lift hS2⟩
  have A2d := Aside0.mk A2.out.drew
  obtain ⟨rt, hrt⟩ : ∃ rt, rightR a b c n = rt := ⟨_, rfl⟩
  have HRT := Aside0.mk hrt
  clear hS2 hrt
  go_wp2_with fail
  refine start_ (n := 5) (S := fun w' => w'.cell? ⟨w.heap.size, 0, none⟩ = some (.int .i64 a) ∧ w'.cell? ⟨w.heap.size, 1, none⟩ = some (.int .i64 b) ∧ w'.cell? ⟨w.heap.size, 2, none⟩ = some (.int .u32 c)) (ds := [3]) #[false, false, false, false, false] (by kernel_rfl) rfl rfl ⟨(A2d.out.at3.cell 0).trans rfl, (A2d.out.at3.cell 1).trans rfl, (A2d.out.at3.cell 2).trans rfl⟩ (fun hHeld => ?_)
  refine pure_ (i := 1) (N := some 39) (v := ?_) (a' := ?_) #[false, true, false, false, false] rfl rfl (by kernel_rfl) (fun _ _ _ h => h) (Or.inl ⟨by rfl, ?_⟩) ?_ ?_
  rotate_left
  · intro w'
    go_simp
    with_reducible rfl
  rotate_left
  · simp only [Act.put, List.setIfInBounds_toArray, List.set_cons_zero, List.set_cons_succ, i64_w, i32_w]
    rfl
  refine take_ (i := 0) (N := some 38) (v := ?_) (a' := ?_) #[true, true, false, false, false] rfl rfl (by kernel_rfl) (fun _ _ _ h => h) (Or.inl ⟨by rfl, ?_⟩) hHeld ?_ ?_
  rotate_left
  · rintro w' ⟨s0, s1, s2⟩
    go_simp
    with_reducible rfl
  rotate_left
  · simp only [Act.put, List.setIfInBounds_toArray, List.set_cons_zero, List.set_cons_succ, i64_w, i32_w]
    rfl
  refine one_ (i := 2) (N := some 40) #[true, true, true, false, false] rfl rfl (by kernel_rfl) (by decide) (fun K hK => ?_)
  refine goes_ Try.func103 (by kernel_rfl) rfl #[.pointer (some ⟨gr, 0, none⟩)] (by rfl) rfl rfl (by simp only [List.map_toArray, List.map_cons, List.map_nil]; rfl) ?_
  with_reducible refine (Ref.len_ A2d.out.at2).mono ?_
  rintro e w3 ⟨rfl, rfl⟩
  refine ⟨_, rfl, ?_⟩
  refine hK.out _ _ ⟨(A2d.out.at3.cell 0).trans rfl, (A2d.out.at3.cell 1).trans rfl, (A2d.out.at3.cell 2).trans rfl⟩ (fun hHeld => ?_)
  clear hK K
  refine norm_ (a' := ?_) ?_ ?_
  rotate_left
  · show Act.put _ (some 40) _ = _
    simp only [Act.put, List.setIfInBounds_toArray, List.set_cons_zero, List.set_cons_succ, i64_w, i32_w]
    rfl
  refine last_ (i := 3) (N := some 41) #[true, true, true, true, false] rfl rfl (by kernel_rfl) (by decide) (fun K hK => ?_)
  refine goes_ Try.func81 (by kernel_rfl) rfl #[.agg #[.int .i64 a, .int .i64 b, .int .u32 c], .int .i64 (n : Int)] (by rfl) rfl rfl (by simp only [List.map_toArray, List.map_cons, List.map_nil]; rfl) ?_
  with_reducible refine (rright_ a b c (n : Int) _).mono ?_
  rintro e w4 ⟨rfl, hb4⟩
  refine ⟨_, rfl, ?_⟩
  rw [HRT.out]
  have A4 := Aside0.mk (A2d.out.below hb4)
  clear hb4
  refine hK.out _ _ ?_
  clear hK K
  refine norm_ (a' := ?_) ?_ ?_
  rotate_left
  · show Act.put _ (some 41) _ = _
    simp only [Act.put, List.setIfInBounds_toArray, List.set_cons_zero, List.set_cons_succ, i64_w, i32_w]
    rfl
  refine pure_ (i := 4) (N := some 11) (v := ?_) (a' := ?_) #[true, true, true, true, true] rfl rfl (by kernel_rfl) (fun _ _ _ h => h) (Or.inl ⟨by rfl, ?_⟩) ?_ ?_
  rotate_left
  · intro w'
    go_simp
    with_reducible rfl
  rotate_left
  · simp only [Act.put, List.setIfInBounds_toArray, List.set_cons_zero, List.set_cons_succ, i64_w, i32_w]
    rfl
  refine done_ (by kernel_rfl) ?_
  have z0 := (A4.out.at3.cell 0).trans rfl
  have z1 := (A4.out.at3.cell 1).trans rfl
  have z2 := (A4.out.at3.cell 2).trans rfl
  go_wp2_with fail
  refine (rhome_ a b c i _).mono ?_
  rintro e w5 ⟨rfl, hb5⟩
  have A5 := Aside0.mk (A4.out.below hb5)
  obtain ⟨k, hk⟩ : ∃ k, homeF a b i = k := ⟨_, rfl⟩
  have HK := Aside0.mk hk
  have HME := Aside0.mk (may_eq n a b c i)
  rw [hk]
  clear hb5 hk z0 z1 z2
  go_wp2_with fail
  refine (rdreadI_ A5.out.at2 HL.out Ref.none_len k).mono ?_
  rintro e w6 ⟨v6, rfl, hS6⟩
  obtain ⟨A6, c6, rfl⟩ := hS6.rowV
  have A7 := Aside0.mk hS6.at3
  obtain ⟨in0, hin0⟩ : ∃ in0, decide (0 ≤ k ∧ k < (n : Int)) = in0 := ⟨_, rfl⟩
  have HI := Aside0.mk hin0
  rw [hin0]
  clear hS6 hin0
  cases in0 with
  | false =>
    have HM : Aside0 (mayF n a b c i = false) := ⟨by rw [HME.out, HK.out, HI.out]; rfl⟩
    have z0 := (A7.out.at4.cell 0).trans rfl
    have z1 := (A7.out.at4.cell 1).trans rfl
    have z2 := (A7.out.at4.cell 2).trans rfl
    go_wp2_with fail
    refine (page_ A7.out HL.out a b c i).mono ?_
    rintro e w8 ⟨v8, rfl, hS8⟩
    rw [HM.out]
    obtain ⟨A8, c8, rfl⟩ := hS8.rowV
    have C8 := Aside0.mk hS8
    clear hS8 z0 z1 z2
    have HPP : Aside0 (putP n (fun _ => none) a b c i xs = (fun _ => none)) := ⟨by unfold putP; rw [HM.out]; rfl⟩
    have HW := Aside0.mk Ref.none_len
    have z0 := (C8.out.at5.cell 0).trans rfl
    have z1 := (C8.out.at5.cell 1).trans rfl
    have z2 := (C8.out.at5.cell 2).trans rfl
    go_wp2_with fail
    refine (put_ (x := xs) C8.out.at2 HL.out H0.out.2.2.2.2 a b c i (fun W' hW => Kd.C_below H3.out.1 hW.toBelow) H3.out.2).mono ?_
    rintro e w10 ⟨rfl, hS10⟩
    rw [show putP n (fun _ => none) a b c i xs = (fun _ => none) from HPP.out] at hS10
    rw [HM.out, Bool.false_and]
    have C10 := Aside0.mk hS10.drop2.drop2
    clear hS10 z0 z1 z2
    go_wp2_with fail
    refine (Ref.alike_ (n := n) C10.out HL.out).mono ?_
    rintro e w12 ⟨rfl, hS12⟩
    have C12 := Aside0.mk hS12.drew
    clear hS12
    go_wp2_with fail
    refine start_ (n := 8) (S := fun w' => w'.cell? ⟨w.heap.size, 0, none⟩ = some (.int .i64 a) ∧ w'.cell? ⟨w.heap.size, 1, none⟩ = some (.int .i64 b) ∧ w'.cell? ⟨w.heap.size, 2, none⟩ = some (.int .u32 c)) (ds := [5]) #[false, false, false, false, false, false, false, false] (by kernel_rfl) rfl rfl ⟨(C12.out.at3.cell 0).trans rfl, (C12.out.at3.cell 1).trans rfl, (C12.out.at3.cell 2).trans rfl⟩ (fun hHeld => ?_)
    refine pure_ (i := 0) (N := some 103) (v := ?_) (a' := ?_) #[true, false, false, false, false, false, false, false] rfl rfl (by kernel_rfl) (fun _ _ _ h => h) (Or.inl ⟨by rfl, ?_⟩) ?_ ?_
    rotate_left
    · intro w'
      go_simp
      with_reducible rfl
    rotate_left
    · simp only [Act.put, List.setIfInBounds_toArray, List.set_cons_zero, List.set_cons_succ, i64_w, i32_w]
      rfl
    refine pure_ (i := 3) (N := some 106) (v := ?_) (a' := ?_) #[true, false, false, true, false, false, false, false] rfl rfl (by kernel_rfl) (fun _ _ _ h => h) (Or.inl ⟨by rfl, ?_⟩) ?_ ?_
    rotate_left
    · intro w'
      go_simp
      with_reducible rfl
    rotate_left
    · simp only [Act.put, List.setIfInBounds_toArray, List.set_cons_zero, List.set_cons_succ, i64_w, i32_w]
      rfl
    refine take_ (i := 1) (N := some 104) (v := ?_) (a' := ?_) #[true, true, false, true, false, false, false, false] rfl rfl (by kernel_rfl) (fun _ _ _ h => h) (Or.inl ⟨by rfl, ?_⟩) hHeld ?_ ?_
    rotate_left
    · rintro w' ⟨s0, s1, s2⟩
      go_simp
      with_reducible rfl
    rotate_left
    · simp only [Act.put, List.setIfInBounds_toArray, List.set_cons_zero, List.set_cons_succ, i64_w, i32_w]
      rfl
    refine take_ (i := 4) (N := some 107) (v := ?_) (a' := ?_) #[true, true, false, true, true, false, false, false] rfl rfl (by kernel_rfl) (fun _ _ _ h => h) (Or.inl ⟨by rfl, ?_⟩) hHeld ?_ ?_
    rotate_left
    · rintro w' ⟨s0, s1, s2⟩
      go_simp
      with_reducible rfl
    rotate_left
    · simp only [Act.put, List.setIfInBounds_toArray, List.set_cons_zero, List.set_cons_succ, i64_w, i32_w]
      rfl
    refine one_ (i := 2) (N := some 105) #[true, true, true, true, true, false, false, false] rfl rfl (by kernel_rfl) (by decide) (fun K hK => ?_)
    refine goes_ Try.func22 (by kernel_rfl) rfl #[.pointer (some ⟨g, 0, none⟩), .agg #[.int .i64 a, .int .i64 b, .int .u32 c]] (by rfl) rfl rfl (by simp only [List.map_toArray, List.map_cons, List.map_nil]; rfl) ?_
    with_reducible refine (all_ C12.out HL.out a b c).mono ?_
    rintro e w13 ⟨v13, rfl, hS13⟩
    refine ⟨_, rfl, ?_⟩
    obtain ⟨A13, c13, rfl⟩ := hS13.rowV
    have C13 := Aside0.mk hS13
    clear hS13
    refine hK.out _ _ ⟨(C13.out.at4.cell 0).trans rfl, (C13.out.at4.cell 1).trans rfl, (C13.out.at4.cell 2).trans rfl⟩ (fun hHeld => ?_)
    clear hK K
    refine norm_ (a' := ?_) ?_ ?_
    rotate_left
    · show Act.put _ (some 105) _ = _
      simp only [Act.put, List.setIfInBounds_toArray, List.set_cons_zero, List.set_cons_succ, i64_w, i32_w]
      rfl
    refine last_ (i := 5) (N := some 108) #[true, true, true, true, true, true, false, false] rfl rfl (by kernel_rfl) (by decide) (fun K hK => ?_)
    refine goes_ Try.func105 (by kernel_rfl) rfl #[.pointer (some ⟨gr, 0, none⟩), .agg #[.int .i64 a, .int .i64 b, .int .u32 c]] (by rfl) rfl rfl (by simp only [List.map_toArray, List.map_cons, List.map_nil]; rfl) ?_
    with_reducible refine (rall_ C13.out.at3 HL.out HW.out a b c).mono ?_
    rintro e w14 ⟨v14, rfl, hS14⟩
    refine ⟨_, rfl, ?_⟩
    obtain ⟨A14, c14, rfl⟩ := hS14.rowV
    have C14 := Aside0.mk hS14
    clear hS14
    refine hK.out _ _ ?_
    clear hK K
    refine norm_ (a' := ?_) ?_ ?_
    rotate_left
    · show Act.put _ (some 108) _ = _
      simp only [Act.put, List.setIfInBounds_toArray, List.set_cons_zero, List.set_cons_succ, i64_w, i32_w]
      rfl
    refine pure_ (i := 6) (N := some 18) (v := ?_) (a' := ?_) #[true, true, true, true, true, true, true, false] rfl rfl (by kernel_rfl) (fun _ _ _ h => h) (Or.inl ⟨by rfl, ?_⟩) ?_ ?_
    rotate_left
    · intro w'
      go_simp
      with_reducible rfl
    rotate_left
    · simp only [Act.put, List.setIfInBounds_toArray, List.set_cons_zero, List.set_cons_succ, i64_w, i32_w]
      rfl
    refine pure_ (i := 7) (N := some 19) (v := ?_) (a' := ?_) #[true, true, true, true, true, true, true, true] rfl rfl (by kernel_rfl) (fun _ _ _ h => h) (Or.inl ⟨by rfl, ?_⟩) ?_ ?_
    rotate_left
    · intro w'
      go_simp
      with_reducible rfl
    rotate_left
    · simp only [Act.put, List.setIfInBounds_toArray, List.set_cons_zero, List.set_cons_succ, i64_w, i32_w]
      rfl
    refine done_ (by kernel_rfl) ?_
    obtain ⟨pgs, hpgs⟩ : ∃ p, pagesF n l (fun _ => none) a b c = p := ⟨_, rfl⟩
    rw [hpgs] at C14 ⊢
    clear hpgs
    have HP1 := Aside0.mk C14.out.rowC'
    have HP2 := Aside0.mk C14.out.at3.rowC'
    have hpl : pgs.length ≤ 9223372036854775807 := HP1.out.2.1
    go_wp2_with fail
    go_loopg [116] pgs.length (fun m_ p wr => ∃ j : Nat, p = .int .i64 (j : Int) ∧ j + m_ = pgs.length ∧ Below w14.heap.size w14 wr)
    case atStart => exact ⟨0, rfl, by omega, Below.refl _ _⟩
    case round =>
      obtain ⟨j, rfl, hjm, hB⟩ := hrel
      have AK := Aside0.mk hjm
      have AB := Aside0.mk hB
      clear hjm hB
      by_cases hj : j < pgs.length
      case neg =>
        have hjl : ¬ (j : Int) < (pgs.length : Int) := by omega
        have hjld : decide ((j : Int) < (pgs.length : Int)) = false := decide_eq_false hjl
        go_wp2_with fail
        go_ret
        exact ⟨by first | rfl | (simp; done), (C14.out.below AB.out).toBelow⟩
      case pos =>
      have hjl : (j : Int) < (pgs.length : Int) := by omega
      have hjld : decide ((j : Int) < (pgs.length : Int)) = true := decide_eq_true hjl
      obtain ⟨hx, ad, B1, cb1, rfl, f1, f2⟩ := K2_at HP1.out hj
      obtain ⟨hx', ad', B2, cb2, rfl, f3, f4⟩ := K2_at HP2.out hj
      have u1 := fun q => cell_later (pw_below_drewN AB.out q) f1
      have u3 := fun q => cell_later (pw_below_drewN AB.out q) f3
      have u2 := fun q => Str.strC (c := cb1) (Kd.C_below f2 (pw_below_drewN AB.out q))
      have u4 := fun q => Str.strC (c := cb2) (Kd.C_below f4 (pw_below_drewN AB.out q))
      generalize pgs[j] = x at *
      generalize x.length = nx at *
      obtain ⟨sx, hsx⟩ : ∃ s, strOfNums x = s := ⟨_, rfl⟩
      rw [hsx] at u2 u4
      clear hsx f1 f2 f3 f4
      have hss : (sx.toList == sx.toList) = true := by simp
      go_wp2_with fail
      go_quiet (fail)
      go_wp2_with fail
      go_roundg (gk - 1)
      case measure => have := AK.out; omega
      case rel => exact ⟨j + 1, by go_num, by have := AK.out; omega, pw_below_drewN AB.out _⟩
  | true =>
    cases rt with
    | false =>
      have HM : Aside0 (mayF n a b c i = false) := ⟨by rw [HME.out, HRT.out]; simp⟩
      have z0 := (A7.out.at4.cell 0).trans rfl
      have z1 := (A7.out.at4.cell 1).trans rfl
      have z2 := (A7.out.at4.cell 2).trans rfl
      go_wp2_with fail
      refine (page_ A7.out HL.out a b c i).mono ?_
      rintro e w8 ⟨v8, rfl, hS8⟩
      rw [HM.out]
      obtain ⟨A8, c8, rfl⟩ := hS8.rowV
      have C8 := Aside0.mk hS8
      clear hS8 z0 z1 z2
      have HPP : Aside0 (putP n (fun _ => none) a b c i xs = (fun _ => none)) := ⟨by unfold putP; rw [HM.out]; rfl⟩
      have HW := Aside0.mk Ref.none_len
      have z0 := (C8.out.at5.cell 0).trans rfl
      have z1 := (C8.out.at5.cell 1).trans rfl
      have z2 := (C8.out.at5.cell 2).trans rfl
      go_wp2_with fail
      refine (put_ (x := xs) C8.out.at2 HL.out H0.out.2.2.2.2 a b c i (fun W' hW => Kd.C_below H3.out.1 hW.toBelow) H3.out.2).mono ?_
      rintro e w10 ⟨rfl, hS10⟩
      rw [show putP n (fun _ => none) a b c i xs = (fun _ => none) from HPP.out] at hS10
      rw [HM.out, Bool.false_and]
      have C10 := Aside0.mk hS10.drop2.drop2
      clear hS10 z0 z1 z2
      go_wp2_with fail
      refine (Ref.alike_ (n := n) C10.out HL.out).mono ?_
      rintro e w12 ⟨rfl, hS12⟩
      have C12 := Aside0.mk hS12.drew
      clear hS12
      go_wp2_with fail
      refine start_ (n := 8) (S := fun w' => w'.cell? ⟨w.heap.size, 0, none⟩ = some (.int .i64 a) ∧ w'.cell? ⟨w.heap.size, 1, none⟩ = some (.int .i64 b) ∧ w'.cell? ⟨w.heap.size, 2, none⟩ = some (.int .u32 c)) (ds := [5]) #[false, false, false, false, false, false, false, false] (by kernel_rfl) rfl rfl ⟨(C12.out.at3.cell 0).trans rfl, (C12.out.at3.cell 1).trans rfl, (C12.out.at3.cell 2).trans rfl⟩ (fun hHeld => ?_)
      refine pure_ (i := 0) (N := some 103) (v := ?_) (a' := ?_) #[true, false, false, false, false, false, false, false] rfl rfl (by kernel_rfl) (fun _ _ _ h => h) (Or.inl ⟨by rfl, ?_⟩) ?_ ?_
      rotate_left
      · intro w'
        go_simp
        with_reducible rfl
      rotate_left
      · simp only [Act.put, List.setIfInBounds_toArray, List.set_cons_zero, List.set_cons_succ, i64_w, i32_w]
        rfl
      refine pure_ (i := 3) (N := some 106) (v := ?_) (a' := ?_) #[true, false, false, true, false, false, false, false] rfl rfl (by kernel_rfl) (fun _ _ _ h => h) (Or.inl ⟨by rfl, ?_⟩) ?_ ?_
      rotate_left
      · intro w'
        go_simp
        with_reducible rfl
      rotate_left
      · simp only [Act.put, List.setIfInBounds_toArray, List.set_cons_zero, List.set_cons_succ, i64_w, i32_w]
        rfl
      refine take_ (i := 1) (N := some 104) (v := ?_) (a' := ?_) #[true, true, false, true, false, false, false, false] rfl rfl (by kernel_rfl) (fun _ _ _ h => h) (Or.inl ⟨by rfl, ?_⟩) hHeld ?_ ?_
      rotate_left
      · rintro w' ⟨s0, s1, s2⟩
        go_simp
        with_reducible rfl
      rotate_left
      · simp only [Act.put, List.setIfInBounds_toArray, List.set_cons_zero, List.set_cons_succ, i64_w, i32_w]
        rfl
      refine take_ (i := 4) (N := some 107) (v := ?_) (a' := ?_) #[true, true, false, true, true, false, false, false] rfl rfl (by kernel_rfl) (fun _ _ _ h => h) (Or.inl ⟨by rfl, ?_⟩) hHeld ?_ ?_
      rotate_left
      · rintro w' ⟨s0, s1, s2⟩
        go_simp
        with_reducible rfl
      rotate_left
      · simp only [Act.put, List.setIfInBounds_toArray, List.set_cons_zero, List.set_cons_succ, i64_w, i32_w]
        rfl
      refine one_ (i := 2) (N := some 105) #[true, true, true, true, true, false, false, false] rfl rfl (by kernel_rfl) (by decide) (fun K hK => ?_)
      refine goes_ Try.func22 (by kernel_rfl) rfl #[.pointer (some ⟨g, 0, none⟩), .agg #[.int .i64 a, .int .i64 b, .int .u32 c]] (by rfl) rfl rfl (by simp only [List.map_toArray, List.map_cons, List.map_nil]; rfl) ?_
      with_reducible refine (all_ C12.out HL.out a b c).mono ?_
      rintro e w13 ⟨v13, rfl, hS13⟩
      refine ⟨_, rfl, ?_⟩
      obtain ⟨A13, c13, rfl⟩ := hS13.rowV
      have C13 := Aside0.mk hS13
      clear hS13
      refine hK.out _ _ ⟨(C13.out.at4.cell 0).trans rfl, (C13.out.at4.cell 1).trans rfl, (C13.out.at4.cell 2).trans rfl⟩ (fun hHeld => ?_)
      clear hK K
      refine norm_ (a' := ?_) ?_ ?_
      rotate_left
      · show Act.put _ (some 105) _ = _
        simp only [Act.put, List.setIfInBounds_toArray, List.set_cons_zero, List.set_cons_succ, i64_w, i32_w]
        rfl
      refine last_ (i := 5) (N := some 108) #[true, true, true, true, true, true, false, false] rfl rfl (by kernel_rfl) (by decide) (fun K hK => ?_)
      refine goes_ Try.func105 (by kernel_rfl) rfl #[.pointer (some ⟨gr, 0, none⟩), .agg #[.int .i64 a, .int .i64 b, .int .u32 c]] (by rfl) rfl rfl (by simp only [List.map_toArray, List.map_cons, List.map_nil]; rfl) ?_
      with_reducible refine (rall_ C13.out.at3 HL.out HW.out a b c).mono ?_
      rintro e w14 ⟨v14, rfl, hS14⟩
      refine ⟨_, rfl, ?_⟩
      obtain ⟨A14, c14, rfl⟩ := hS14.rowV
      have C14 := Aside0.mk hS14
      clear hS14
      refine hK.out _ _ ?_
      clear hK K
      refine norm_ (a' := ?_) ?_ ?_
      rotate_left
      · show Act.put _ (some 108) _ = _
        simp only [Act.put, List.setIfInBounds_toArray, List.set_cons_zero, List.set_cons_succ, i64_w, i32_w]
        rfl
      refine pure_ (i := 6) (N := some 18) (v := ?_) (a' := ?_) #[true, true, true, true, true, true, true, false] rfl rfl (by kernel_rfl) (fun _ _ _ h => h) (Or.inl ⟨by rfl, ?_⟩) ?_ ?_
      rotate_left
      · intro w'
        go_simp
        with_reducible rfl
      rotate_left
      · simp only [Act.put, List.setIfInBounds_toArray, List.set_cons_zero, List.set_cons_succ, i64_w, i32_w]
        rfl
      refine pure_ (i := 7) (N := some 19) (v := ?_) (a' := ?_) #[true, true, true, true, true, true, true, true] rfl rfl (by kernel_rfl) (fun _ _ _ h => h) (Or.inl ⟨by rfl, ?_⟩) ?_ ?_
      rotate_left
      · intro w'
        go_simp
        with_reducible rfl
      rotate_left
      · simp only [Act.put, List.setIfInBounds_toArray, List.set_cons_zero, List.set_cons_succ, i64_w, i32_w]
        rfl
      refine done_ (by kernel_rfl) ?_
      obtain ⟨pgs, hpgs⟩ : ∃ p, pagesF n l (fun _ => none) a b c = p := ⟨_, rfl⟩
      rw [hpgs] at C14 ⊢
      clear hpgs
      have HP1 := Aside0.mk C14.out.rowC'
      have HP2 := Aside0.mk C14.out.at3.rowC'
      have hpl : pgs.length ≤ 9223372036854775807 := HP1.out.2.1
      go_wp2_with fail
      go_loopg [116] pgs.length (fun m_ p wr => ∃ j : Nat, p = .int .i64 (j : Int) ∧ j + m_ = pgs.length ∧ Below w14.heap.size w14 wr)
      case atStart => exact ⟨0, rfl, by omega, Below.refl _ _⟩
      case round =>
        obtain ⟨j, rfl, hjm, hB⟩ := hrel
        have AK := Aside0.mk hjm
        have AB := Aside0.mk hB
        clear hjm hB
        by_cases hj : j < pgs.length
        case neg =>
          have hjl : ¬ (j : Int) < (pgs.length : Int) := by omega
          have hjld : decide ((j : Int) < (pgs.length : Int)) = false := decide_eq_false hjl
          go_wp2_with fail
          go_ret
          exact ⟨by first | rfl | (simp; done), (C14.out.below AB.out).toBelow⟩
        case pos =>
        have hjl : (j : Int) < (pgs.length : Int) := by omega
        have hjld : decide ((j : Int) < (pgs.length : Int)) = true := decide_eq_true hjl
        obtain ⟨hx, ad, B1, cb1, rfl, f1, f2⟩ := K2_at HP1.out hj
        obtain ⟨hx', ad', B2, cb2, rfl, f3, f4⟩ := K2_at HP2.out hj
        have u1 := fun q => cell_later (pw_below_drewN AB.out q) f1
        have u3 := fun q => cell_later (pw_below_drewN AB.out q) f3
        have u2 := fun q => Str.strC (c := cb1) (Kd.C_below f2 (pw_below_drewN AB.out q))
        have u4 := fun q => Str.strC (c := cb2) (Kd.C_below f4 (pw_below_drewN AB.out q))
        generalize pgs[j] = x at *
        generalize x.length = nx at *
        obtain ⟨sx, hsx⟩ : ∃ s, strOfNums x = s := ⟨_, rfl⟩
        rw [hsx] at u2 u4
        clear hsx f1 f2 f3 f4
        have hss : (sx.toList == sx.toList) = true := by simp
        go_wp2_with fail
        go_quiet (fail)
        go_wp2_with fail
        go_roundg (gk - 1)
        case measure => have := AK.out; omega
        case rel => exact ⟨j + 1, by go_num, by have := AK.out; omega, pw_below_drewN AB.out _⟩
    | true =>
      have hk0 : 0 ≤ k := (of_decide_eq_true HI.out).1
      have hk0d : decide (0 ≤ k) = true := decide_eq_true hk0
      have HM : Aside0 (mayF n a b c i = true) := ⟨by rw [HME.out, HK.out, HI.out, HRT.out, hk0d]; rfl⟩
      have HA := Aside0.mk (home_at HM.out)
      have HKA : Aside0 (k = (atF a i : Int)) := ⟨HK.out.symm.trans HA.out.1⟩
      have HSE : Aside0 (secI n l (fun _ => none) k = pageF n l (fun _ => none) a b c i) := ⟨by
        unfold secI pageF
        rw [HKA.out, if_pos (show 0 ≤ ((atF a i : Nat) : Int) ∧ ((atF a i : Nat) : Int) < n by have := HA.out.2; omega), if_pos HM.out, Int.toNat_natCast]⟩
      rw [HSE.out] at A7 ⊢
      obtain rfl : k = _ := HKA.out
      have z0 := (A7.out.at4.cell 0).trans rfl
      have z1 := (A7.out.at4.cell 1).trans rfl
      have z2 := (A7.out.at4.cell 2).trans rfl
      go_wp2_with fail
      refine (page_ A7.out HL.out a b c i).mono ?_
      rintro e w8 ⟨v8, rfl, hS8⟩
      rw [HM.out]
      obtain ⟨A8, c8, rfl⟩ := hS8.rowV
      have C8 := Aside0.mk hS8
      clear hS8 z0 z1 z2
      have s6 := Str.strC (c := c6) C8.out.at3.rowC'
      have s8 := Str.strC (c := c8) C8.out.rowC'
      obtain ⟨sx, hsx⟩ : ∃ s, strOfNums (pageF n l (fun _ => none) a b c i) = s := ⟨_, rfl⟩
      rw [hsx] at s6 s8
      have hss : (sx.toList == sx.toList) = true := by simp
      clear hsx
      by_cases h64 : m3 = 64
      case pos =>
        subst h64
        have HPP : Aside0 (putP n (fun _ => none) a b c i xs = putW n (fun _ => none) (atF a i) xs) := ⟨by unfold putP; rw [HM.out]; rfl⟩
        have HW := Aside0.mk (putW_len (n := n) (i := atF a i) (b := xs) Ref.none_len)
        go_wp2_with fail
        refine (rdwrite_ (done := 0) C8.out.at4 HL.out Ref.none_len (by decide) (atF a i) (b := xs) (fun W' hW => Kd.C_below H3.out.1 hW.toBelow)).mono ?_
        rintro e w9 ⟨d9, hd9, rfl, hS9⟩
        have C9 := Aside0.mk hS9.at3
        clear hS9 s6 s8 hss
        have z0 := (C9.out.at5.cell 0).trans rfl
        have z1 := (C9.out.at5.cell 1).trans rfl
        have z2 := (C9.out.at5.cell 2).trans rfl
        go_wp2_with fail
        refine (put_ (x := xs) C9.out HL.out H0.out.2.2.2.2 a b c i (fun W' hW => Kd.C_below H3.out.1 hW.toBelow) H3.out.2).mono ?_
        rintro e w10 ⟨rfl, hS10⟩
        rw [show putP n (fun _ => none) a b c i xs = putW n (fun _ => none) (atF a i) xs from HPP.out] at hS10
        rw [HM.out, decide_eq_true HN3.out, Bool.true_and]
        have C10 := Aside0.mk (Sep.weakR (L := [_, _, _]) hS10.at5).to3
        clear hS10 z0 z1 z2
        go_wp2_with fail
        refine (Ref.alike_ (n := n) C10.out HL.out).mono ?_
        rintro e w12 ⟨rfl, hS12⟩
        have C12 := Aside0.mk hS12.drew
        clear hS12
        go_wp2_with fail
        refine start_ (n := 8) (S := fun w' => w'.cell? ⟨w.heap.size, 0, none⟩ = some (.int .i64 a) ∧ w'.cell? ⟨w.heap.size, 1, none⟩ = some (.int .i64 b) ∧ w'.cell? ⟨w.heap.size, 2, none⟩ = some (.int .u32 c)) (ds := [5]) #[false, false, false, false, false, false, false, false] (by kernel_rfl) rfl rfl ⟨(C12.out.at3.cell 0).trans rfl, (C12.out.at3.cell 1).trans rfl, (C12.out.at3.cell 2).trans rfl⟩ (fun hHeld => ?_)
        refine pure_ (i := 0) (N := some 103) (v := ?_) (a' := ?_) #[true, false, false, false, false, false, false, false] rfl rfl (by kernel_rfl) (fun _ _ _ h => h) (Or.inl ⟨by rfl, ?_⟩) ?_ ?_
        rotate_left
        · intro w'
          go_simp
          with_reducible rfl
        rotate_left
        · simp only [Act.put, List.setIfInBounds_toArray, List.set_cons_zero, List.set_cons_succ, i64_w, i32_w]
          rfl
        refine pure_ (i := 3) (N := some 106) (v := ?_) (a' := ?_) #[true, false, false, true, false, false, false, false] rfl rfl (by kernel_rfl) (fun _ _ _ h => h) (Or.inl ⟨by rfl, ?_⟩) ?_ ?_
        rotate_left
        · intro w'
          go_simp
          with_reducible rfl
        rotate_left
        · simp only [Act.put, List.setIfInBounds_toArray, List.set_cons_zero, List.set_cons_succ, i64_w, i32_w]
          rfl
        refine take_ (i := 1) (N := some 104) (v := ?_) (a' := ?_) #[true, true, false, true, false, false, false, false] rfl rfl (by kernel_rfl) (fun _ _ _ h => h) (Or.inl ⟨by rfl, ?_⟩) hHeld ?_ ?_
        rotate_left
        · rintro w' ⟨s0, s1, s2⟩
          go_simp
          with_reducible rfl
        rotate_left
        · simp only [Act.put, List.setIfInBounds_toArray, List.set_cons_zero, List.set_cons_succ, i64_w, i32_w]
          rfl
        refine take_ (i := 4) (N := some 107) (v := ?_) (a' := ?_) #[true, true, false, true, true, false, false, false] rfl rfl (by kernel_rfl) (fun _ _ _ h => h) (Or.inl ⟨by rfl, ?_⟩) hHeld ?_ ?_
        rotate_left
        · rintro w' ⟨s0, s1, s2⟩
          go_simp
          with_reducible rfl
        rotate_left
        · simp only [Act.put, List.setIfInBounds_toArray, List.set_cons_zero, List.set_cons_succ, i64_w, i32_w]
          rfl
        refine one_ (i := 2) (N := some 105) #[true, true, true, true, true, false, false, false] rfl rfl (by kernel_rfl) (by decide) (fun K hK => ?_)
        refine goes_ Try.func22 (by kernel_rfl) rfl #[.pointer (some ⟨g, 0, none⟩), .agg #[.int .i64 a, .int .i64 b, .int .u32 c]] (by rfl) rfl rfl (by simp only [List.map_toArray, List.map_cons, List.map_nil]; rfl) ?_
        with_reducible refine (all_ C12.out HL.out a b c).mono ?_
        rintro e w13 ⟨v13, rfl, hS13⟩
        refine ⟨_, rfl, ?_⟩
        obtain ⟨A13, c13, rfl⟩ := hS13.rowV
        have C13 := Aside0.mk hS13
        clear hS13
        refine hK.out _ _ ⟨(C13.out.at4.cell 0).trans rfl, (C13.out.at4.cell 1).trans rfl, (C13.out.at4.cell 2).trans rfl⟩ (fun hHeld => ?_)
        clear hK K
        refine norm_ (a' := ?_) ?_ ?_
        rotate_left
        · show Act.put _ (some 105) _ = _
          simp only [Act.put, List.setIfInBounds_toArray, List.set_cons_zero, List.set_cons_succ, i64_w, i32_w]
          rfl
        refine last_ (i := 5) (N := some 108) #[true, true, true, true, true, true, false, false] rfl rfl (by kernel_rfl) (by decide) (fun K hK => ?_)
        refine goes_ Try.func105 (by kernel_rfl) rfl #[.pointer (some ⟨gr, 0, none⟩), .agg #[.int .i64 a, .int .i64 b, .int .u32 c]] (by rfl) rfl rfl (by simp only [List.map_toArray, List.map_cons, List.map_nil]; rfl) ?_
        with_reducible refine (rall_ C13.out.at3 HL.out HW.out a b c).mono ?_
        rintro e w14 ⟨v14, rfl, hS14⟩
        refine ⟨_, rfl, ?_⟩
        obtain ⟨A14, c14, rfl⟩ := hS14.rowV
        have C14 := Aside0.mk hS14
        clear hS14
        refine hK.out _ _ ?_
        clear hK K
        refine norm_ (a' := ?_) ?_ ?_
        rotate_left
        · show Act.put _ (some 108) _ = _
          simp only [Act.put, List.setIfInBounds_toArray, List.set_cons_zero, List.set_cons_succ, i64_w, i32_w]
          rfl
        refine pure_ (i := 6) (N := some 18) (v := ?_) (a' := ?_) #[true, true, true, true, true, true, true, false] rfl rfl (by kernel_rfl) (fun _ _ _ h => h) (Or.inl ⟨by rfl, ?_⟩) ?_ ?_
        rotate_left
        · intro w'
          go_simp
          with_reducible rfl
        rotate_left
        · simp only [Act.put, List.setIfInBounds_toArray, List.set_cons_zero, List.set_cons_succ, i64_w, i32_w]
          rfl
        refine pure_ (i := 7) (N := some 19) (v := ?_) (a' := ?_) #[true, true, true, true, true, true, true, true] rfl rfl (by kernel_rfl) (fun _ _ _ h => h) (Or.inl ⟨by rfl, ?_⟩) ?_ ?_
        rotate_left
        · intro w'
          go_simp
          with_reducible rfl
        rotate_left
        · simp only [Act.put, List.setIfInBounds_toArray, List.set_cons_zero, List.set_cons_succ, i64_w, i32_w]
          rfl
        refine done_ (by kernel_rfl) ?_
        obtain ⟨pgs, hpgs⟩ : ∃ p, pagesF n l (putW n (fun _ => none) (atF a i) xs) a b c = p := ⟨_, rfl⟩
        rw [hpgs] at C14 ⊢
        clear hpgs
        have HP1 := Aside0.mk C14.out.rowC'
        have HP2 := Aside0.mk C14.out.at3.rowC'
        have hpl : pgs.length ≤ 9223372036854775807 := HP1.out.2.1
        go_wp2_with fail
        go_loopg [116] pgs.length (fun m_ p wr => ∃ j : Nat, p = .int .i64 (j : Int) ∧ j + m_ = pgs.length ∧ Below w14.heap.size w14 wr)
        case atStart => exact ⟨0, rfl, by omega, Below.refl _ _⟩
        case round =>
          obtain ⟨j, rfl, hjm, hB⟩ := hrel
          have AK := Aside0.mk hjm
          have AB := Aside0.mk hB
          clear hjm hB
          by_cases hj : j < pgs.length
          case neg =>
            have hjl : ¬ (j : Int) < (pgs.length : Int) := by omega
            have hjld : decide ((j : Int) < (pgs.length : Int)) = false := decide_eq_false hjl
            go_wp2_with fail
            go_ret
            exact ⟨by first | rfl | (simp; done), (C14.out.below AB.out).toBelow⟩
          case pos =>
          have hjl : (j : Int) < (pgs.length : Int) := by omega
          have hjld : decide ((j : Int) < (pgs.length : Int)) = true := decide_eq_true hjl
          obtain ⟨hx, ad, B1, cb1, rfl, f1, f2⟩ := K2_at HP1.out hj
          obtain ⟨hx', ad', B2, cb2, rfl, f3, f4⟩ := K2_at HP2.out hj
          have u1 := fun q => cell_later (pw_below_drewN AB.out q) f1
          have u3 := fun q => cell_later (pw_below_drewN AB.out q) f3
          have u2 := fun q => Str.strC (c := cb1) (Kd.C_below f2 (pw_below_drewN AB.out q))
          have u4 := fun q => Str.strC (c := cb2) (Kd.C_below f4 (pw_below_drewN AB.out q))
          generalize pgs[j] = x at *
          generalize x.length = nx at *
          obtain ⟨sx, hsx⟩ : ∃ s, strOfNums x = s := ⟨_, rfl⟩
          rw [hsx] at u2 u4
          clear hsx f1 f2 f3 f4
          have hss : (sx.toList == sx.toList) = true := by simp
          go_wp2_with fail
          go_quiet (fail)
          go_wp2_with fail
          go_roundg (gk - 1)
          case measure => have := AK.out; omega
          case rel => exact ⟨j + 1, by go_num, by have := AK.out; omega, pw_below_drewN AB.out _⟩
      case neg =>
        have h64i : ¬ (m3 : Int) = 64 := by omega
        have h64b : ((m3 : Int) == 64) = false := by simpa using h64i
        have hxl : xs.length ≠ 64 := fun h => h64 (HN3.out.symm.trans h)
        have HPP : Aside0 (putP n (fun _ => none) a b c i xs = (fun _ => none)) := ⟨by unfold putP; rw [HM.out, if_pos rfl]; exact if_neg (fun h => hxl h.2)⟩
        have HXL := Aside0.mk hxl
        have HW := Aside0.mk Ref.none_len
        clear hxl
        have z0 := (C8.out.at5.cell 0).trans rfl
        have z1 := (C8.out.at5.cell 1).trans rfl
        have z2 := (C8.out.at5.cell 2).trans rfl
        go_wp2_with fail
        refine (put_ (x := xs) C8.out.at2 HL.out H0.out.2.2.2.2 a b c i (fun W' hW => Kd.C_below H3.out.1 hW.toBelow) H3.out.2).mono ?_
        rintro e w10 ⟨rfl, hS10⟩
        rw [show putP n (fun _ => none) a b c i xs = (fun _ => none) from HPP.out] at hS10
        rw [HM.out, decide_eq_false HXL.out, Bool.true_and]
        clear s6 s8
        have C10 := Aside0.mk hS10.drop2.drop2
        clear hS10 z0 z1 z2
        go_wp2_with fail
        refine (Ref.alike_ (n := n) C10.out HL.out).mono ?_
        rintro e w12 ⟨rfl, hS12⟩
        have C12 := Aside0.mk hS12.drew
        clear hS12
        go_wp2_with fail
        refine start_ (n := 8) (S := fun w' => w'.cell? ⟨w.heap.size, 0, none⟩ = some (.int .i64 a) ∧ w'.cell? ⟨w.heap.size, 1, none⟩ = some (.int .i64 b) ∧ w'.cell? ⟨w.heap.size, 2, none⟩ = some (.int .u32 c)) (ds := [5]) #[false, false, false, false, false, false, false, false] (by kernel_rfl) rfl rfl ⟨(C12.out.at3.cell 0).trans rfl, (C12.out.at3.cell 1).trans rfl, (C12.out.at3.cell 2).trans rfl⟩ (fun hHeld => ?_)
        refine pure_ (i := 0) (N := some 103) (v := ?_) (a' := ?_) #[true, false, false, false, false, false, false, false] rfl rfl (by kernel_rfl) (fun _ _ _ h => h) (Or.inl ⟨by rfl, ?_⟩) ?_ ?_
        rotate_left
        · intro w'
          go_simp
          with_reducible rfl
        rotate_left
        · simp only [Act.put, List.setIfInBounds_toArray, List.set_cons_zero, List.set_cons_succ, i64_w, i32_w]
          rfl
        refine pure_ (i := 3) (N := some 106) (v := ?_) (a' := ?_) #[true, false, false, true, false, false, false, false] rfl rfl (by kernel_rfl) (fun _ _ _ h => h) (Or.inl ⟨by rfl, ?_⟩) ?_ ?_
        rotate_left
        · intro w'
          go_simp
          with_reducible rfl
        rotate_left
        · simp only [Act.put, List.setIfInBounds_toArray, List.set_cons_zero, List.set_cons_succ, i64_w, i32_w]
          rfl
        refine take_ (i := 1) (N := some 104) (v := ?_) (a' := ?_) #[true, true, false, true, false, false, false, false] rfl rfl (by kernel_rfl) (fun _ _ _ h => h) (Or.inl ⟨by rfl, ?_⟩) hHeld ?_ ?_
        rotate_left
        · rintro w' ⟨s0, s1, s2⟩
          go_simp
          with_reducible rfl
        rotate_left
        · simp only [Act.put, List.setIfInBounds_toArray, List.set_cons_zero, List.set_cons_succ, i64_w, i32_w]
          rfl
        refine take_ (i := 4) (N := some 107) (v := ?_) (a' := ?_) #[true, true, false, true, true, false, false, false] rfl rfl (by kernel_rfl) (fun _ _ _ h => h) (Or.inl ⟨by rfl, ?_⟩) hHeld ?_ ?_
        rotate_left
        · rintro w' ⟨s0, s1, s2⟩
          go_simp
          with_reducible rfl
        rotate_left
        · simp only [Act.put, List.setIfInBounds_toArray, List.set_cons_zero, List.set_cons_succ, i64_w, i32_w]
          rfl
        refine one_ (i := 2) (N := some 105) #[true, true, true, true, true, false, false, false] rfl rfl (by kernel_rfl) (by decide) (fun K hK => ?_)
        refine goes_ Try.func22 (by kernel_rfl) rfl #[.pointer (some ⟨g, 0, none⟩), .agg #[.int .i64 a, .int .i64 b, .int .u32 c]] (by rfl) rfl rfl (by simp only [List.map_toArray, List.map_cons, List.map_nil]; rfl) ?_
        with_reducible refine (all_ C12.out HL.out a b c).mono ?_
        rintro e w13 ⟨v13, rfl, hS13⟩
        refine ⟨_, rfl, ?_⟩
        obtain ⟨A13, c13, rfl⟩ := hS13.rowV
        have C13 := Aside0.mk hS13
        clear hS13
        refine hK.out _ _ ⟨(C13.out.at4.cell 0).trans rfl, (C13.out.at4.cell 1).trans rfl, (C13.out.at4.cell 2).trans rfl⟩ (fun hHeld => ?_)
        clear hK K
        refine norm_ (a' := ?_) ?_ ?_
        rotate_left
        · show Act.put _ (some 105) _ = _
          simp only [Act.put, List.setIfInBounds_toArray, List.set_cons_zero, List.set_cons_succ, i64_w, i32_w]
          rfl
        refine last_ (i := 5) (N := some 108) #[true, true, true, true, true, true, false, false] rfl rfl (by kernel_rfl) (by decide) (fun K hK => ?_)
        refine goes_ Try.func105 (by kernel_rfl) rfl #[.pointer (some ⟨gr, 0, none⟩), .agg #[.int .i64 a, .int .i64 b, .int .u32 c]] (by rfl) rfl rfl (by simp only [List.map_toArray, List.map_cons, List.map_nil]; rfl) ?_
        with_reducible refine (rall_ C13.out.at3 HL.out HW.out a b c).mono ?_
        rintro e w14 ⟨v14, rfl, hS14⟩
        refine ⟨_, rfl, ?_⟩
        obtain ⟨A14, c14, rfl⟩ := hS14.rowV
        have C14 := Aside0.mk hS14
        clear hS14
        refine hK.out _ _ ?_
        clear hK K
        refine norm_ (a' := ?_) ?_ ?_
        rotate_left
        · show Act.put _ (some 108) _ = _
          simp only [Act.put, List.setIfInBounds_toArray, List.set_cons_zero, List.set_cons_succ, i64_w, i32_w]
          rfl
        refine pure_ (i := 6) (N := some 18) (v := ?_) (a' := ?_) #[true, true, true, true, true, true, true, false] rfl rfl (by kernel_rfl) (fun _ _ _ h => h) (Or.inl ⟨by rfl, ?_⟩) ?_ ?_
        rotate_left
        · intro w'
          go_simp
          with_reducible rfl
        rotate_left
        · simp only [Act.put, List.setIfInBounds_toArray, List.set_cons_zero, List.set_cons_succ, i64_w, i32_w]
          rfl
        refine pure_ (i := 7) (N := some 19) (v := ?_) (a' := ?_) #[true, true, true, true, true, true, true, true] rfl rfl (by kernel_rfl) (fun _ _ _ h => h) (Or.inl ⟨by rfl, ?_⟩) ?_ ?_
        rotate_left
        · intro w'
          go_simp
          with_reducible rfl
        rotate_left
        · simp only [Act.put, List.setIfInBounds_toArray, List.set_cons_zero, List.set_cons_succ, i64_w, i32_w]
          rfl
        refine done_ (by kernel_rfl) ?_
        obtain ⟨pgs, hpgs⟩ : ∃ p, pagesF n l (fun _ => none) a b c = p := ⟨_, rfl⟩
        rw [hpgs] at C14 ⊢
        clear hpgs
        have HP1 := Aside0.mk C14.out.rowC'
        have HP2 := Aside0.mk C14.out.at3.rowC'
        have hpl : pgs.length ≤ 9223372036854775807 := HP1.out.2.1
        go_wp2_with fail
        go_loopg [116] pgs.length (fun m_ p wr => ∃ j : Nat, p = .int .i64 (j : Int) ∧ j + m_ = pgs.length ∧ Below w14.heap.size w14 wr)
        case atStart => exact ⟨0, rfl, by omega, Below.refl _ _⟩
        case round =>
          obtain ⟨j, rfl, hjm, hB⟩ := hrel
          have AK := Aside0.mk hjm
          have AB := Aside0.mk hB
          clear hjm hB
          by_cases hj : j < pgs.length
          case neg =>
            have hjl : ¬ (j : Int) < (pgs.length : Int) := by omega
            have hjld : decide ((j : Int) < (pgs.length : Int)) = false := decide_eq_false hjl
            go_wp2_with fail
            go_ret
            exact ⟨by first | rfl | (simp; done), (C14.out.below AB.out).toBelow⟩
          case pos =>
          have hjl : (j : Int) < (pgs.length : Int) := by omega
          have hjld : decide ((j : Int) < (pgs.length : Int)) = true := decide_eq_true hjl
          obtain ⟨hx, ad, B1, cb1, rfl, f1, f2⟩ := K2_at HP1.out hj
          obtain ⟨hx', ad', B2, cb2, rfl, f3, f4⟩ := K2_at HP2.out hj
          have u1 := fun q => cell_later (pw_below_drewN AB.out q) f1
          have u3 := fun q => cell_later (pw_below_drewN AB.out q) f3
          have u2 := fun q => Str.strC (c := cb1) (Kd.C_below f2 (pw_below_drewN AB.out q))
          have u4 := fun q => Str.strC (c := cb2) (Kd.C_below f4 (pw_below_drewN AB.out q))
          generalize pgs[j] = x at *
          generalize x.length = nx at *
          obtain ⟨sx, hsx⟩ : ∃ s, strOfNums x = s := ⟨_, rfl⟩
          rw [hsx] at u2 u4
          clear hsx f1 f2 f3 f4
          have hss : (sx.toList == sx.toList) = true := by simp
          go_wp2_with fail
          go_quiet (fail)
          go_wp2_with fail
          go_roundg (gk - 1)
          case measure => have := AK.out; omega
          case rel => exact ⟨j + 1, by go_num, by have := AK.out; omega, pw_below_drewN AB.out _⟩
end Go.Proofs.Ytjngnigelkgekaa.Home
