/- DeltaParts: the walk. -/
import Derived.Test.YtkcinjimjehcnaaLaw4c
import Derived.Test.YtkcinjimjehcnaaCutsAny
namespace Go.Proofs.Ytkcinjimjehcnaa.Delta
set_option linter.unusedVariables false
set_option linter.unusedSimpArgs false
open Go.RowKit Go.Proofs.YtkcinjimjehcnaaW.PrintWords Go.Proofs.YtkcinjimjehcnaaW.PrintLast Go.Proofs.YtkcinjimjehcnaaW.PrintMore Go.Proofs.Ytkcinjimjehcnaa.Kit Go.Proofs.Ytkcinjimjehcnaa.Base Go.Proofs.Ytkcinjimjehcnaa.Plain Go.Proofs.Ytkcinjimjehcnaa.Tape
theorem okF_less {pages a b : Int} (h : a ≤ b) {l : List Chg} (hk : okF pages b l = true) : okF pages a l = true := by
  cases l with
  | nil => rfl
  | cons c r =>
    unfold okF at hk ⊢
    rw [Bool.and_eq_true, decide_eq_true_eq] at hk ⊢
    exact ⟨⟨by omega, hk.1.2⟩, hk.2⟩
theorem okF_sub {pages : Int} {l m : List Chg} (h : List.Sublist m l) : ∀ {last : Int}, okF pages last l = true → okF pages last m = true := by
  induction h with
  | slnil => intro last h; exact h
  | cons a _ ih =>
    intro last h
    unfold okF at h
    rw [Bool.and_eq_true, decide_eq_true_eq] at h
    exact okF_less (by omega) (ih h.2)
  | cons_cons a _ ih =>
    intro last h
    unfold okF at h ⊢
    rw [Bool.and_eq_true] at h ⊢
    exact ⟨h.1, ih h.2⟩
theorem okF_twice {pages : Int} {x : Chg} {b : List Chg} : ∀ {a : List Chg} {last : Int}, okF pages last (a ++ x :: x :: b) = false
  | [], last => by simp [okF]
  | c :: r, last => by
    rw [List.cons_append]
    unfold okF
    rw [okF_twice, Bool.and_false]
theorem parts_less {l : List Chg} {pages : Int} (h : rightF l pages = true) (k : Nat) : rightF (l.take k ++ l.drop (k + 1)) pages = true := by
  unfold rightF at h ⊢
  rw [Bool.and_eq_true] at h ⊢
  refine ⟨h.1, okF_sub ?_ h.2⟩
  rw [← List.eraseIdx_eq_take_drop_succ]
  exact List.eraseIdx_sublist l k
theorem parts_more {l : List Chg} {pages : Int} {k : Nat} (hk : k < l.length) : rightF (l.take k ++ [l[k]] ++ l.drop k) pages = false := by
  unfold rightF
  rw [List.drop_eq_getElem_cons hk, List.append_assoc, List.singleton_append, okF_twice, Bool.and_false]
theorem parts_last {l : List Chg} {k : Nat} (hk : k < l.length) : rightF l (l[k]).1 = false := by
  cases h : rightF l (l[k]).1 with
  | false => rfl
  | true =>
    unfold rightF at h
    rw [Bool.and_eq_true] at h
    have := (okF_all h.2 (by omega) _ (List.getElem_mem hk)).2.1
    omega
theorem parts_one {l : List Chg} {pages : Int} (h : rightF l pages = true) : undeltaF (deltaF l ++ [0]) pages = none := by
  have hr := right_len h
  have hc : countF (deltaF l ++ [0]) = l.length := by
    unfold countF deltaF two rd
    simp
    omega
  unfold undeltaF
  rw [if_neg (by simp; omega), if_pos (by rw [hc]; simp; omega)]
theorem one0 : Bytes [0] := fun x hx => by
  obtain rfl := List.mem_singleton.1 hx
  decide
theorem Each.below {α : Type} {d : Kd α} {xs : List α} {cs : List (List Value)} {W W' : World} (h : Each d xs cs W) (hb : Below W.heap.size W W') : Each d xs cs W' := ⟨h.1, fun j x c hx hc => d.K_below hb (h.2 j x c hx hc)⟩
set_option maxHeartbeats 3200000 in
set_option maxRecDepth 100000 in
theorem deltaParts_ {A : Option Addr} {n c : Nat} {L : List Int} {pages out : Int} {w : World} (ht : I64.C w A n L) :
    Calls Try.prog 11 #[.slice A n c, .int .i64 pages, .int .i64 out] w fun e w' => e = .returned (.bool true) ∧ Below w.heap.size w w' := by
  have AT := Aside0.mk ht
  have hin := Book.withinF_in (n := pages) (lo := 1) (hi := 16) (by decide)
  obtain ⟨m, hm⟩ := Int.eq_ofNat_of_zero_le (show 0 ≤ Book.withinF pages 1 16 by omega)
  have hm2 : m ≤ 16 := by omega
  have HM := Aside0.mk hm
  clear ht hin hm
  go_enter Try.func11, Try.ntmps11
  go_wp2_with fail
  refine (Book.within_ pages 1 16 w (by decide) (by decide) (by decide)).mono ?_
  rintro e w1 ⟨rfl, rfl⟩
  rw [HM.out]
  have A1 := Aside0.mk ((Sep.start w).newBlk 50 #[.slice A n c, .int .i64 0])
  go_wp2_with fail
  refine (changes_ AT.out (Int.le_refl 0) A1.out m (by omega)).mono ?_
  rintro e w2 ⟨v2, l, p2, rfl, hg, -, hS2⟩
  obtain ⟨A2, c2, rfl⟩ := hS2.rowV
  have HW2 := Aside0.mk (Sep.weak (L := [_, _]) (F := []) hS2)
  have HC2 := Aside0.mk hS2.rowC.2.2
  have hc2 := hS2.rowC.2.1
  have HR := Aside0.mk (good_right hg (by omega))
  have HB := Aside0.mk (delta_bytes hg.2.1)
  have hll := (right_len HR.out).2
  clear hS2 hg A1
  go_wp2_with fail
  refine (right_ HC2.out (m : Int)).mono ?_
  rintro e w3 ⟨rfl, hb3⟩
  rw [HR.out]
  have B3 := Aside0.mk ((Sep.start w2).below hb3)
  clear hb3
  by_cases h0 : l.length = 0
  · have h0' : (l.length : Int) = 0 := by omega
    clear h0
    go_wp2_with fail
    refine (known_ _).mono ?_
    rintro e w4 ⟨rfl, hb4⟩
    go_wp2_with fail
    go_ret
    exact ⟨by first | rfl | (simp; done), (HW2.out.lift (B3.out.below hb4)).toBelow⟩
  · have hL : 0 < (l.length : Int) := by omega
    have nz : ¬ ((l.length : Int) = 0) := by omega
    have r1 := Int.tmod_lt_of_pos out hL
    have r2 := Int.lt_tmod_of_pos out hL
    obtain ⟨k, hk⟩ := Int.eq_ofNat_of_zero_le (Int.emod_nonneg (out.tmod (l.length : Int) + (l.length : Int)) nz)
    have hkl : k < l.length := by
      have := Int.emod_lt_of_pos (out.tmod (l.length : Int) + (l.length : Int)) hL
      omega
    have AK := Aside0.mk hk
    clear hk h0
    go_wp2_with fail
    rw [AK.out]
    clear r1 r2 AK nz
    obtain ⟨cs, hraw, heach⟩ := raw_of_C HC2.out
    have hcl : cs.length = l.length := heach.1.symm
    have HRAW := Aside0.mk hraw
    have HE := Aside0.mk heach
    obtain ⟨hx, ad, cl, rfl, hkk, q0, q1⟩ := elem_ hraw hkl
    have hcl2 : cl = cs[k] := hkk.1
    subst hcl2
    obtain ⟨u0, u1, e1, h0, B, c9, h1, h2, h3⟩ := heach.2 k _ _ (List.getElem?_eq_getElem hkl) (List.getElem?_eq_getElem hx)
    have h0 : u0 = [.int .i64 (l[k]).1] := h0
    subst h0 h1
    rw [List.singleton_append] at e1
    rw [e1] at q0 q1
    have q0 := q0 _ rfl
    have q1 := q1 1 _ (by decide) rfl
    have hraw2 := HRAW.out
    rw [← hcl] at hraw2
    have HRA := Aside0.mk (C_hi (b := k) (c := c2) HRAW.out (by omega) hc2)
    have HRB := Aside0.mk (C_lo (a := k + 1) (c := c2) HRAW.out (by omega) hc2)
    have HRC := Aside0.mk (C_lo (a := k) (c := c2) HRAW.out (by omega) hc2)
    have cutA := cutHi Try.underlying43 infoCh (some ad) l.length c2 k (K := (k : Int)) rfl (by omega) hc2
    have cutB := cutLo Try.underlying43 infoCh (some ad) l.length c2 (k + 1) (J := (k : Int) + 1) (by omega) (by omega) hc2
    have cutC := cutLo Try.underlying43 infoCh (some ad) l.length c2 k (J := (k : Int)) rfl (by omega) hc2
    have HRB' : Aside0 ((Kd.raw KC.sz).C w2 (if c2 = k + 1 then some ad else (some ad).map (·.add ((k + 1) * 2))) (l.length - (k + 1)) (cs.drop (k + 1))) := HRB
    have HRC' : Aside0 ((Kd.raw KC.sz).C w2 (if c2 = k then some ad else (some ad).map (·.add (k * 2))) (l.length - k) (cs.drop k)) := HRC
    clear HRB HRC
    generalize (if c2 = k + 1 then some ad else (some ad).map (·.add ((k + 1) * 2))) = AB at *
    generalize (if c2 = k then some ad else (some ad).map (·.add (k * 2))) = AC at *
    have HLA : Aside0 (cs.length = l.length ∧ (cs.take k).length = k ∧ (cs.drop (k + 1)).length = l.length - (k + 1) ∧ (cs.drop k).length = l.length - k) := ⟨hcl, by simp; omega, by simp; omega, by simp; omega⟩
    have HE1 : Aside0 (cs[k] = [.int .i64 (l[k]).1, .slice B (l[k]).2.length c9]) := ⟨e1⟩
    have HK1 : Aside0 ((Kd.raw KC.sz).M w2 0 (fun _ => False) cs[k] cs[k]) := ⟨hkk⟩
    have HKK : Aside0 (KC.K w2 l[k] cs[k]) := ⟨heach.2 k _ _ (List.getElem?_eq_getElem hkl) (List.getElem?_eq_getElem hx)⟩
    rw [e1] at HKK
    have HP1 : Aside0 (∃ h : k < l.length, True) := ⟨hkl, trivial⟩
    have hkl' : (k : Int) < (l.length : Int) := by omega
    have HQ0 := Aside0.mk q0
    have HQ1 := Aside0.mk q1
    have HPM := Aside0.mk (parts_more (pages := (m : Int)) hkl)
    obtain ⟨pk, hpk⟩ : ∃ pk, (l[k]).1 = pk := ⟨_, rfl⟩
    obtain ⟨bk, hbk⟩ : ∃ bk, (l[k]).2.length = bk := ⟨_, rfl⟩
    rw [hpk] at HQ0 HE1
    rw [hbk] at HQ1 HE1 HKK
    rw [hpk] at HKK
    have HREP : Aside0 (∀ (W : World) (b : Nat), Reps ((Kd.raw 2).M W b (fun _ => False)) 2 [[.int .i64 pk, .slice B bk c9]] [.int .i64 pk, .slice B bk c9]) := ⟨fun W b => by
      have h := Reps.snoc (R := (Kd.raw 2).M W b (fun _ => False)) (size := 2) (Reps.none _ _) (p := [.int .i64 pk, .slice B bk c9]) (c := [.int .i64 pk, .slice B bk c9]) ⟨rfl, rfl, fun u hu => by
        simp only [List.mem_cons, List.not_mem_nil, or_false] at hu
        rcases hu with rfl | rfl <;> rfl⟩ rfl
      exact h⟩
    clear hraw heach hkk e1 h2 h3 hraw2 q0 q1
    have B3' := Aside0.mk B3.out.drew
    have hwk : wrap64 ((k : Int) + 1) = (k : Int) + 1 := IntWalk.wrap64_in _ (by omega)
    refine start_ (n := 11) (S := fun w' => True) (ds := [9]) #[false, false, false, false, false, false, false, false, false, false, false] (by kernel_rfl) rfl rfl trivial (fun hHeld => ?_)
    refine pure_ (i := 1) (N := some 40) (v := ?_) (a' := ?_) #[false, true, false, false, false, false, false, false, false, false, false] rfl rfl (by kernel_rfl) (fun _ _ _ h => h) (Or.inl ⟨by rfl, ?_⟩) ?_ ?_
    rotate_left
    · intro w'
      go_simp
      with_reducible rfl
    rotate_left
    · simp only [Act.put, List.setIfInBounds_toArray, List.set_cons_zero, List.set_cons_succ, i64_w, i32_w]
      rfl
    refine pure_ (i := 2) (N := some 41) (v := ?_) (a' := ?_) #[false, true, true, false, false, false, false, false, false, false, false] rfl rfl (by kernel_rfl) (fun _ _ _ h => h) (Or.inl ⟨by rfl, ?_⟩) ?_ ?_
    rotate_left
    · intro w'
      go_simp
      with_reducible rfl
    rotate_left
    · simp only [Act.put, List.setIfInBounds_toArray, List.set_cons_zero, List.set_cons_succ, i64_w, i32_w]
      rfl
    refine pure_ (i := 3) (N := some 42) (v := ?_) (a' := ?_) #[false, true, true, true, false, false, false, false, false, false, false] rfl rfl (by kernel_rfl) (fun _ _ _ h => h) (Or.inl ⟨by rfl, ?_⟩) ?_ ?_
    rotate_left
    · intro w'
      go_simp
      with_reducible rfl
    rotate_left
    · simp only [Act.put, List.setIfInBounds_toArray, List.set_cons_zero, List.set_cons_succ, i64_w, i32_w]
      rfl
    refine pure_ (i := 5) (N := some 44) (v := ?_) (a' := ?_) #[false, true, true, true, false, true, false, false, false, false, false] rfl rfl (by kernel_rfl) (fun _ _ _ h => h) (Or.inl ⟨by rfl, ?_⟩) ?_ ?_
    rotate_left
    · intro w'
      go_simp
      with_reducible rfl
    rotate_left
    · simp only [Act.put, List.setIfInBounds_toArray, List.set_cons_zero, List.set_cons_succ, i64_w, i32_w]
      rfl
    refine pure_ (i := 6) (N := some 45) (v := ?_) (a' := ?_) #[false, true, true, true, false, true, true, false, false, false, false] rfl rfl (by kernel_rfl) (fun _ _ _ h => h) (Or.inl ⟨by rfl, ?_⟩) ?_ ?_
    rotate_left
    · intro w'
      go_simp
      with_reducible rfl
    rotate_left
    · simp only [Act.put, List.setIfInBounds_toArray, List.set_cons_zero, List.set_cons_succ, i64_w, i32_w]
      rfl
    refine pure_ (i := 7) (N := some 46) (v := ?_) (a' := ?_) #[false, true, true, true, false, true, true, true, false, false, false] rfl rfl (by kernel_rfl) (fun _ _ _ h => h) (Or.inl ⟨by rfl, ?_⟩) ?_ ?_
    rotate_left
    · intro w'
      go_simp
      with_reducible rfl
    rotate_left
    · simp only [Act.put, List.setIfInBounds_toArray, List.set_cons_zero, List.set_cons_succ, i64_w, i32_w]
      rfl
    refine pure_ (i := 8) (N := some 47) (v := ?_) (a' := ?_) #[false, true, true, true, false, true, true, true, true, false, false] rfl rfl (by kernel_rfl) (fun _ _ _ h => h) (Or.inl ⟨by rfl, ?_⟩) ?_ ?_
    rotate_left
    · intro w'
      go_simp
      with_reducible rfl
    rotate_left
    · simp only [Act.put, List.setIfInBounds_toArray, List.set_cons_zero, List.set_cons_succ, i64_w, i32_w]
      rfl
    refine one_ (i := 0) (N := some 39) #[true, true, true, true, false, true, true, true, true, false, false] rfl rfl (by kernel_rfl) (by decide) (fun K hK => ?_)
    have B4 := Aside0.mk (B3'.out.rawLit0 2 42)
    refine value_ (w1 := ?_) (v := ?_) (by rfl) rfl ?_ ?_
    rotate_left 2
    · go_simp
      constructor
      · rfl
      · rfl
    refine hK.out _ _ trivial (fun hHeld => ?_)
    clear hK K
    refine norm_ (a' := ?_) ?_ ?_
    rotate_left
    · show Act.put _ (some 39) _ = _
      simp only [Act.put, List.setIfInBounds_toArray, List.set_cons_zero, List.set_cons_succ, i64_w, i32_w]
      rfl
    refine one_ (i := 4) (N := some 43) #[true, true, true, true, true, true, true, true, true, false, false] rfl rfl (by kernel_rfl) (by decide) (fun K hK => ?_)
    refine B4.out.appendRawStep (by rfl) (.tmp 39) (.tmp 42) 43 _ 32 rfl Try.underlying43 infoCh rfl (by decide) (by decide) (some ad) k c2 (by rfl) (by rfl) (Kd.C_below HRA.out B4.out.toBelow) (by have := HLA.out; simp; omega) ?_
    intro v5 w5 hS5
    rw [List.nil_append] at hS5
    have B5 := Aside0.mk hS5
    clear hS5
    refine hK.out _ _ trivial (fun hHeld => ?_)
    clear hK K
    refine norm_ (a' := ?_) ?_ ?_
    rotate_left
    · show Act.put _ (some 43) _ = _
      simp only [Act.put, List.setIfInBounds_toArray, List.set_cons_zero, List.set_cons_succ, i64_w, i32_w]
      rfl
    refine last_ (i := 9) (N := some 48) #[true, true, true, true, true, true, true, true, true, true, false] rfl rfl (by kernel_rfl) (by decide) (fun K hK => ?_)
    refine B5.out.appendRawStep (by rfl) (.tmp 43) (.tmp 47) 43 _ 32 rfl Try.underlying43 infoCh rfl (by decide) (by decide) AB (l.length - (k + 1)) (c2 - (k + 1)) (by rfl) (by rfl) (Kd.C_below HRB'.out B5.out.toBelow) (by have := HLA.out; omega) ?_
    intro v6 w6 hS6
    obtain ⟨A6, c6, rfl⟩ := hS6.rowN (n := l.length - 1) (by have := HLA.out; rw [List.length_append]; omega)
    have B6 := Aside0.mk hS6
    clear hS6
    refine hK.out _ _ ?_
    clear hK K
    refine norm_ (a' := ?_) ?_ ?_
    rotate_left
    · show Act.put _ (some 48) _ = _
      simp only [Act.put, List.setIfInBounds_toArray, List.set_cons_zero, List.set_cons_succ, i64_w, i32_w]
      rfl
    refine pure_ (i := 10) (N := some 10) (v := ?_) (a' := ?_) #[true, true, true, true, true, true, true, true, true, true, true] rfl rfl (by kernel_rfl) (fun _ _ _ h => h) (Or.inl ⟨by rfl, ?_⟩) ?_ ?_
    rotate_left
    · intro w'
      go_simp
      with_reducible rfl
    rotate_left
    · simp only [Act.put, List.setIfInBounds_toArray, List.set_cons_zero, List.set_cons_succ, i64_w, i32_w]
      rfl
    refine done_ (by kernel_rfl) ?_
    clear cutB
    go_wp2_with fail
    have B6' := Aside0.mk B6.out.drew
    have s0 := cell_later B6'.out.toBelow HQ0.out
    have s1 := cell_later B6'.out.toBelow HQ1.out
    refine start_ (n := 16) (S := fun w' => w'.cell? (ad.add (k * 2)) = some (.int .i64 pk) ∧ w'.cell? ⟨(ad.add (k * 2)).block, (ad.add (k * 2)).off + 1, none⟩ = some (.slice B bk c9)) (ds := [14]) #[false, false, false, false, false, false, false, false, false, false, false, false, false, false, false, false] (by kernel_rfl) rfl rfl ⟨s0, s1⟩ (fun hHeld => ?_)
    refine pure_ (i := 1) (N := some 50) (v := ?_) (a' := ?_) #[false, true, false, false, false, false, false, false, false, false, false, false, false, false, false, false] rfl rfl (by kernel_rfl) (fun _ _ _ h => h) (Or.inl ⟨by rfl, ?_⟩) ?_ ?_
    rotate_left
    · intro w'
      go_simp
      with_reducible rfl
    rotate_left
    · simp only [Act.put, List.setIfInBounds_toArray, List.set_cons_zero, List.set_cons_succ, i64_w, i32_w]
      rfl
    refine pure_ (i := 2) (N := some 51) (v := ?_) (a' := ?_) #[false, true, true, false, false, false, false, false, false, false, false, false, false, false, false, false] rfl rfl (by kernel_rfl) (fun _ _ _ h => h) (Or.inl ⟨by rfl, ?_⟩) ?_ ?_
    rotate_left
    · intro w'
      go_simp
      with_reducible rfl
    rotate_left
    · simp only [Act.put, List.setIfInBounds_toArray, List.set_cons_zero, List.set_cons_succ, i64_w, i32_w]
      rfl
    refine pure_ (i := 3) (N := some 52) (v := ?_) (a' := ?_) #[false, true, true, true, false, false, false, false, false, false, false, false, false, false, false, false] rfl rfl (by kernel_rfl) (fun _ _ _ h => h) (Or.inl ⟨by rfl, ?_⟩) ?_ ?_
    rotate_left
    · intro w'
      go_simp
      with_reducible rfl
    rotate_left
    · simp only [Act.put, List.setIfInBounds_toArray, List.set_cons_zero, List.set_cons_succ, i64_w, i32_w]
      rfl
    refine pure_ (i := 5) (N := some 54) (v := ?_) (a' := ?_) #[false, true, true, true, false, true, false, false, false, false, false, false, false, false, false, false] rfl rfl (by kernel_rfl) (fun _ _ _ h => h) (Or.inl ⟨by rfl, ?_⟩) ?_ ?_
    rotate_left
    · intro w'
      go_simp
      with_reducible rfl
    rotate_left
    · simp only [Act.put, List.setIfInBounds_toArray, List.set_cons_zero, List.set_cons_succ, i64_w, i32_w]
      rfl
    refine pure_ (i := 6) (N := some 55) (v := ?_) (a' := ?_) #[false, true, true, true, false, true, true, false, false, false, false, false, false, false, false, false] rfl rfl (by kernel_rfl) (fun _ _ _ h => h) (Or.inl ⟨by rfl, ?_⟩) ?_ ?_
    rotate_left
    · intro w'
      go_simp
      with_reducible rfl
    rotate_left
    · simp only [Act.put, List.setIfInBounds_toArray, List.set_cons_zero, List.set_cons_succ, i64_w, i32_w]
      rfl
    refine pure_ (i := 7) (N := some 56) (v := ?_) (a' := ?_) #[false, true, true, true, false, true, true, true, false, false, false, false, false, false, false, false] rfl rfl (by kernel_rfl) (fun _ _ _ h => h) (Or.inl ⟨by rfl, ?_⟩) ?_ ?_
    rotate_left
    · intro w'
      go_simp
      with_reducible rfl
    rotate_left
    · simp only [Act.put, List.setIfInBounds_toArray, List.set_cons_zero, List.set_cons_succ, i64_w, i32_w]
      rfl
    refine pure_ (i := 11) (N := some 60) (v := ?_) (a' := ?_) #[false, true, true, true, false, true, true, true, false, false, false, true, false, false, false, false] rfl rfl (by kernel_rfl) (fun _ _ _ h => h) (Or.inl ⟨by rfl, ?_⟩) ?_ ?_
    rotate_left
    · intro w'
      go_simp
      with_reducible rfl
    rotate_left
    · simp only [Act.put, List.setIfInBounds_toArray, List.set_cons_zero, List.set_cons_succ, i64_w, i32_w]
      rfl
    refine pure_ (i := 12) (N := some 61) (v := ?_) (a' := ?_) #[false, true, true, true, false, true, true, true, false, false, false, true, true, false, false, false] rfl rfl (by kernel_rfl) (fun _ _ _ h => h) (Or.inl ⟨by rfl, ?_⟩) ?_ ?_
    rotate_left
    · intro w'
      go_simp
      with_reducible rfl
    rotate_left
    · simp only [Act.put, List.setIfInBounds_toArray, List.set_cons_zero, List.set_cons_succ, i64_w, i32_w]
      rfl
    refine pure_ (i := 13) (N := some 62) (v := ?_) (a' := ?_) #[false, true, true, true, false, true, true, true, false, false, false, true, true, true, false, false] rfl rfl (by kernel_rfl) (fun _ _ _ h => h) (Or.inl ⟨by rfl, ?_⟩) ?_ ?_
    rotate_left
    · intro w'
      go_simp
      with_reducible rfl
    rotate_left
    · simp only [Act.put, List.setIfInBounds_toArray, List.set_cons_zero, List.set_cons_succ, i64_w, i32_w]
      rfl
    refine take_ (i := 8) (N := some 57) (v := ?_) (a' := ?_) #[false, true, true, true, false, true, true, true, true, false, false, true, true, true, false, false] rfl rfl (by kernel_rfl) (fun _ _ _ h => h) (Or.inl ⟨by rfl, ?_⟩) hHeld ?_ ?_
    rotate_left
    · rintro w' ⟨s0, s1⟩
      go_simp
      with_reducible rfl
    rotate_left
    · simp only [Act.put, List.setIfInBounds_toArray, List.set_cons_zero, List.set_cons_succ, i64_w, i32_w]
      rfl
    refine join_ (σ := Value × Value × Nat) 3 #[true, true, true, true, true, true, true, true, true, true, false, true, true, true, false, false] (fun s_ => [(49, s_.1), (53, s_.2.1), (58, .slice (some ⟨s_.2.2, 0, none⟩) 1 1)]) (fun s_ w' => (w'.cell? (ad.add (k * 2)) = some (.int .i64 pk) ∧ w'.cell? ⟨(ad.add (k * 2)).block, (ad.add (k * 2)).off + 1, none⟩ = some (.slice B bk c9)) ∧ Sep w2 w' ((Row (Kd.raw 2) 42 (s_.2.1) (cs.take k)) :: (Row (Kd.raw 2) 42 (.slice (some ⟨(s_.2.2), 0, none⟩) 1 1) [[.int .i64 pk, .slice B bk c9]]) :: [Row (Kd.raw 2) 42 (.slice A6 (l.length - 1) c6) (cs.take k ++ cs.drop (k + 1))])) ?_ ?_
    rotate_left
    · intro hJ0_4_9
      refine join_ (σ := Value × Value) 4 #[true, true, true, true, true, true, true, true, true, false, false, true, true, true, false, false] (fun s_ => [(49, s_.1), (53, s_.2)]) (fun s_ w' => (w'.cell? (ad.add (k * 2)) = some (.int .i64 pk) ∧ w'.cell? ⟨(ad.add (k * 2)).block, (ad.add (k * 2)).off + 1, none⟩ = some (.slice B bk c9)) ∧ Sep w2 w' ((Row (Kd.raw 2) 42 (s_.2) (cs.take k)) :: [Row (Kd.raw 2) 42 (.slice A6 (l.length - 1) c6) (cs.take k ++ cs.drop (k + 1))])) ?_ ?_
      rotate_left
      · intro hJ0_4
        refine join_ (σ := Value × Nat) 4 #[true, true, true, true, false, true, true, true, true, true, false, true, true, true, false, false] (fun s_ => [(49, s_.1), (58, .slice (some ⟨s_.2, 0, none⟩) 1 1)]) (fun s_ w' => (w'.cell? (ad.add (k * 2)) = some (.int .i64 pk) ∧ w'.cell? ⟨(ad.add (k * 2)).block, (ad.add (k * 2)).off + 1, none⟩ = some (.slice B bk c9)) ∧ Sep w2 w' ((Row (Kd.raw 2) 42 (s_.1) []) :: (Row (Kd.raw 2) 42 (.slice (some ⟨(s_.2), 0, none⟩) 1 1) [[.int .i64 pk, .slice B bk c9]]) :: [Row (Kd.raw 2) 42 (.slice A6 (l.length - 1) c6) (cs.take k ++ cs.drop (k + 1))])) ?_ ?_
        rotate_left
        · intro hJ0_9
          refine join_ (σ := Value) 5 #[true, true, true, true, false, true, true, true, true, false, false, true, true, true, false, false] (fun s_ => [(49, s_)]) (fun s_ w' => (w'.cell? (ad.add (k * 2)) = some (.int .i64 pk) ∧ w'.cell? ⟨(ad.add (k * 2)).block, (ad.add (k * 2)).off + 1, none⟩ = some (.slice B bk c9)) ∧ Sep w2 w' ((Row (Kd.raw 2) 42 (s_) []) :: [Row (Kd.raw 2) 42 (.slice A6 (l.length - 1) c6) (cs.take k ++ cs.drop (k + 1))])) ?_ ?_
          rotate_left
          · intro hJ0
            refine join_ (σ := Nat) 5 #[false, true, true, true, false, true, true, true, true, true, false, true, true, true, false, false] (fun s_ => [(58, .slice (some ⟨s_, 0, none⟩) 1 1)]) (fun s_ w' => (w'.cell? (ad.add (k * 2)) = some (.int .i64 pk) ∧ w'.cell? ⟨(ad.add (k * 2)).block, (ad.add (k * 2)).off + 1, none⟩ = some (.slice B bk c9)) ∧ Sep w2 w' ((Row (Kd.raw 2) 42 (.slice (some ⟨(s_), 0, none⟩) 1 1) [[.int .i64 pk, .slice B bk c9]]) :: [Row (Kd.raw 2) 42 (.slice A6 (l.length - 1) c6) (cs.take k ++ cs.drop (k + 1))])) ?_ ?_
            rotate_left
            · intro hJ9
              refine two_ (i := 0) (j := 9) (Ni := some 49) (Nj := some 58) #[true, true, true, true, false, true, true, true, true, false, false, true, true, true, false, false] #[false, true, true, true, false, true, true, true, true, true, false, true, true, true, false, false] rfl rfl rfl rfl (by kernel_rfl) (by decide) (by decide) (fun K hK => ?_) (fun K hK => ?_)
              · skip
                refine value_ (w1 := ?_) (v := ?_) (by rfl) rfl ?_ ?_
                rotate_left 2
                · go_simp
                  constructor
                  · rfl
                  · rfl
                have hN := (B6'.out).rawLit0 2 42
                refine hK.out _ _ ⟨cell_later (hN.tail).toBelow HQ0.out, cell_later (hN.tail).toBelow HQ1.out⟩ (fun hHeld => ?_)
                clear hK K
                refine norm_ (a' := ?_) ?_ ?_
                rotate_left
                · show Act.put _ (some 49) _ = _
                  simp only [Act.put, List.setIfInBounds_toArray, List.set_cons_zero, List.set_cons_succ, i64_w, i32_w]
                  rfl
                exact norm_ (by first | (simp only [putAll, Act.put, List.setIfInBounds_toArray, List.set_cons_zero, List.set_cons_succ]; done) | (simp only [putAll, Act.put, List.setIfInBounds_toArray, List.set_cons_zero, List.set_cons_succ]; rfl)) (hJ0 (.slice (some ⟨(w6.drew).heap.size, 0, none⟩) 0 0) _ ⟨hHeld, hN⟩)
              · skip
                refine value_ (w1 := ?_) (v := ?_) (by rfl) rfl ?_ ?_
                rotate_left 2
                · go_simp
                  constructor
                  · rfl
                  · rfl
                have hN := (B6'.out).newLit (d := Kd.raw 2) (xs := [[.int .i64 pk, .slice B bk c9]]) (inner := [.int .i64 pk, .slice B bk c9]) (e := 42) (HREP.out _ _) (by simp)
                refine hK.out _ _ ⟨cell_later (hN.tail).toBelow HQ0.out, cell_later (hN.tail).toBelow HQ1.out⟩ (fun hHeld => ?_)
                clear hK K
                refine norm_ (a' := ?_) ?_ ?_
                rotate_left
                · show Act.put _ (some 58) _ = _
                  simp only [Act.put, List.setIfInBounds_toArray, List.set_cons_zero, List.set_cons_succ, i64_w, i32_w]
                  rfl
                exact norm_ (by first | (simp only [putAll, Act.put, List.setIfInBounds_toArray, List.set_cons_zero, List.set_cons_succ]; done) | (simp only [putAll, Act.put, List.setIfInBounds_toArray, List.set_cons_zero, List.set_cons_succ]; rfl)) (hJ9 (w6.drew).heap.size _ ⟨hHeld, hN⟩)
            · skip
              rintro v9_ W_ ⟨hS_, hQ_⟩
              have hSep : Aside0 (Sep w2 W_ ((Row (Kd.raw 2) 42 (.slice (some ⟨(v9_), 0, none⟩) 1 1) [[.int .i64 pk, .slice B bk c9]]) :: [Row (Kd.raw 2) 42 (.slice A6 (l.length - 1) c6) (cs.take k ++ cs.drop (k + 1))])) := ⟨hQ_⟩
              clear hQ_
              have hHeld : W_.cell? (ad.add (k * 2)) = some (.int .i64 pk) ∧ W_.cell? ⟨(ad.add (k * 2)).block, (ad.add (k * 2)).off + 1, none⟩ = some (.slice B bk c9) := hS_
              refine norm_ (a' := ?_) ?_ ?_
              rotate_left
              · simp only [putAll, Act.put, List.setIfInBounds_toArray, List.set_cons_zero, List.set_cons_succ]
                rfl
              refine one_ (i := 0) (N := some 49) #[true, true, true, true, false, true, true, true, true, true, false, true, true, true, false, false] rfl rfl (by kernel_rfl) (by decide) (fun K hK => ?_)
              refine value_ (w1 := ?_) (v := ?_) (by rfl) rfl ?_ ?_
              rotate_left 2
              · go_simp
                constructor
                · rfl
                · rfl
              have hN := (hSep.out).rawLit0 2 42
              refine hK.out _ _ ⟨cell_later (hN.tail.tail).toBelow HQ0.out, cell_later (hN.tail.tail).toBelow HQ1.out⟩ (fun hHeld => ?_)
              clear hK K
              refine norm_ (a' := ?_) ?_ ?_
              rotate_left
              · show Act.put _ (some 49) _ = _
                simp only [Act.put, List.setIfInBounds_toArray, List.set_cons_zero, List.set_cons_succ, i64_w, i32_w]
                rfl
              exact norm_ (by first | (simp only [putAll, Act.put, List.setIfInBounds_toArray, List.set_cons_zero, List.set_cons_succ]; done) | (simp only [putAll, Act.put, List.setIfInBounds_toArray, List.set_cons_zero, List.set_cons_succ]; rfl)) (hJ0_9 (.slice (some ⟨(W_).heap.size, 0, none⟩) 0 0, v9_) _ ⟨hHeld, hN⟩)
          · skip
            rintro v0_ W_ ⟨hS_, hQ_⟩
            have hSep : Aside0 (Sep w2 W_ ((Row (Kd.raw 2) 42 (v0_) []) :: [Row (Kd.raw 2) 42 (.slice A6 (l.length - 1) c6) (cs.take k ++ cs.drop (k + 1))])) := ⟨hQ_⟩
            clear hQ_
            have hHeld : W_.cell? (ad.add (k * 2)) = some (.int .i64 pk) ∧ W_.cell? ⟨(ad.add (k * 2)).block, (ad.add (k * 2)).off + 1, none⟩ = some (.slice B bk c9) := hS_
            refine norm_ (a' := ?_) ?_ ?_
            rotate_left
            · simp only [putAll, Act.put, List.setIfInBounds_toArray, List.set_cons_zero, List.set_cons_succ]
              rfl
            refine two_ (i := 4) (j := 9) (Ni := some 53) (Nj := some 58) #[true, true, true, true, true, true, true, true, true, false, false, true, true, true, false, false] #[true, true, true, true, false, true, true, true, true, true, false, true, true, true, false, false] rfl rfl rfl rfl (by kernel_rfl) (by decide) (by decide) (fun K hK => ?_) (fun K hK => ?_)
            · skip
              refine ((hSep.out)).appendRawStep (by rfl) (.tmp 49) (.tmp 52) 43 _ 32 rfl Try.underlying43 infoCh rfl (by decide) (by decide) (some ad) k c2 (by rfl) (by rfl) (Kd.C_below HRA.out ((hSep.out)).toBelow) (by have := HLA.out; simp; omega) ?_
              intro vn_ wn_ hN
              rw [List.nil_append] at hN
              refine hK.out _ _ ⟨cell_later (hN.tail).toBelow HQ0.out, cell_later (hN.tail).toBelow HQ1.out⟩ (fun hHeld => ?_)
              clear hK K
              refine norm_ (a' := ?_) ?_ ?_
              rotate_left
              · show Act.put _ (some 53) _ = _
                simp only [Act.put, List.setIfInBounds_toArray, List.set_cons_zero, List.set_cons_succ, i64_w, i32_w]
                rfl
              exact norm_ (by first | (simp only [putAll, Act.put, List.setIfInBounds_toArray, List.set_cons_zero, List.set_cons_succ]; done) | (simp only [putAll, Act.put, List.setIfInBounds_toArray, List.set_cons_zero, List.set_cons_succ]; rfl)) (hJ0_4 (v0_, vn_) _ ⟨hHeld, hN⟩)
            · skip
              refine value_ (w1 := ?_) (v := ?_) (by rfl) rfl ?_ ?_
              rotate_left 2
              · go_simp
                constructor
                · rfl
                · rfl
              have hN := (hSep.out).newLit (d := Kd.raw 2) (xs := [[.int .i64 pk, .slice B bk c9]]) (inner := [.int .i64 pk, .slice B bk c9]) (e := 42) (HREP.out _ _) (by simp)
              refine hK.out _ _ ⟨cell_later (hN.tail.tail).toBelow HQ0.out, cell_later (hN.tail.tail).toBelow HQ1.out⟩ (fun hHeld => ?_)
              clear hK K
              refine norm_ (a' := ?_) ?_ ?_
              rotate_left
              · show Act.put _ (some 58) _ = _
                simp only [Act.put, List.setIfInBounds_toArray, List.set_cons_zero, List.set_cons_succ, i64_w, i32_w]
                rfl
              exact norm_ (by first | (simp only [putAll, Act.put, List.setIfInBounds_toArray, List.set_cons_zero, List.set_cons_succ]; done) | (simp only [putAll, Act.put, List.setIfInBounds_toArray, List.set_cons_zero, List.set_cons_succ]; rfl)) (hJ0_9 (v0_, (W_).heap.size) _ ⟨hHeld, hN.at2⟩)
        · skip
          rintro ⟨v0_, v9_⟩ W_ ⟨hS_, hQ_⟩
          have hSep : Aside0 (Sep w2 W_ ((Row (Kd.raw 2) 42 (v0_) []) :: (Row (Kd.raw 2) 42 (.slice (some ⟨(v9_), 0, none⟩) 1 1) [[.int .i64 pk, .slice B bk c9]]) :: [Row (Kd.raw 2) 42 (.slice A6 (l.length - 1) c6) (cs.take k ++ cs.drop (k + 1))])) := ⟨hQ_⟩
          clear hQ_
          have hHeld : W_.cell? (ad.add (k * 2)) = some (.int .i64 pk) ∧ W_.cell? ⟨(ad.add (k * 2)).block, (ad.add (k * 2)).off + 1, none⟩ = some (.slice B bk c9) := hS_
          refine norm_ (a' := ?_) ?_ ?_
          rotate_left
          · simp only [putAll, Act.put, List.setIfInBounds_toArray, List.set_cons_zero, List.set_cons_succ]
            rfl
          refine one_ (i := 4) (N := some 53) #[true, true, true, true, true, true, true, true, true, true, false, true, true, true, false, false] rfl rfl (by kernel_rfl) (by decide) (fun K hK => ?_)
          refine ((hSep.out)).appendRawStep (by rfl) (.tmp 49) (.tmp 52) 43 _ 32 rfl Try.underlying43 infoCh rfl (by decide) (by decide) (some ad) k c2 (by rfl) (by rfl) (Kd.C_below HRA.out ((hSep.out)).toBelow) (by have := HLA.out; simp; omega) ?_
          intro vn_ wn_ hN
          rw [List.nil_append] at hN
          refine hK.out _ _ ⟨cell_later (hN.tail.tail).toBelow HQ0.out, cell_later (hN.tail.tail).toBelow HQ1.out⟩ (fun hHeld => ?_)
          clear hK K
          refine norm_ (a' := ?_) ?_ ?_
          rotate_left
          · show Act.put _ (some 53) _ = _
            simp only [Act.put, List.setIfInBounds_toArray, List.set_cons_zero, List.set_cons_succ, i64_w, i32_w]
            rfl
          exact norm_ (by first | (simp only [putAll, Act.put, List.setIfInBounds_toArray, List.set_cons_zero, List.set_cons_succ]; done) | (simp only [putAll, Act.put, List.setIfInBounds_toArray, List.set_cons_zero, List.set_cons_succ]; rfl)) (hJ0_4_9 (v0_, vn_, v9_) _ ⟨hHeld, hN⟩)
      · skip
        rintro ⟨v0_, v4_⟩ W_ ⟨hS_, hQ_⟩
        have hSep : Aside0 (Sep w2 W_ ((Row (Kd.raw 2) 42 (v4_) (cs.take k)) :: [Row (Kd.raw 2) 42 (.slice A6 (l.length - 1) c6) (cs.take k ++ cs.drop (k + 1))])) := ⟨hQ_⟩
        clear hQ_
        have hHeld : W_.cell? (ad.add (k * 2)) = some (.int .i64 pk) ∧ W_.cell? ⟨(ad.add (k * 2)).block, (ad.add (k * 2)).off + 1, none⟩ = some (.slice B bk c9) := hS_
        refine norm_ (a' := ?_) ?_ ?_
        rotate_left
        · simp only [putAll, Act.put, List.setIfInBounds_toArray, List.set_cons_zero, List.set_cons_succ]
          rfl
        refine one_ (i := 9) (N := some 58) #[true, true, true, true, true, true, true, true, true, true, false, true, true, true, false, false] rfl rfl (by kernel_rfl) (by decide) (fun K hK => ?_)
        refine value_ (w1 := ?_) (v := ?_) (by rfl) rfl ?_ ?_
        rotate_left 2
        · go_simp
          constructor
          · rfl
          · rfl
        have hN := (hSep.out).newLit (d := Kd.raw 2) (xs := [[.int .i64 pk, .slice B bk c9]]) (inner := [.int .i64 pk, .slice B bk c9]) (e := 42) (HREP.out _ _) (by simp)
        refine hK.out _ _ ⟨cell_later (hN.tail.tail).toBelow HQ0.out, cell_later (hN.tail.tail).toBelow HQ1.out⟩ (fun hHeld => ?_)
        clear hK K
        refine norm_ (a' := ?_) ?_ ?_
        rotate_left
        · show Act.put _ (some 58) _ = _
          simp only [Act.put, List.setIfInBounds_toArray, List.set_cons_zero, List.set_cons_succ, i64_w, i32_w]
          rfl
        exact norm_ (by first | (simp only [putAll, Act.put, List.setIfInBounds_toArray, List.set_cons_zero, List.set_cons_succ]; done) | (simp only [putAll, Act.put, List.setIfInBounds_toArray, List.set_cons_zero, List.set_cons_succ]; rfl)) (hJ0_4_9 (v0_, v4_, (W_).heap.size) _ ⟨hHeld, hN.at2⟩)
    rintro ⟨v0_, v4_, v9_⟩ W_ ⟨hS_, hQ_⟩
    have hSep : Aside0 (Sep w2 W_ ((Row (Kd.raw 2) 42 (v4_) (cs.take k)) :: (Row (Kd.raw 2) 42 (.slice (some ⟨(v9_), 0, none⟩) 1 1) [[.int .i64 pk, .slice B bk c9]]) :: [Row (Kd.raw 2) 42 (.slice A6 (l.length - 1) c6) (cs.take k ++ cs.drop (k + 1))])) := ⟨hQ_⟩
    clear hQ_
    have hHeld : W_.cell? (ad.add (k * 2)) = some (.int .i64 pk) ∧ W_.cell? ⟨(ad.add (k * 2)).block, (ad.add (k * 2)).off + 1, none⟩ = some (.slice B bk c9) := hS_
    refine norm_ (a' := ?_) ?_ ?_
    rotate_left
    · simp only [putAll, Act.put, List.setIfInBounds_toArray, List.set_cons_zero, List.set_cons_succ]
      rfl
    refine one_ (i := 10) (N := some 59) #[true, true, true, true, true, true, true, true, true, true, true, true, true, true, false, false] rfl rfl (by kernel_rfl) (by decide) (fun K hK => ?_)
    refine hSep.out.appendRawStep (by rfl) (.tmp 53) (.tmp 58) 43 _ 32 rfl Try.underlying43 infoCh rfl (by decide) (by decide) (some ⟨v9_, 0, none⟩) 1 1 (by rfl) (by rfl) hSep.out.at2.rowC.2.2 (by have := HLA.out; simp; omega) ?_
    intro v10 w10 hS10
    have B10 := Aside0.mk hS10.drop2
    clear hS10
    refine hK.out _ _ ⟨cell_later B10.out.toBelow HQ0.out, cell_later B10.out.toBelow HQ1.out⟩ (fun hHeld => ?_)
    clear hK K
    refine norm_ (a' := ?_) ?_ ?_
    rotate_left
    · show Act.put _ (some 59) _ = _
      simp only [Act.put, List.setIfInBounds_toArray, List.set_cons_zero, List.set_cons_succ, i64_w, i32_w]
      rfl
    refine last_ (i := 14) (N := some 63) #[true, true, true, true, true, true, true, true, true, true, true, true, true, true, true, false] rfl rfl (by kernel_rfl) (by decide) (fun K hK => ?_)
    refine B10.out.appendRawStep (by rfl) (.tmp 59) (.tmp 62) 43 _ 32 rfl Try.underlying43 infoCh rfl (by decide) (by decide) AC (l.length - k) (c2 - k) (by rfl) (by rfl) (Kd.C_below HRC'.out B10.out.toBelow) (by have := HLA.out; simp; omega) ?_
    intro v14 w14 hS14
    obtain ⟨A14, c14, rfl⟩ := hS14.rowN (n := l.length + 1) (by have := HLA.out; simp; omega)
    have B14 := Aside0.mk hS14
    clear hS14
    refine hK.out _ _ ?_
    clear hK K
    refine norm_ (a' := ?_) ?_ ?_
    rotate_left
    · show Act.put _ (some 63) _ = _
      simp only [Act.put, List.setIfInBounds_toArray, List.set_cons_zero, List.set_cons_succ, i64_w, i32_w]
      rfl
    refine pure_ (i := 15) (N := some 11) (v := ?_) (a' := ?_) #[true, true, true, true, true, true, true, true, true, true, true, true, true, true, true, true] rfl rfl (by kernel_rfl) (fun _ _ _ h => h) (Or.inl ⟨by rfl, ?_⟩) ?_ ?_
    rotate_left
    · intro w'
      go_simp
      with_reducible rfl
    rotate_left
    · simp only [Act.put, List.setIfInBounds_toArray, List.set_cons_zero, List.set_cons_succ, i64_w, i32_w]
      rfl
    refine done_ (by kernel_rfl) ?_
    clear cutA cutC s0 s1
    go_wp2_with fail
    have HDL := Aside0.mk (right_len HR.out)
    refine (bytes_ (Kd.C_below HC2.out B14.out.toBelow) (by have := HDL.out; omega)).mono ?_
    rintro e w15 ⟨v15, rfl, hS15⟩
    obtain ⟨A15, c15, rfl⟩ := hS15.rowV
    have L15 := Aside0.mk ((B14.out.lift1 hS15).litRow (enc := Value.int .u8) (h1 := fun _ => rfl) (e := 5) [0] (by decide)).at2
    clear hS15
    go_wp2_with (first | (refine gate_builtin (b := .append) (xs := #[.tmp 66, .tmp 67]) rfl ?_; go_loud (refine L15.out.appendRow rfl (.tmp 66) (.tmp 67) 22 (.int .u8 0) 1 rfl Try.underlying22 infoB rfl (by decide) (some ⟨w15.heap.size, 0, none⟩) 1 1 rfl rfl L15.out.at2.rowC.2.2 (by have := HDL.out; simp; omega) ?_; intro v16 w16 hS16; obtain ⟨A16, c16, rfl⟩ := hS16.rowN (n := (deltaF l).length + 1) (by simp); have B16 := Aside0.mk hS16.drop2; clear hS16)))
    refine (read_ (b := deltaF l ++ [0]) (n := (deltaF l).length + 1) B16.out.rowC' B16.out.rowC.2.1 (HB.out.app one0) (by have := HDL.out; omega) (m : Int)).mono ?_
    rintro e w17 ⟨v17, rfl, hS17⟩
    rw [parts_one HR.out] at hS17 ⊢
    have B17 := Aside0.mk (B16.out.lift1 hS17)
    have HEL := Aside0.mk (((Each.below HE.out B17.out.toBelow).take k).app ((Each.below HE.out B17.out.toBelow).drop (k + 1)))
    have HEM : Aside0 (Each KC (l.take k ++ [l[k]] ++ l.drop k) (cs.take k ++ [[.int .i64 pk, .slice B bk c9]] ++ cs.drop k) w17) := ⟨(((Each.below HE.out B17.out.toBelow).take k).snoc (KC.K_below B17.out.toBelow HKK.out)).app ((Each.below HE.out B17.out.toBelow).drop k)⟩
    have HLESS := Aside0.mk (raw_C B17.out.at4.rowC' HEL.out)
    have HMORE := Aside0.mk (raw_C B17.out.at3.rowC' HEM.out)
    have HC17 := Aside0.mk (Kd.C_below HC2.out B17.out.toBelow)
    clear hS17
    go_wp2_with fail
    refine (right_ HLESS.out (m : Int)).mono ?_
    rintro e w18 ⟨rfl, hb18⟩
    rw [parts_less HR.out k]
    have B18 := Aside0.mk (B17.out.below hb18)
    have HL18 := Aside0.mk (Kd.C_below HLESS.out hb18)
    have HM18 := Aside0.mk (Kd.C_below HMORE.out hb18)
    have HC18 := Aside0.mk (Kd.C_below HC17.out hb18)
    clear hb18
    go_wp2_with fail
    refine (right_ HM18.out (m : Int)).mono ?_
    rintro e w19 ⟨rfl, hb19⟩
    rw [HPM.out]
    have B19 := Aside0.mk (B18.out.below hb19)
    have HL19 := Aside0.mk (Kd.C_below HL18.out hb19)
    have HC19 := Aside0.mk (Kd.C_below HC18.out hb19)
    clear hb19
    obtain ⟨N, hN⟩ : ∃ N, l.length = N + 1 := ⟨l.length - 1, by omega⟩
    obtain ⟨hxN, adN, BN, cN, hadN, y0, -, -, -⟩ := elem2_ HC19.out (show N < l.length by omega)
    cases hadN
    have hPL := Aside0.mk (parts_last hxN)
    obtain ⟨pl, hpl⟩ : ∃ pl, (l[N]).1 = pl := ⟨_, rfl⟩
    rw [hpl] at y0 hPL
    have hNl : (N : Int) < (l.length : Int) := by omega
    have hsub : (l.length : Int) - 1 = (N : Int) := by omega
    have hwl : wrap64 ((l.length : Int) - 1) = (N : Int) := by rw [IntWalk.wrap64_in _ (by omega)]; omega
    have hwn : wrap64 (N : Int) = (N : Int) := IntWalk.wrap64_in _ (by omega)
    clear hN hpl
    go_wp2_with fail
    refine (right_ HC19.out pl).mono ?_
    rintro e w20 ⟨rfl, hb20⟩
    rw [hPL.out]
    have B20 := Aside0.mk (B19.out.below hb20)
    have HL20 := Aside0.mk (Kd.C_below HL19.out hb20)
    have HC20 := Aside0.mk (Kd.C_below HC19.out hb20)
    clear hb20 y0 hsub hwl hwn
    go_wp2_with fail
    refine (same_ HC20.out HL20.out).mono ?_
    rintro e w21 ⟨rfl, hb21⟩
    rw [decide_eq_false (fun h => by
      have h2 := congrArg List.length h
      rw [List.length_append, List.length_take, List.length_drop] at h2
      omega)]
    have B21 := Aside0.mk (B20.out.below hb21)
    clear hb21
    go_wp2_with fail
    refine (known_ _).mono ?_
    rintro e w22 ⟨rfl, hb22⟩
    go_wp2_with fail
    go_ret
    exact ⟨by first | rfl | (simp; done), (HW2.out.lift (R := []) ((Sep.weak (L := [_, _, _, _]) (F := []) B21.out).below hb22)).toBelow⟩
end Go.Proofs.Ytkcinjimjehcnaa.Delta
