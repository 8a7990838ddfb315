/- HealCounts, Open, WSized: what HealCounts needs. -/
import Derived.Test.YtjngnigelkgekaaGreatThealCounts28
import Derived.Test.YtjngnigelkgekaaGreatProg
import Derived.WalkKit
import Derived.ProofKit
import Derived.OpenShut
import Derived.ShutString
import Derived.ChangeOld
import Derived.Below
import Derived.SizedLaws
import Derived.ChangeSlices
set_option linter.unusedVariables false
set_option linter.unusedSimpArgs false
namespace Go.Proofs.YtjngnigelkgekaaGreat.Heal
open Go.RowKit Go.Proofs.YtjngnigelkgekaaGreatW.PrintWords Go.Proofs.YtjngnigelkgekaaGreatW.PrintLast Go.Proofs.YtjngnigelkgekaaGreatW.PrintMore Go.Proofs.YtjngnigelkgekaaGreat.Kit Go.Proofs.YtjngnigelkgekaaGreat.Plain Go.Proofs.YtjngnigelkgekaaGreat.Disk Go.Proofs.YtjngnigelkgekaaGreat.Root
open Go.Proofs.YtjngnigelkgekaaGreat.RStore
open Go.Proofs.YtjngnigelkgekaaGreat.Deed
open Go.Proofs.YtjngnigelkgekaaGreat.Home (RT RTL pair19_)
theorem strE9 {w0 W : World} {F : List HP} {v : Value} {xs : List Int} {s : ByteArray} (h : Sep w0 W (Row U8 5 v xs :: F)) (hs : strOfNums xs = s) : (convert 24 9 v).run Tryz.prog W = .ok (.string s) W := by
  obtain ⟨A, c, rfl⟩ := h.rowV
  rw [← hs]
  exact Str.strC h.rowC'
set_option maxHeartbeats 3200000 in
set_option maxRecDepth 100000 in
theorem healCounts_ {A1 : Option Addr} {n1 c1 : Nat} {tp : List Int} {nn : Int} {w : World} (h1 : I64.C w A1 n1 tp) :
    Calls Tryz.prog 6 #[.slice A1 n1 c1, .int .i64 nn] w fun e w' => e = .returned (.bool true) ∧ Below w.heap.size w w' := by
  have H1 := Aside0.mk h1
  clear h1
  go_enter Tryz.func6, Tryz.ntmps6
  go_wp2_with fail
  refine (made_ H1.out (c2 := 0) (Kd.C_nil I64 _)).mono ?_
  rintro e w1 ⟨g, gr, L, rfl, hk1, hS1⟩
  have HK := Aside0.mk hk1
  have B1 := Aside0.mk hS1
  obtain ⟨N6, hN6⟩ : ∃ x, 64 * 24 = x := ⟨_, rfl⟩
  have HL : Aside0 (L.length = N6) := ⟨by rw [← hN6]; exact hk1.len⟩
  have HN6 := Aside0.mk hN6
  have h68 := (ds_ok hk1 (by decide)).2
  obtain ⟨D, hD⟩ : ∃ x, dsOf 24 L (fun _ => none) = x := ⟨_, rfl⟩
  have HD := Aside0.mk hD
  rw [hD] at h68
  obtain ⟨N, hN⟩ : ∃ x, D.length = x := ⟨_, rfl⟩
  rw [hN] at h68
  have HN := Aside0.mk hN
  clear hk1 hS1 hN6 hD hN
  go_wp2_with fail
  refine (Disk.image_ B1.out).mono ?_
  rintro e w2 ⟨v2, rfl, hS2⟩
  obtain ⟨A2, c2, rfl⟩ := hS2.rowN HL.out
  have hc2 := hS2.rowC.2.1
  have B2 := Aside0.mk hS2
  have HC2 := Aside0.mk hc2
  clear hS2 hc2
  go_wp2_with fail
  refine (Disk.of_ok (n := 24) B2.out.rowC' HC2.out HN6.out.symm (by decide) (by decide)).mono ?_
  rintro e w3 ⟨g3, rfl, hS3⟩
  have B3 : Aside0 (Sep w w3 [Dsk g L (fun _ => none), Dsk g3 L (fun _ => none)]) := ⟨Sep.weakR (L := [_, _]) ((Sep.pull [_, _] (B2.out.lift1 hS3)))⟩
  clear hS3
  go_wp2_with fail
  refine (hDeedsN (N := N) B3.out HK.out (by decide) (by rw [HD.out, HN.out])).mono ?_
  rintro e w4 ⟨rfl, hS4⟩
  have B4 := Aside0.mk hS4
  clear hS4
  go_wp2_with fail
  have hlg := Book.withinF_in (n := nn) (lo := 0) (hi := 20) (by decide)
  refine (Book.within_ nn 0 20 _ (by decide) (by decide) (by decide)).mono ?_
  rintro e w5 ⟨rfl, rfl⟩
  obtain ⟨k, hk⟩ := Int.eq_ofNat_of_zero_le (show 0 ≤ Book.withinF nn 0 20 by omega)
  rw [hk] at hlg ⊢
  have HK20 : Aside0 (k ≤ 20) := ⟨by omega⟩
  clear hk hlg
  go_wp2_with fail
  refine (Disk.image_ B4.out).mono ?_
  rintro e w6 ⟨v6, rfl, hS6⟩
  obtain ⟨A6, c6, rfl⟩ := hS6.rowN HL.out
  have hc6 := hS6.rowC.2.1
  have B6 := Aside0.mk hS6
  have HC6 := Aside0.mk hc6
  clear hS6 hc6
  go_wp2_with fail
  refine (Disk.of_ok (n := 24) B6.out.rowC' HC6.out HN6.out.symm (by decide) (by decide)).mono ?_
  rintro e w7 ⟨g7, rfl, hS7⟩
  have B7 : Aside0 (Sep w w7 [Dsk g7 L (fun _ => none), Dsk g L (fun _ => none), Dsk g3 L (fun _ => none)]) := ⟨(Sep.pull [_] (B6.out.lift1 hS7)).tail⟩
  clear hS7
  have HPK : Aside0 (partK (k : Int) N = min k N ∧ partK (N : Int) N = N) := ⟨by unfold partK; omega⟩
  obtain ⟨K2, hK2⟩ : ∃ x, min k N = x := ⟨_, rfl⟩
  have hmin : min (k : Int) (N : Int) = (K2 : Int) := by omega
  rw [hK2] at HPK
  go_wp2_with fail
  refine (hPartN (N := N) (k := K2) (T := runD (L, fun _ => none) (D.take K2)) B7.out HK.out (by decide) (k : Int) (by rw [HD.out, HN.out]) HPK.out.1 (by rw [HD.out])).mono ?_
  rintro e w8 ⟨rfl, hS8⟩
  have B8 := Aside0.mk hS8.tail
  clear hS8
  go_wp2_with fail
  refine (hPartN (N := N) (k := N) (T := runD (L, fun _ => none) D) B8.out HK.out (by decide) (N : Int) (by rw [HD.out, HN.out]) HPK.out.2 (by rw [HD.out, ← HN.out, List.take_length])).mono ?_
  rintro e w9 ⟨rfl, hS9⟩
  have B9 := Aside0.mk hS9.at2
  clear hS9 hmin hK2
  go_wp2_with fail
  rcases open_cases HK.out (by decide) with ⟨er, hno⟩ | ⟨a, b, E, ha, he⟩
  · have HNO := Aside0.mk hno
    have hne := hno.ne
    have he1 : ¬ er = 0 := by omega
    have HD0 : Aside0 (D = [] ∧ N = 0) := ⟨by
      have h1 : D = [] := by rw [← HD.out]; exact ds_no hno
      exact ⟨h1, by rw [← HN.out, h1]; rfl⟩⟩
    have hN0 := HD0.out.2
    subst hN0
    clear hno
    refine (sopen_nil B9.out HK.out (by decide) HNO.out).mono ?_
    rintro e w10 ⟨rfl, hS10⟩
    rw [HD0.out.1] at hS10
    have B10 : Aside0 (Sep w w10.drew [Dsk g3 L (fun _ => none), Dsk g L (fun _ => none)]) := ⟨hS10.drew⟩
    clear hS10
    have hed : decide (er = 0) = false := decide_eq_false he1
    have heb : (er == 0) = false := by simp [he1]
    have htt : ((false : Bool) == false) = true := rfl
    obtain ⟨sl, hsl⟩ : ∃ s, strOfNums L = s := ⟨_, rfl⟩
    have HSL := Aside0.mk hsl
    have hss : (sl.toList == sl.toList) = true := by simp
    clear hsl
    go_wp2_with fail
    refine start_ (n := 18) (S := fun w' => True) (ds := []) #[false, false, false, false, false, false, false, false, false, false, false, false, false, false, false, false, false, false] (by kernel_rfl) rfl rfl trivial (fun hHeld => ?_)
    refine pure_ (i := 0) (N := some 53) (v := ?_) (a' := ?_) #[true, false, false, false, false, false, false, false, false, false, false, false, false, false, false, false, false, false] rfl rfl (by kernel_rfl) (fun _ _ _ h => h) (Or.inl ⟨by rfl, ?_⟩) ?_ ?_
    rotate_left
    · intro w'
      go_simp
      with_reducible rfl
    rotate_left
    · simp only [Act.put, sIB, sCz, sCs, i64_w, i32_w]
      rfl
    refine pure_ (i := 1) (N := some 54) (v := ?_) (a' := ?_) #[true, true, false, false, false, false, false, false, false, false, false, false, false, false, false, false, false, false] rfl rfl (by kernel_rfl) (fun _ _ _ h => h) (Or.inl ⟨by rfl, ?_⟩) ?_ ?_
    rotate_left
    · intro w'
      go_simp
      with_reducible rfl
    rotate_left
    · simp only [Act.put, sIB, sCz, sCs, i64_w, i32_w]
      rfl
    refine pure_ (i := 2) (N := some 55) (v := ?_) (a' := ?_) #[true, true, true, false, false, false, false, false, false, false, false, false, false, false, false, false, false, false] rfl rfl (by kernel_rfl) (fun _ _ _ h => h) (Or.inl ⟨by rfl, ?_⟩) ?_ ?_
    rotate_left
    · intro w'
      go_simp
      with_reducible rfl
    rotate_left
    · simp only [Act.put, sIB, sCz, sCs, i64_w, i32_w]
      rfl
    refine pure_ (i := 3) (N := some 56) (v := ?_) (a' := ?_) #[true, true, true, true, false, false, false, false, false, false, false, false, false, false, false, false, false, false] rfl rfl (by kernel_rfl) (fun _ _ _ h => h) (Or.inl ⟨by rfl, ?_⟩) ?_ ?_
    rotate_left
    · intro w'
      go_simp
      with_reducible rfl
    rotate_left
    · simp only [Act.put, sIB, sCz, sCs, i64_w, i32_w]
      rfl
    refine pure_ (i := 4) (N := some 57) (v := ?_) (a' := ?_) #[true, true, true, true, true, false, false, false, false, false, false, false, false, false, false, false, false, false] rfl rfl (by kernel_rfl) (fun _ _ _ h => h) (Or.inl ⟨by rfl, ?_⟩) ?_ ?_
    rotate_left
    · intro w'
      go_simp
      with_reducible rfl
    rotate_left
    · simp only [Act.put, sIB, sCz, sCs, i64_w, i32_w]
      rfl
    refine pure_ (i := 5) (N := some 58) (v := ?_) (a' := ?_) #[true, true, true, true, true, true, false, false, false, false, false, false, false, false, false, false, false, false] rfl rfl (by kernel_rfl) (fun _ _ _ h => h) (Or.inl ⟨by rfl, ?_⟩) ?_ ?_
    rotate_left
    · intro w'
      go_simp
      with_reducible rfl
    rotate_left
    · simp only [Act.put, sIB, sCz, sCs, i64_w, i32_w]
      rfl
    refine pure_ (i := 6) (N := some 59) (v := ?_) (a' := ?_) #[true, true, true, true, true, true, true, false, false, false, false, false, false, false, false, false, false, false] rfl rfl (by kernel_rfl) (fun _ _ _ h => h) (Or.inl ⟨by rfl, ?_⟩) ?_ ?_
    rotate_left
    · intro w'
      go_simp
      with_reducible rfl
    rotate_left
    · simp only [Act.put, sIB, sCz, sCs, i64_w, i32_w]
      rfl
    refine pure_ (i := 9) (N := some 62) (v := ?_) (a' := ?_) #[true, true, true, true, true, true, true, false, false, true, false, false, false, false, false, false, false, false] rfl rfl (by kernel_rfl) (fun _ _ _ h => h) (Or.inl ⟨by rfl, ?_⟩) ?_ ?_
    rotate_left
    · intro w'
      go_simp
      with_reducible rfl
    rotate_left
    · simp only [Act.put, sIB, sCz, sCs, i64_w, i32_w]
      rfl
    refine one_ (i := 7) (N := some 60) #[true, true, true, true, true, true, true, true, false, true, false, false, false, false, false, false, false, false] rfl rfl (by kernel_rfl) (by decide) (fun K hK => ?_)
    refine goes_ Tryz.func21 (by kernel_rfl) rfl #[.pointer (some ⟨g3, 0, none⟩)] (by rfl) rfl rfl (by simp only [List.map_toArray, List.map_cons, List.map_nil]; rfl) ?_
    with_reducible refine (Disk.image_ B10.out).mono ?_
    rintro e w11 ⟨v11, rfl, hS11⟩
    refine ⟨_, rfl, ?_⟩
    obtain ⟨A11, c11, rfl⟩ := hS11.rowV
    have B11 : Aside0 (Sep w w11 (Dsk g L (fun _ => none) :: Row U8 5 (.slice A11 (L).length c11) L :: Dsk g3 L (fun _ => none) :: [])) := ⟨Sep.pull [_, _] hS11⟩
    clear hS11
    refine hK.out _ _ trivial (fun hHeld => ?_)
    clear hK K
    refine norm_ (a' := ?_) ?_ ?_
    rotate_left
    · show Act.put _ (some 60) _ = _
      simp only [Act.put, sIB, sCz, sCs, i64_w, i32_w]
      rfl
    refine join_ (σ := Value × Value × Value) 6 #[true, true, true, true, true, true, true, true, true, true, true, true, false, false, false, false, false, false] (fun s_ => [(61, s_.1), (63, s_.2.1), (64, s_.2.2)]) (fun s_ w' => Sep w w' ((Pu ((s_.1) = .string sl)) :: (Pu ((s_.2.2) = .string sl)) :: (Dsk g L (fun _ => none) :: Row U8 5 (.slice A11 (L).length c11) L :: Dsk g3 L (fun _ => none) :: []))) ?_ ?_
    rotate_left
    · intro hJ8_10_11
      refine join_ (σ := Value × Value) 7 #[true, true, true, true, true, true, true, true, true, true, true, false, false, false, false, false, false, false] (fun s_ => [(61, s_.1), (63, s_.2)]) (fun s_ w' => Sep w w' ((Pu ((s_.1) = .string sl)) :: (Row U8 5 (s_.2) L) :: (Dsk g L (fun _ => none) :: Row U8 5 (.slice A11 (L).length c11) L :: Dsk g3 L (fun _ => none) :: []))) ?_ ?_
      rotate_left
      · intro hJ8_10
        refine join_ (σ := Value × Value) 7 #[true, true, true, true, true, true, true, true, false, true, true, true, false, false, false, false, false, false] (fun s_ => [(63, s_.1), (64, s_.2)]) (fun s_ w' => Sep w w' ((Pu ((s_.2) = .string sl)) :: (Dsk g L (fun _ => none) :: Row U8 5 (.slice A11 (L).length c11) L :: Dsk g3 L (fun _ => none) :: []))) ?_ ?_
        rotate_left
        · intro hJ10_11
          refine join_ (σ := Value) 8 #[true, true, true, true, true, true, true, true, true, true, false, false, false, false, false, false, false, false] (fun s_ => [(61, s_)]) (fun s_ w' => Sep w w' ((Pu ((s_) = .string sl)) :: (Dsk g L (fun _ => none) :: Row U8 5 (.slice A11 (L).length c11) L :: Dsk g3 L (fun _ => none) :: []))) ?_ ?_
          rotate_left
          · intro hJ8
            refine join_ (σ := Value) 8 #[true, true, true, true, true, true, true, true, false, true, true, false, false, false, false, false, false, false] (fun s_ => [(63, s_)]) (fun s_ w' => Sep w w' ((Row U8 5 (s_) L) :: (Dsk g L (fun _ => none) :: Row U8 5 (.slice A11 (L).length c11) L :: Dsk g3 L (fun _ => none) :: []))) ?_ ?_
            rotate_left
            · intro hJ10
              refine two_ (i := 8) (j := 10) (Ni := some 61) (Nj := some 63) #[true, true, true, true, true, true, true, true, true, true, false, false, false, false, false, false, false, false] #[true, true, true, true, true, true, true, true, false, true, true, false, false, false, false, false, false, false] rfl rfl rfl rfl (by kernel_rfl) (by decide) (by decide) (fun K hK => ?_) (fun K hK => ?_)
              · skip
                have hs_ : (convert 24 9 (.slice A11 (L).length c11)).run Tryz.prog w11 = .ok (.string sl) w11 := by first | exact strE9 (B11.out).at2 HSL.out | exact strE9 (B11.out).at3 HSL.out
                refine value_ (w1 := ?_) (v := ?_) (by rfl) rfl ?_ ?_
                rotate_left 2
                · go_simp
                  constructor
                  · rfl
                  · rfl
                have hN := (B11.out).unpu (rfl : (Value.string sl) = .string sl)
                refine hK.out _ _ trivial (fun hHeld => ?_)
                clear hK K
                refine norm_ (a' := ?_) ?_ ?_
                rotate_left
                · show Act.put _ (some 61) _ = _
                  simp only [Act.put, sIB, sCz, sCs, i64_w, i32_w]
                  rfl
                exact norm_ (by first | (simp only [putAll, Act.put, List.setIfInBounds_toArray, List.set_cons_zero, List.set_cons_succ]; done) | (simp only [putAll, Act.put, List.setIfInBounds_toArray, List.set_cons_zero, List.set_cons_succ]; rfl)) (hJ8 (.string sl) _ hN)
              · skip
                refine goes_ Tryz.func21 (by kernel_rfl) rfl #[.pointer (some ⟨g, 0, none⟩)] (by rfl) rfl rfl (by simp only [List.map_toArray, List.map_cons, List.map_nil]; rfl) ?_
                with_reducible refine (Disk.image_ (w0 := w) (g := g) (las := L) (wt := fun _ => none) (by first | exact (B11.out) | exact (B11.out).at2)).mono ?_
                rintro e wn_ ⟨vn_, rfl, hS_⟩
                refine ⟨_, rfl, ?_⟩
                first | (have hN : Sep w wn_ (Row U8 5 vn_ L :: Dsk g L (fun _ => none) :: Row U8 5 (.slice A11 (L).length c11) L :: _) := hS_) | (have hN := hS_.sw23)
                clear hS_
                refine hK.out _ _ trivial (fun hHeld => ?_)
                clear hK K
                refine norm_ (a' := ?_) ?_ ?_
                rotate_left
                · show Act.put _ (some 63) _ = _
                  simp only [Act.put, sIB, sCz, sCs, i64_w, i32_w]
                  rfl
                exact norm_ (by first | (simp only [putAll, Act.put, List.setIfInBounds_toArray, List.set_cons_zero, List.set_cons_succ]; done) | (simp only [putAll, Act.put, List.setIfInBounds_toArray, List.set_cons_zero, List.set_cons_succ]; rfl)) (hJ10 vn_ _ hN)
            · skip
              rintro v10_ W_ hQ_
              have hSep : Aside0 (Sep w W_ ((Row U8 5 (v10_) L) :: (Dsk g L (fun _ => none) :: Row U8 5 (.slice A11 (L).length c11) L :: Dsk g3 L (fun _ => none) :: []))) := ⟨hQ_⟩
              clear hQ_
              have hHeld := trivial
              refine norm_ (a' := ?_) ?_ ?_
              rotate_left
              · simp only [putAll, Act.put, List.setIfInBounds_toArray, List.set_cons_zero, List.set_cons_succ]
                rfl
              refine two_ (i := 8) (j := 11) (Ni := some 61) (Nj := some 64) #[true, true, true, true, true, true, true, true, true, true, true, false, false, false, false, false, false, false] #[true, true, true, true, true, true, true, true, false, true, true, true, false, false, false, false, false, false] rfl rfl rfl rfl (by kernel_rfl) (by decide) (by decide) (fun K hK => ?_) (fun K hK => ?_)
              · skip
                have hs_ : (convert 24 9 (.slice A11 (L).length c11)).run Tryz.prog W_ = .ok (.string sl) W_ := by first | exact strE9 (hSep.out).at2 HSL.out | exact strE9 (hSep.out).at3 HSL.out
                refine value_ (w1 := ?_) (v := ?_) (by rfl) rfl ?_ ?_
                rotate_left 2
                · go_simp
                  constructor
                  · rfl
                  · rfl
                have hN := (hSep.out).unpu (rfl : (Value.string sl) = .string sl)
                refine hK.out _ _ trivial (fun hHeld => ?_)
                clear hK K
                refine norm_ (a' := ?_) ?_ ?_
                rotate_left
                · show Act.put _ (some 61) _ = _
                  simp only [Act.put, sIB, sCz, sCs, i64_w, i32_w]
                  rfl
                exact norm_ (by first | (simp only [putAll, Act.put, List.setIfInBounds_toArray, List.set_cons_zero, List.set_cons_succ]; done) | (simp only [putAll, Act.put, List.setIfInBounds_toArray, List.set_cons_zero, List.set_cons_succ]; rfl)) (hJ8_10 (.string sl, v10_) _ hN)
              · skip
                have hs_ := strE9 ((hSep.out)) HSL.out
                refine value_ (w1 := ?_) (v := ?_) (by rfl) rfl ?_ ?_
                rotate_left 2
                · go_simp
                  constructor
                  · rfl
                  · rfl
                have hN := ((hSep.out)).tail.unpu (rfl : (Value.string sl) = .string sl)
                refine hK.out _ _ trivial (fun hHeld => ?_)
                clear hK K
                refine norm_ (a' := ?_) ?_ ?_
                rotate_left
                · show Act.put _ (some 64) _ = _
                  simp only [Act.put, sIB, sCz, sCs, i64_w, i32_w]
                  rfl
                exact norm_ (by first | (simp only [putAll, Act.put, List.setIfInBounds_toArray, List.set_cons_zero, List.set_cons_succ]; done) | (simp only [putAll, Act.put, List.setIfInBounds_toArray, List.set_cons_zero, List.set_cons_succ]; rfl)) (hJ10_11 (v10_, .string sl) _ hN)
          · skip
            rintro v8_ W_ hQ_
            have hSep : Aside0 (Sep w W_ ((Pu ((v8_) = .string sl)) :: (Dsk g L (fun _ => none) :: Row U8 5 (.slice A11 (L).length c11) L :: Dsk g3 L (fun _ => none) :: []))) := ⟨hQ_⟩
            clear hQ_
            have hHeld := trivial
            refine norm_ (a' := ?_) ?_ ?_
            rotate_left
            · simp only [putAll, Act.put, List.setIfInBounds_toArray, List.set_cons_zero, List.set_cons_succ]
              rfl
            refine one_ (i := 10) (N := some 63) #[true, true, true, true, true, true, true, true, true, true, true, false, false, false, false, false, false, false] rfl rfl (by kernel_rfl) (by decide) (fun K hK => ?_)
            refine goes_ Tryz.func21 (by kernel_rfl) rfl #[.pointer (some ⟨g, 0, none⟩)] (by rfl) rfl rfl (by simp only [List.map_toArray, List.map_cons, List.map_nil]; rfl) ?_
            with_reducible refine (Disk.image_ (w0 := w) (g := g) (las := L) (wt := fun _ => none) (by first | exact (hSep.out) | exact (hSep.out).at2)).mono ?_
            rintro e wn_ ⟨vn_, rfl, hS_⟩
            refine ⟨_, rfl, ?_⟩
            first | (have hN : Sep w wn_ (Row U8 5 vn_ L :: Dsk g L (fun _ => none) :: Row U8 5 (.slice A11 (L).length c11) L :: _) := hS_) | (have hN := hS_.sw23)
            clear hS_
            refine hK.out _ _ trivial (fun hHeld => ?_)
            clear hK K
            refine norm_ (a' := ?_) ?_ ?_
            rotate_left
            · show Act.put _ (some 63) _ = _
              simp only [Act.put, sIB, sCz, sCs, i64_w, i32_w]
              rfl
            exact norm_ (by first | (simp only [putAll, Act.put, List.setIfInBounds_toArray, List.set_cons_zero, List.set_cons_succ]; done) | (simp only [putAll, Act.put, List.setIfInBounds_toArray, List.set_cons_zero, List.set_cons_succ]; rfl)) (hJ8_10 (v8_, vn_) _ hN.at2)
        · skip
          rintro ⟨v10_, v11_⟩ W_ hQ_
          have hSep : Aside0 (Sep w W_ ((Pu ((v11_) = .string sl)) :: (Dsk g L (fun _ => none) :: Row U8 5 (.slice A11 (L).length c11) L :: Dsk g3 L (fun _ => none) :: []))) := ⟨hQ_⟩
          clear hQ_
          have hHeld := trivial
          refine norm_ (a' := ?_) ?_ ?_
          rotate_left
          · simp only [putAll, Act.put, List.setIfInBounds_toArray, List.set_cons_zero, List.set_cons_succ]
            rfl
          refine one_ (i := 8) (N := some 61) #[true, true, true, true, true, true, true, true, true, true, true, true, false, false, false, false, false, false] rfl rfl (by kernel_rfl) (by decide) (fun K hK => ?_)
          have hs_ : (convert 24 9 (.slice A11 (L).length c11)).run Tryz.prog W_ = .ok (.string sl) W_ := by first | exact strE9 (hSep.out).at2 HSL.out | exact strE9 (hSep.out).at3 HSL.out
          refine value_ (w1 := ?_) (v := ?_) (by rfl) rfl ?_ ?_
          rotate_left 2
          · go_simp
            constructor
            · rfl
            · rfl
          have hN := (hSep.out).unpu (rfl : (Value.string sl) = .string sl)
          refine hK.out _ _ trivial (fun hHeld => ?_)
          clear hK K
          refine norm_ (a' := ?_) ?_ ?_
          rotate_left
          · show Act.put _ (some 61) _ = _
            simp only [Act.put, sIB, sCz, sCs, i64_w, i32_w]
            rfl
          exact norm_ (by first | (simp only [putAll, Act.put, List.setIfInBounds_toArray, List.set_cons_zero, List.set_cons_succ]; done) | (simp only [putAll, Act.put, List.setIfInBounds_toArray, List.set_cons_zero, List.set_cons_succ]; rfl)) (hJ8_10_11 (.string sl, v10_, v11_) _ hN)
      · skip
        rintro ⟨v8_, v10_⟩ W_ hQ_
        have hSep : Aside0 (Sep w W_ ((Pu ((v8_) = .string sl)) :: (Row U8 5 (v10_) L) :: (Dsk g L (fun _ => none) :: Row U8 5 (.slice A11 (L).length c11) L :: Dsk g3 L (fun _ => none) :: []))) := ⟨hQ_⟩
        clear hQ_
        have hHeld := trivial
        refine norm_ (a' := ?_) ?_ ?_
        rotate_left
        · simp only [putAll, Act.put, List.setIfInBounds_toArray, List.set_cons_zero, List.set_cons_succ]
          rfl
        refine one_ (i := 11) (N := some 64) #[true, true, true, true, true, true, true, true, true, true, true, true, false, false, false, false, false, false] rfl rfl (by kernel_rfl) (by decide) (fun K hK => ?_)
        have hs_ := strE9 ((hSep.out).at2) HSL.out
        refine value_ (w1 := ?_) (v := ?_) (by rfl) rfl ?_ ?_
        rotate_left 2
        · go_simp
          constructor
          · rfl
          · rfl
        have hN := ((hSep.out).at2).tail.unpu (rfl : (Value.string sl) = .string sl)
        refine hK.out _ _ trivial (fun hHeld => ?_)
        clear hK K
        refine norm_ (a' := ?_) ?_ ?_
        rotate_left
        · show Act.put _ (some 64) _ = _
          simp only [Act.put, sIB, sCz, sCs, i64_w, i32_w]
          rfl
        exact norm_ (by first | (simp only [putAll, Act.put, List.setIfInBounds_toArray, List.set_cons_zero, List.set_cons_succ]; done) | (simp only [putAll, Act.put, List.setIfInBounds_toArray, List.set_cons_zero, List.set_cons_succ]; rfl)) (hJ8_10_11 (v8_, v10_, .string sl) _ hN.at2)
    rintro ⟨v8_, v10_, v11_⟩ W_ hQ_
    have hSep : Aside0 (Sep w W_ ((Pu ((v8_) = .string sl)) :: (Pu ((v11_) = .string sl)) :: (Dsk g L (fun _ => none) :: Row U8 5 (.slice A11 (L).length c11) L :: Dsk g3 L (fun _ => none) :: []))) := ⟨hQ_⟩
    clear hQ_
    have hHeld := trivial
    obtain ⟨h8_, hT_⟩ := hSep.out.pu
    obtain ⟨h11_, hT2_⟩ := hT_.pu
    have B12 := Aside0.mk hT2_
    subst h8_ h11_
    refine norm_ (a' := ?_) ?_ ?_
    rotate_left
    · simp only [putAll, Act.put, List.setIfInBounds_toArray, List.set_cons_zero, List.set_cons_succ]
      rfl
    refine pure_ (i := 12) (N := some 65) (v := ?_) (a' := ?_) #[true, true, true, true, true, true, true, true, true, true, true, true, true, false, false, false, false, false] rfl rfl (by kernel_rfl) (fun _ _ _ h => h) (Or.inl ⟨by rfl, ?_⟩) ?_ ?_
    rotate_left
    · intro w'
      go_simp
      with_reducible rfl
    rotate_left
    · simp only [Act.put, sIB, sCz, sCs, i64_w, i32_w]
      rfl
    refine pure_ (i := 13) (N := some 66) (v := ?_) (a' := ?_) #[true, true, true, true, true, true, true, true, true, true, true, true, true, true, false, false, false, false] rfl rfl (by kernel_rfl) (fun _ _ _ h => h) (Or.inl ⟨by rfl, ?_⟩) ?_ ?_
    rotate_left
    · intro w'
      go_simp
      with_reducible rfl
    rotate_left
    · simp only [Act.put, sIB, sCz, sCs, i64_w, i32_w]
      rfl
    refine pure_ (i := 14) (N := some 67) (v := ?_) (a' := ?_) #[true, true, true, true, true, true, true, true, true, true, true, true, true, true, true, false, false, false] rfl rfl (by kernel_rfl) (fun _ _ _ h => h) (Or.inl ⟨by rfl, ?_⟩) ?_ ?_
    rotate_left
    · intro w'
      go_simp
      with_reducible rfl
    rotate_left
    · simp only [Act.put, sIB, sCz, sCs, i64_w, i32_w]
      rfl
    refine one_ (i := 15) (N := some 68) #[true, true, true, true, true, true, true, true, true, true, true, true, true, true, true, true, false, false] rfl rfl (by kernel_rfl) (by decide) (fun K hK => ?_)
    refine goes_ Tryz.func17 (by kernel_rfl) rfl #[] (by rfl) rfl rfl (by simp) ?_
    with_reducible refine (known19_ _).mono ?_
    rintro e w13 ⟨rfl, hb13⟩
    refine ⟨_, rfl, ?_⟩
    have B13 := Aside0.mk (B12.out.below hb13)
    clear hb13
    refine hK.out _ _ trivial (fun hHeld => ?_)
    clear hK K
    refine norm_ (a' := ?_) ?_ ?_
    rotate_left
    · show Act.put _ (some 68) _ = _
      simp only [Act.put, sIB, sCz, sCs, i64_w, i32_w]
      rfl
    refine pure_ (i := 16) (N := some 69) (v := ?_) (a' := ?_) #[true, true, true, true, true, true, true, true, true, true, true, true, true, true, true, true, true, false] rfl rfl (by kernel_rfl) (fun _ _ _ h => h) (Or.inl ⟨by rfl, ?_⟩) ?_ ?_
    rotate_left
    · intro w'
      go_simp
      with_reducible rfl
    rotate_left
    · simp only [Act.put, sIB, sCz, sCs, i64_w, i32_w]
      rfl
    refine pure_ (i := 17) (N := some 4) (v := ?_) (a' := ?_) #[true, true, true, true, true, true, true, true, true, true, true, true, true, true, true, true, true, true] rfl rfl (by kernel_rfl) (fun _ _ _ h => h) (Or.inl ⟨by rfl, ?_⟩) ?_ ?_
    rotate_left
    · intro w'
      go_simp
      with_reducible rfl
    rotate_left
    · simp only [Act.put, sIB, sCz, sCs, i64_w, i32_w]
      rfl
    refine done_ (by kernel_rfl) ?_
    go_wp2_with fail
    go_ret
    exact ⟨by first | rfl | (simp; done), B13.out.toBelow⟩
  · have HA := Aside0.mk (And.intro ha he)
    have HDC := Aside0.mk (ds_any ha he)
    have HRN := Aside0.mk ((ha.st).deeds)
    have hNpos : 0 < N := by
      have h1 := congrArg List.length (ds_any ha he)
      rw [chkD_len, HD.out, HN.out] at h1
      omega
    have hNi : (0 : Int) < (N : Int) := by omega
    have hNd : decide ((0 : Int) < (N : Int)) = true := decide_eq_true hNi
    have hNd2 : decide (0 < N) = true := decide_eq_true hNpos
    have htt : ((true : Bool) == true) = true := rfl
    obtain ⟨LA, hLA⟩ : ∃ x, openG 24 a b E L (fun _ => none) = x := ⟨_, rfl⟩
    have HRD : Aside0 (runD (L, fun _ => none) D = (LA, fun _ => none)) := ⟨by
      have h1 : runD (L, fun _ => none) (chkD a b E (shownG 24 a b E L (fun _ => none)) (keyL 24 a b E L (fun _ => none))) = (openG 24 a b E L (fun _ => none), fun _ => none) := (ha.st).deeds
      rw [← HD.out, HDC.out, h1, hLA]⟩
    have HLA := Aside0.mk hLA
    clear ha he hLA
    refine (sopen_ok B9.out HA.out.1 HA.out.2).mono ?_
    rintro e w10 ⟨gs, m, rfl, hS10⟩
    rw [HLA.out, HRD.out] at hS10
    have B10 : Aside0 (Sep w w10.drew [Dsk g3 LA (fun _ => none), Dsk g LA (fun _ => none)]) := ⟨hS10.tail.drew⟩
    clear hS10
    obtain ⟨sl, hsl⟩ : ∃ s, strOfNums LA = s := ⟨_, rfl⟩
    have HSL := Aside0.mk hsl
    have hss : (sl.toList == sl.toList) = true := by simp
    clear hsl
    go_wp2_with fail
    refine start_ (n := 18) (S := fun w' => True) (ds := []) #[false, false, false, false, false, false, false, false, false, false, false, false, false, false, false, false, false, false] (by kernel_rfl) rfl rfl trivial (fun hHeld => ?_)
    refine pure_ (i := 0) (N := some 53) (v := ?_) (a' := ?_) #[true, false, false, false, false, false, false, false, false, false, false, false, false, false, false, false, false, false] rfl rfl (by kernel_rfl) (fun _ _ _ h => h) (Or.inl ⟨by rfl, ?_⟩) ?_ ?_
    rotate_left
    · intro w'
      go_simp
      with_reducible rfl
    rotate_left
    · simp only [Act.put, sIB, sCz, sCs, i64_w, i32_w]
      rfl
    refine pure_ (i := 1) (N := some 54) (v := ?_) (a' := ?_) #[true, true, false, false, false, false, false, false, false, false, false, false, false, false, false, false, false, false] rfl rfl (by kernel_rfl) (fun _ _ _ h => h) (Or.inl ⟨by rfl, ?_⟩) ?_ ?_
    rotate_left
    · intro w'
      go_simp
      with_reducible rfl
    rotate_left
    · simp only [Act.put, sIB, sCz, sCs, i64_w, i32_w]
      rfl
    refine pure_ (i := 2) (N := some 55) (v := ?_) (a' := ?_) #[true, true, true, false, false, false, false, false, false, false, false, false, false, false, false, false, false, false] rfl rfl (by kernel_rfl) (fun _ _ _ h => h) (Or.inl ⟨by rfl, ?_⟩) ?_ ?_
    rotate_left
    · intro w'
      go_simp
      with_reducible rfl
    rotate_left
    · simp only [Act.put, sIB, sCz, sCs, i64_w, i32_w]
      rfl
    refine pure_ (i := 3) (N := some 56) (v := ?_) (a' := ?_) #[true, true, true, true, false, false, false, false, false, false, false, false, false, false, false, false, false, false] rfl rfl (by kernel_rfl) (fun _ _ _ h => h) (Or.inl ⟨by rfl, ?_⟩) ?_ ?_
    rotate_left
    · intro w'
      go_simp
      with_reducible rfl
    rotate_left
    · simp only [Act.put, sIB, sCz, sCs, i64_w, i32_w]
      rfl
    refine pure_ (i := 4) (N := some 57) (v := ?_) (a' := ?_) #[true, true, true, true, true, false, false, false, false, false, false, false, false, false, false, false, false, false] rfl rfl (by kernel_rfl) (fun _ _ _ h => h) (Or.inl ⟨by rfl, ?_⟩) ?_ ?_
    rotate_left
    · intro w'
      go_simp
      with_reducible rfl
    rotate_left
    · simp only [Act.put, sIB, sCz, sCs, i64_w, i32_w]
      rfl
    refine pure_ (i := 5) (N := some 58) (v := ?_) (a' := ?_) #[true, true, true, true, true, true, false, false, false, false, false, false, false, false, false, false, false, false] rfl rfl (by kernel_rfl) (fun _ _ _ h => h) (Or.inl ⟨by rfl, ?_⟩) ?_ ?_
    rotate_left
    · intro w'
      go_simp
      with_reducible rfl
    rotate_left
    · simp only [Act.put, sIB, sCz, sCs, i64_w, i32_w]
      rfl
    refine pure_ (i := 6) (N := some 59) (v := ?_) (a' := ?_) #[true, true, true, true, true, true, true, false, false, false, false, false, false, false, false, false, false, false] rfl rfl (by kernel_rfl) (fun _ _ _ h => h) (Or.inl ⟨by rfl, ?_⟩) ?_ ?_
    rotate_left
    · intro w'
      go_simp
      with_reducible rfl
    rotate_left
    · simp only [Act.put, sIB, sCz, sCs, i64_w, i32_w]
      rfl
    refine pure_ (i := 9) (N := some 62) (v := ?_) (a' := ?_) #[true, true, true, true, true, true, true, false, false, true, false, false, false, false, false, false, false, false] rfl rfl (by kernel_rfl) (fun _ _ _ h => h) (Or.inl ⟨by rfl, ?_⟩) ?_ ?_
    rotate_left
    · intro w'
      go_simp
      with_reducible rfl
    rotate_left
    · simp only [Act.put, sIB, sCz, sCs, i64_w, i32_w]
      rfl
    refine one_ (i := 7) (N := some 60) #[true, true, true, true, true, true, true, true, false, true, false, false, false, false, false, false, false, false] rfl rfl (by kernel_rfl) (by decide) (fun K hK => ?_)
    refine goes_ Tryz.func21 (by kernel_rfl) rfl #[.pointer (some ⟨g3, 0, none⟩)] (by rfl) rfl rfl (by simp only [List.map_toArray, List.map_cons, List.map_nil]; rfl) ?_
    with_reducible refine (Disk.image_ B10.out).mono ?_
    rintro e w11 ⟨v11, rfl, hS11⟩
    refine ⟨_, rfl, ?_⟩
    obtain ⟨A11, c11, rfl⟩ := hS11.rowV
    have B11 : Aside0 (Sep w w11 (Dsk g LA (fun _ => none) :: Row U8 5 (.slice A11 (LA).length c11) LA :: Dsk g3 LA (fun _ => none) :: [])) := ⟨Sep.pull [_, _] hS11⟩
    clear hS11
    refine hK.out _ _ trivial (fun hHeld => ?_)
    clear hK K
    refine norm_ (a' := ?_) ?_ ?_
    rotate_left
    · show Act.put _ (some 60) _ = _
      simp only [Act.put, sIB, sCz, sCs, i64_w, i32_w]
      rfl
    refine join_ (σ := Value × Value × Value) 6 #[true, true, true, true, true, true, true, true, true, true, true, true, false, false, false, false, false, false] (fun s_ => [(61, s_.1), (63, s_.2.1), (64, s_.2.2)]) (fun s_ w' => Sep w w' ((Pu ((s_.1) = .string sl)) :: (Pu ((s_.2.2) = .string sl)) :: (Dsk g LA (fun _ => none) :: Row U8 5 (.slice A11 (LA).length c11) LA :: Dsk g3 LA (fun _ => none) :: []))) ?_ ?_
    rotate_left
    · intro hJ8_10_11
      refine join_ (σ := Value × Value) 7 #[true, true, true, true, true, true, true, true, true, true, true, false, false, false, false, false, false, false] (fun s_ => [(61, s_.1), (63, s_.2)]) (fun s_ w' => Sep w w' ((Pu ((s_.1) = .string sl)) :: (Row U8 5 (s_.2) LA) :: (Dsk g LA (fun _ => none) :: Row U8 5 (.slice A11 (LA).length c11) LA :: Dsk g3 LA (fun _ => none) :: []))) ?_ ?_
      rotate_left
      · intro hJ8_10
        refine join_ (σ := Value × Value) 7 #[true, true, true, true, true, true, true, true, false, true, true, true, false, false, false, false, false, false] (fun s_ => [(63, s_.1), (64, s_.2)]) (fun s_ w' => Sep w w' ((Pu ((s_.2) = .string sl)) :: (Dsk g LA (fun _ => none) :: Row U8 5 (.slice A11 (LA).length c11) LA :: Dsk g3 LA (fun _ => none) :: []))) ?_ ?_
        rotate_left
        · intro hJ10_11
          refine join_ (σ := Value) 8 #[true, true, true, true, true, true, true, true, true, true, false, false, false, false, false, false, false, false] (fun s_ => [(61, s_)]) (fun s_ w' => Sep w w' ((Pu ((s_) = .string sl)) :: (Dsk g LA (fun _ => none) :: Row U8 5 (.slice A11 (LA).length c11) LA :: Dsk g3 LA (fun _ => none) :: []))) ?_ ?_
          rotate_left
          · intro hJ8
            refine join_ (σ := Value) 8 #[true, true, true, true, true, true, true, true, false, true, true, false, false, false, false, false, false, false] (fun s_ => [(63, s_)]) (fun s_ w' => Sep w w' ((Row U8 5 (s_) LA) :: (Dsk g LA (fun _ => none) :: Row U8 5 (.slice A11 (LA).length c11) LA :: Dsk g3 LA (fun _ => none) :: []))) ?_ ?_
            rotate_left
            · intro hJ10
              refine two_ (i := 8) (j := 10) (Ni := some 61) (Nj := some 63) #[true, true, true, true, true, true, true, true, true, true, false, false, false, false, false, false, false, false] #[true, true, true, true, true, true, true, true, false, true, true, false, false, false, false, false, false, false] rfl rfl rfl rfl (by kernel_rfl) (by decide) (by decide) (fun K hK => ?_) (fun K hK => ?_)
              · skip
                have hs_ : (convert 24 9 (.slice A11 (LA).length c11)).run Tryz.prog w11 = .ok (.string sl) w11 := by first | exact strE9 (B11.out).at2 HSL.out | exact strE9 (B11.out).at3 HSL.out
                refine value_ (w1 := ?_) (v := ?_) (by rfl) rfl ?_ ?_
                rotate_left 2
                · go_simp
                  constructor
                  · rfl
                  · rfl
                have hN := (B11.out).unpu (rfl : (Value.string sl) = .string sl)
                refine hK.out _ _ trivial (fun hHeld => ?_)
                clear hK K
                refine norm_ (a' := ?_) ?_ ?_
                rotate_left
                · show Act.put _ (some 61) _ = _
                  simp only [Act.put, sIB, sCz, sCs, i64_w, i32_w]
                  rfl
                exact norm_ (by first | (simp only [putAll, Act.put, List.setIfInBounds_toArray, List.set_cons_zero, List.set_cons_succ]; done) | (simp only [putAll, Act.put, List.setIfInBounds_toArray, List.set_cons_zero, List.set_cons_succ]; rfl)) (hJ8 (.string sl) _ hN)
              · skip
                refine goes_ Tryz.func21 (by kernel_rfl) rfl #[.pointer (some ⟨g, 0, none⟩)] (by rfl) rfl rfl (by simp only [List.map_toArray, List.map_cons, List.map_nil]; rfl) ?_
                with_reducible refine (Disk.image_ (w0 := w) (g := g) (las := LA) (wt := fun _ => none) (by first | exact (B11.out) | exact (B11.out).at2)).mono ?_
                rintro e wn_ ⟨vn_, rfl, hS_⟩
                refine ⟨_, rfl, ?_⟩
                first | (have hN : Sep w wn_ (Row U8 5 vn_ LA :: Dsk g LA (fun _ => none) :: Row U8 5 (.slice A11 (LA).length c11) LA :: _) := hS_) | (have hN := hS_.sw23)
                clear hS_
                refine hK.out _ _ trivial (fun hHeld => ?_)
                clear hK K
                refine norm_ (a' := ?_) ?_ ?_
                rotate_left
                · show Act.put _ (some 63) _ = _
                  simp only [Act.put, sIB, sCz, sCs, i64_w, i32_w]
                  rfl
                exact norm_ (by first | (simp only [putAll, Act.put, List.setIfInBounds_toArray, List.set_cons_zero, List.set_cons_succ]; done) | (simp only [putAll, Act.put, List.setIfInBounds_toArray, List.set_cons_zero, List.set_cons_succ]; rfl)) (hJ10 vn_ _ hN)
            · skip
              rintro v10_ W_ hQ_
              have hSep : Aside0 (Sep w W_ ((Row U8 5 (v10_) LA) :: (Dsk g LA (fun _ => none) :: Row U8 5 (.slice A11 (LA).length c11) LA :: Dsk g3 LA (fun _ => none) :: []))) := ⟨hQ_⟩
              clear hQ_
              have hHeld := trivial
              refine norm_ (a' := ?_) ?_ ?_
              rotate_left
              · simp only [putAll, Act.put, List.setIfInBounds_toArray, List.set_cons_zero, List.set_cons_succ]
                rfl
              refine two_ (i := 8) (j := 11) (Ni := some 61) (Nj := some 64) #[true, true, true, true, true, true, true, true, true, true, true, false, false, false, false, false, false, false] #[true, true, true, true, true, true, true, true, false, true, true, true, false, false, false, false, false, false] rfl rfl rfl rfl (by kernel_rfl) (by decide) (by decide) (fun K hK => ?_) (fun K hK => ?_)
              · skip
                have hs_ : (convert 24 9 (.slice A11 (LA).length c11)).run Tryz.prog W_ = .ok (.string sl) W_ := by first | exact strE9 (hSep.out).at2 HSL.out | exact strE9 (hSep.out).at3 HSL.out
                refine value_ (w1 := ?_) (v := ?_) (by rfl) rfl ?_ ?_
                rotate_left 2
                · go_simp
                  constructor
                  · rfl
                  · rfl
                have hN := (hSep.out).unpu (rfl : (Value.string sl) = .string sl)
                refine hK.out _ _ trivial (fun hHeld => ?_)
                clear hK K
                refine norm_ (a' := ?_) ?_ ?_
                rotate_left
                · show Act.put _ (some 61) _ = _
                  simp only [Act.put, sIB, sCz, sCs, i64_w, i32_w]
                  rfl
                exact norm_ (by first | (simp only [putAll, Act.put, List.setIfInBounds_toArray, List.set_cons_zero, List.set_cons_succ]; done) | (simp only [putAll, Act.put, List.setIfInBounds_toArray, List.set_cons_zero, List.set_cons_succ]; rfl)) (hJ8_10 (.string sl, v10_) _ hN)
              · skip
                have hs_ := strE9 ((hSep.out)) HSL.out
                refine value_ (w1 := ?_) (v := ?_) (by rfl) rfl ?_ ?_
                rotate_left 2
                · go_simp
                  constructor
                  · rfl
                  · rfl
                have hN := ((hSep.out)).tail.unpu (rfl : (Value.string sl) = .string sl)
                refine hK.out _ _ trivial (fun hHeld => ?_)
                clear hK K
                refine norm_ (a' := ?_) ?_ ?_
                rotate_left
                · show Act.put _ (some 64) _ = _
                  simp only [Act.put, sIB, sCz, sCs, i64_w, i32_w]
                  rfl
                exact norm_ (by first | (simp only [putAll, Act.put, List.setIfInBounds_toArray, List.set_cons_zero, List.set_cons_succ]; done) | (simp only [putAll, Act.put, List.setIfInBounds_toArray, List.set_cons_zero, List.set_cons_succ]; rfl)) (hJ10_11 (v10_, .string sl) _ hN)
          · skip
            rintro v8_ W_ hQ_
            have hSep : Aside0 (Sep w W_ ((Pu ((v8_) = .string sl)) :: (Dsk g LA (fun _ => none) :: Row U8 5 (.slice A11 (LA).length c11) LA :: Dsk g3 LA (fun _ => none) :: []))) := ⟨hQ_⟩
            clear hQ_
            have hHeld := trivial
            refine norm_ (a' := ?_) ?_ ?_
            rotate_left
            · simp only [putAll, Act.put, List.setIfInBounds_toArray, List.set_cons_zero, List.set_cons_succ]
              rfl
            refine one_ (i := 10) (N := some 63) #[true, true, true, true, true, true, true, true, true, true, true, false, false, false, false, false, false, false] rfl rfl (by kernel_rfl) (by decide) (fun K hK => ?_)
            refine goes_ Tryz.func21 (by kernel_rfl) rfl #[.pointer (some ⟨g, 0, none⟩)] (by rfl) rfl rfl (by simp only [List.map_toArray, List.map_cons, List.map_nil]; rfl) ?_
            with_reducible refine (Disk.image_ (w0 := w) (g := g) (las := LA) (wt := fun _ => none) (by first | exact (hSep.out) | exact (hSep.out).at2)).mono ?_
            rintro e wn_ ⟨vn_, rfl, hS_⟩
            refine ⟨_, rfl, ?_⟩
            first | (have hN : Sep w wn_ (Row U8 5 vn_ LA :: Dsk g LA (fun _ => none) :: Row U8 5 (.slice A11 (LA).length c11) LA :: _) := hS_) | (have hN := hS_.sw23)
            clear hS_
            refine hK.out _ _ trivial (fun hHeld => ?_)
            clear hK K
            refine norm_ (a' := ?_) ?_ ?_
            rotate_left
            · show Act.put _ (some 63) _ = _
              simp only [Act.put, sIB, sCz, sCs, i64_w, i32_w]
              rfl
            exact norm_ (by first | (simp only [putAll, Act.put, List.setIfInBounds_toArray, List.set_cons_zero, List.set_cons_succ]; done) | (simp only [putAll, Act.put, List.setIfInBounds_toArray, List.set_cons_zero, List.set_cons_succ]; rfl)) (hJ8_10 (v8_, vn_) _ hN.at2)
        · skip
          rintro ⟨v10_, v11_⟩ W_ hQ_
          have hSep : Aside0 (Sep w W_ ((Pu ((v11_) = .string sl)) :: (Dsk g LA (fun _ => none) :: Row U8 5 (.slice A11 (LA).length c11) LA :: Dsk g3 LA (fun _ => none) :: []))) := ⟨hQ_⟩
          clear hQ_
          have hHeld := trivial
          refine norm_ (a' := ?_) ?_ ?_
          rotate_left
          · simp only [putAll, Act.put, List.setIfInBounds_toArray, List.set_cons_zero, List.set_cons_succ]
            rfl
          refine one_ (i := 8) (N := some 61) #[true, true, true, true, true, true, true, true, true, true, true, true, false, false, false, false, false, false] rfl rfl (by kernel_rfl) (by decide) (fun K hK => ?_)
          have hs_ : (convert 24 9 (.slice A11 (LA).length c11)).run Tryz.prog W_ = .ok (.string sl) W_ := by first | exact strE9 (hSep.out).at2 HSL.out | exact strE9 (hSep.out).at3 HSL.out
          refine value_ (w1 := ?_) (v := ?_) (by rfl) rfl ?_ ?_
          rotate_left 2
          · go_simp
            constructor
            · rfl
            · rfl
          have hN := (hSep.out).unpu (rfl : (Value.string sl) = .string sl)
          refine hK.out _ _ trivial (fun hHeld => ?_)
          clear hK K
          refine norm_ (a' := ?_) ?_ ?_
          rotate_left
          · show Act.put _ (some 61) _ = _
            simp only [Act.put, sIB, sCz, sCs, i64_w, i32_w]
            rfl
          exact norm_ (by first | (simp only [putAll, Act.put, List.setIfInBounds_toArray, List.set_cons_zero, List.set_cons_succ]; done) | (simp only [putAll, Act.put, List.setIfInBounds_toArray, List.set_cons_zero, List.set_cons_succ]; rfl)) (hJ8_10_11 (.string sl, v10_, v11_) _ hN)
      · skip
        rintro ⟨v8_, v10_⟩ W_ hQ_
        have hSep : Aside0 (Sep w W_ ((Pu ((v8_) = .string sl)) :: (Row U8 5 (v10_) LA) :: (Dsk g LA (fun _ => none) :: Row U8 5 (.slice A11 (LA).length c11) LA :: Dsk g3 LA (fun _ => none) :: []))) := ⟨hQ_⟩
        clear hQ_
        have hHeld := trivial
        refine norm_ (a' := ?_) ?_ ?_
        rotate_left
        · simp only [putAll, Act.put, List.setIfInBounds_toArray, List.set_cons_zero, List.set_cons_succ]
          rfl
        refine one_ (i := 11) (N := some 64) #[true, true, true, true, true, true, true, true, true, true, true, true, false, false, false, false, false, false] rfl rfl (by kernel_rfl) (by decide) (fun K hK => ?_)
        have hs_ := strE9 ((hSep.out).at2) HSL.out
        refine value_ (w1 := ?_) (v := ?_) (by rfl) rfl ?_ ?_
        rotate_left 2
        · go_simp
          constructor
          · rfl
          · rfl
        have hN := ((hSep.out).at2).tail.unpu (rfl : (Value.string sl) = .string sl)
        refine hK.out _ _ trivial (fun hHeld => ?_)
        clear hK K
        refine norm_ (a' := ?_) ?_ ?_
        rotate_left
        · show Act.put _ (some 64) _ = _
          simp only [Act.put, sIB, sCz, sCs, i64_w, i32_w]
          rfl
        exact norm_ (by first | (simp only [putAll, Act.put, List.setIfInBounds_toArray, List.set_cons_zero, List.set_cons_succ]; done) | (simp only [putAll, Act.put, List.setIfInBounds_toArray, List.set_cons_zero, List.set_cons_succ]; rfl)) (hJ8_10_11 (v8_, v10_, .string sl) _ hN.at2)
    rintro ⟨v8_, v10_, v11_⟩ W_ hQ_
    have hSep : Aside0 (Sep w W_ ((Pu ((v8_) = .string sl)) :: (Pu ((v11_) = .string sl)) :: (Dsk g LA (fun _ => none) :: Row U8 5 (.slice A11 (LA).length c11) LA :: Dsk g3 LA (fun _ => none) :: []))) := ⟨hQ_⟩
    clear hQ_
    have hHeld := trivial
    obtain ⟨h8_, hT_⟩ := hSep.out.pu
    obtain ⟨h11_, hT2_⟩ := hT_.pu
    have B12 := Aside0.mk hT2_
    subst h8_ h11_
    refine norm_ (a' := ?_) ?_ ?_
    rotate_left
    · simp only [putAll, Act.put, List.setIfInBounds_toArray, List.set_cons_zero, List.set_cons_succ]
      rfl
    refine pure_ (i := 12) (N := some 65) (v := ?_) (a' := ?_) #[true, true, true, true, true, true, true, true, true, true, true, true, true, false, false, false, false, false] rfl rfl (by kernel_rfl) (fun _ _ _ h => h) (Or.inl ⟨by rfl, ?_⟩) ?_ ?_
    rotate_left
    · intro w'
      go_simp
      with_reducible rfl
    rotate_left
    · simp only [Act.put, sIB, sCz, sCs, i64_w, i32_w]
      rfl
    refine pure_ (i := 13) (N := some 66) (v := ?_) (a' := ?_) #[true, true, true, true, true, true, true, true, true, true, true, true, true, true, false, false, false, false] rfl rfl (by kernel_rfl) (fun _ _ _ h => h) (Or.inl ⟨by rfl, ?_⟩) ?_ ?_
    rotate_left
    · intro w'
      go_simp
      with_reducible rfl
    rotate_left
    · simp only [Act.put, sIB, sCz, sCs, i64_w, i32_w]
      rfl
    refine pure_ (i := 14) (N := some 67) (v := ?_) (a' := ?_) #[true, true, true, true, true, true, true, true, true, true, true, true, true, true, true, false, false, false] rfl rfl (by kernel_rfl) (fun _ _ _ h => h) (Or.inl ⟨by rfl, ?_⟩) ?_ ?_
    rotate_left
    · intro w'
      go_simp
      with_reducible rfl
    rotate_left
    · simp only [Act.put, sIB, sCz, sCs, i64_w, i32_w]
      rfl
    refine one_ (i := 15) (N := some 68) #[true, true, true, true, true, true, true, true, true, true, true, true, true, true, true, true, false, false] rfl rfl (by kernel_rfl) (by decide) (fun K hK => ?_)
    refine goes_ Tryz.func17 (by kernel_rfl) rfl #[] (by rfl) rfl rfl (by simp) ?_
    with_reducible refine (known19_ _).mono ?_
    rintro e w13 ⟨rfl, hb13⟩
    refine ⟨_, rfl, ?_⟩
    have B13 := Aside0.mk (B12.out.below hb13)
    clear hb13
    refine hK.out _ _ trivial (fun hHeld => ?_)
    clear hK K
    refine norm_ (a' := ?_) ?_ ?_
    rotate_left
    · show Act.put _ (some 68) _ = _
      simp only [Act.put, sIB, sCz, sCs, i64_w, i32_w]
      rfl
    refine pure_ (i := 16) (N := some 69) (v := ?_) (a' := ?_) #[true, true, true, true, true, true, true, true, true, true, true, true, true, true, true, true, true, false] rfl rfl (by kernel_rfl) (fun _ _ _ h => h) (Or.inl ⟨by rfl, ?_⟩) ?_ ?_
    rotate_left
    · intro w'
      go_simp
      with_reducible rfl
    rotate_left
    · simp only [Act.put, sIB, sCz, sCs, i64_w, i32_w]
      rfl
    refine pure_ (i := 17) (N := some 4) (v := ?_) (a' := ?_) #[true, true, true, true, true, true, true, true, true, true, true, true, true, true, true, true, true, true] rfl rfl (by kernel_rfl) (fun _ _ _ h => h) (Or.inl ⟨by rfl, ?_⟩) ?_ ?_
    rotate_left
    · intro w'
      go_simp
      with_reducible rfl
    rotate_left
    · simp only [Act.put, sIB, sCz, sCs, i64_w, i32_w]
      rfl
    refine done_ (by kernel_rfl) ?_
    go_wp2_with fail
    go_ret
    exact ⟨by first | rfl | (simp; done), B13.out.toBelow⟩
end Go.Proofs.YtjngnigelkgekaaGreat.Heal
namespace Go.Proofs.YtjngnigelkgekaaGreat.Kit
open Go.ChangeShapes Go.WideShapes Go.ChangeAt Go.RowKit Go.Proofs.YtjngnigelkgekaaGreatW.PrintWords
section
variable {H : Type} {enc : TypeId × Value → H} {P : Program} {W : World} {base : Nat} {sp : Nat → Bool} {held : Bool}
theorem ints_C {T E : TypeId} {k : IntKind} {a : Option Addr} {len cap : Nat} {d : DataW H} {p : List MemPlace} (hT : P.underlying T = some (.slice E)) (hE : P.underlying E = some (.int k)) (hc : P.cellsOf E = 1)
    (h : DataW.Trod enc P W base (fun _ => true) held T (.slice a len cap) d p) : ∃ xs : List Int, len ≤ cap ∧ (Kd.int k).C W a len xs ∧ ∀ n ∈ xs, (Lit.int k n).wf = true := by
  obtain ⟨fuel, hf⟩ := h
  rcases open_ints hT hE hc hf with ⟨hcs, _⟩ | ⟨x, l, c, zs, hcs, _, hl, hm, hz, _, hcell, hwz⟩
  · simp [Value.cells] at hcs
    obtain ⟨rfl, rfl, rfl⟩ := hcs
    exact ⟨[], Nat.le_refl _, Kd.C_nil _ _, by simp⟩
  · simp [Value.cells] at hcs
    obtain ⟨rfl, rfl, rfl⟩ := hcs
    simp at hz
    simp only [maxLen] at hm
    refine ⟨zs.take len, hl, Kd.C_of_reads (d := (0 : Int)) (h1 := fun _ => rfl) ⟨by rw [List.length_take]; omega, by omega, fun h0 => ⟨x, rfl, fun j hj => ?_⟩⟩, fun n hn => hwz n (List.mem_of_mem_take hn)⟩
    rw [hcell j (by omega), List.getD_eq_getElem?_getD, List.getD_eq_getElem?_getD, List.getElem?_take, if_pos hj]
end
end Go.Proofs.YtjngnigelkgekaaGreat.Kit
namespace Go.Proofs.YtjngnigelkgekaaGreatW.PrintWords
end Go.Proofs.YtjngnigelkgekaaGreatW.PrintWords
