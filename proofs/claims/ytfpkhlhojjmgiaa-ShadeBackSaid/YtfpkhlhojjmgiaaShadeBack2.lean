/- ShadeBack: the walk. -/
import Derived.Test.YtfpkhlhojjmgiaaShadeBack1
import Derived.Test.YtfpkhlhojjmgiaaCellsCopies
namespace Go.Proofs.Ytfpkhlhojjmgiaa.Shade
set_option linter.unusedVariables false
set_option linter.unusedSimpArgs false
open Go.RowKit Go.Proofs.YtfpkhlhojjmgiaaW.PrintWords Go.Proofs.YtfpkhlhojjmgiaaW.PrintLast Go.Proofs.YtfpkhlhojjmgiaaW.PrintMore Go.Proofs.Ytfpkhlhojjmgiaa.Kit Go.Proofs.Ytfpkhlhojjmgiaa.Base Go.Proofs.Ytfpkhlhojjmgiaa.Plain Go.Proofs.Ytfpkhlhojjmgiaa.Cells
theorem str_c {W : World} {A : Option Addr} {n c : Nat} {xs : List Int} (h : U8.C W A n xs) : (convert 22 9 (.slice A n c)).run Try.prog W = .ok (.string (strOfNums xs)) W := by
  obtain rfl : xs.length = n := h.1
  exact Kd.C_string (P := Try.prog) (c := c) Try.underlying22 Try.underlying5 Try.underlying9 h
theorem mem_most {w0 W : World} {F : List HP} {g : Nat} {b : List Int} {most : Int} {dirty : List Bool} (h : Sep w0 W (Mem g b most dirty :: F)) : (dirty.length : Int) ≤ most := by
  obtain ⟨Ab, cb, Ad, cd, hn, hs⟩ := open_ h
  omega
set_option maxHeartbeats 6400000 in
set_option maxRecDepth 100000 in
theorem shadeBack_ {A0 A1 : Option Addr} {n0 c0 n1 c1 : Nat} {a l : List Int} {w : World} (h0 : U8.C w A0 n0 a) (h1 : I64.C w A1 n1 l) :
    Calls Try.prog 10 #[.slice A0 n0 c0, .slice A1 n1 c1] w fun e w' => e = .returned (.bool true) ∧ Below w.heap.size w w' := by
  have hmk := make_ (m := 256) (by omega)
  rw [show ((256 : Nat) : Int) = 256 from rfl] at hmk
  have hm0 : n0 ≤ 9223372036854775807 := h0.2.1
  have hm1 : n1 ≤ 9223372036854775807 := h1.2.1
  have H0 := Aside0.mk h0
  have H1 := Aside0.mk h1
  have M1 := Aside0.mk (madeB 256 (Sep.start w) (by omega))
  clear h0 h1
  go_enter Try.func10, Try.ntmps10
  go_wp2_with fail
  refine (of_ok (k := 256) (n := 4) (l := List.replicate 256 0) (most := 8) M1.out.rowC' (Nat.le_refl _) rfl (by decide) (by decide)).mono ?_
  rintro e w2 ⟨g, rfl, hS2⟩
  have A2 := Aside0.mk hS2
  have AW := Aside0.mk M1.out.toBelow
  have AW2 := Aside0.mk (M1.out.tail.lift1 hS2)
  clear hS2 hmk
  obtain ⟨M, hM0, hM1, hM2⟩ : ∃ M, M ≤ n0 ∧ M ≤ 30 ∧ (M = n0 ∨ M = 30) := ⟨min n0 30, by omega, by omega, by omega⟩
  go_wp2_with fail
  go_loopg [6] M (fun m v wr => ∃ (i : Nat) (q : List Int) (D : List Bool), v = .int .i64 (i : Int) ∧ i + m = M ∧ q.length = 256 ∧ Sep w wr [Mem g q 8 D])
  case atStart => exact ⟨0, _, _, rfl, by omega, List.length_replicate, AW2.out⟩
  case round =>
    obtain ⟨i, q, D, rfl, him, hq, hS⟩ := hrel
    have AK := Aside0.mk him
    have AS := Aside0.mk hS
    have HQ := Aside0.mk hq
    clear hS hq
    by_cases hi : i < M
    · have hi0 : (i : Int) < (n0 : Int) := by omega
      have hi0' : decide ((i : Int) < (n0 : Int)) = true := decide_eq_true hi0
      have hi1 : (i : Int) < 30 := by omega
      have hw : wrap64 ((i : Int) * 8) = (i : Int) * 8 := IntWalk.wrap64_in _ (by omega)
      obtain ⟨ad, hA, hc⟩ := byte_at H0.out (i := i) (by omega)
      subst hA
      have z0 := cell_later AS.out.toBelow hc
      generalize rd a (i : Int) = x at *
      clear him hc
      go_wp2_with fail
      refine (store_any AS.out _ _ true).mono ?_
      rintro e w3 ⟨q', D', r, rfl, hq', hD', hS3⟩
      have A3 := Aside0.mk hS3
      have HQ' := Aside0.mk (hq'.trans HQ.out)
      clear hS3 hq' hD' z0
      go_wp2_with fail
      go_roundg (gk - 1)
      case measure => have := AK.out; omega
      case rel => exact ⟨i + 1, q', D', by go_num, by have := AK.out; omega, HQ'.out, A3.out⟩
    · obtain rfl : i = M := by omega
      have hcond : ¬ (i < n0 ∧ i < 30) := by omega
      have hml := mem_len AS.out
      have HD : Aside0 (D.length = 4) := ⟨by have := HQ.out; omega⟩
      have HC := Aside0.mk hcond
      clear hml him hcond AK
      have hex : ((i : Int) < (n0 : Int)) = False ∨ (((i : Int) < (n0 : Int)) = True ∧ ((i : Int) < 30) = False) := by
        by_cases h : i < n0
        · exact .inr ⟨eq_true (by omega), eq_false (by have := HC.out; omega)⟩
        · exact .inl (eq_false (by omega))
      have HEX := Aside0.mk hex
      clear hex HC
      rcases HEX.out with hb1 | ⟨hb1, hb2⟩
      · clear HEX
        go_wp2_with fail
        refine (copy_ AS.out).mono ?_
        rintro e w3 ⟨g2, rfl, hS3⟩
        have A3 := Aside0.mk hS3
        clear hS3 hb1
        obtain ⟨N, hN0, hN1, hN2⟩ : ∃ N, N ≤ n1 ∧ N ≤ 9 ∧ (N = n1 ∨ N = 9) := ⟨min n1 9, by omega, by omega, by omega⟩
        go_wp2_with fail
        go_loopg [8] N (fun m v wr => ∃ (j : Nat) (q2 : List Int) (D2 : List Bool), v = .int .i64 (j : Int) ∧ j + m = N ∧ 4 ≤ D2.length ∧ Sep w wr [Mem g2 q2 8 D2, Mem g q 8 D])
        case atStart => exact ⟨0, _, _, rfl, by omega, by rw [List.length_replicate, HD.out]; exact Nat.le_refl _, A3.out⟩
        case round =>
          obtain ⟨j, q2, D2, rfl, hjm, hD2, hS⟩ := hrel
          have AK := Aside0.mk hjm
          have AS2 := Aside0.mk hS
          have HD2 := Aside0.mk hD2
          clear hS hD2
          by_cases hj : j < N
          · have hj0 : (j : Int) < (n1 : Int) := by omega
            have hj1 : (j : Int) < 9 := by omega
            obtain ⟨ad, hA, hc⟩ := Kd.at_int H1.out (j : Int) (by omega) (by omega)
            subst hA
            rw [Int.toNat_natCast] at hc
            have HX := Aside0.mk hc
            have z0 := cell_later AS2.out.drew.toBelow hc
            generalize rd l (j : Int) = x at *
            have AD := Aside0.mk AS2.out.drew
            clear hjm hc
            go_wp2_with fail
            refine start_ (n := 11) (S := fun w' => w'.cell? (ad.add j) = some (.int .i64 x)) (ds := [10]) #[false, false, false, false, false, false, false, false, false, false, false] (by kernel_rfl) rfl rfl (z0) (fun hHeld => ?_)
            refine pure_ (i := 0) (N := some 53) (v := ?_) (a' := ?_) #[true, false, false, false, false, false, false, false, false, false, false] rfl rfl (by kernel_rfl) (fun _ _ _ h => h) (Or.inl ⟨by rfl, ?_⟩) ?_ ?_
            rotate_left
            · intro w'
              go_simp
              with_reducible rfl
            rotate_left
            · simp only [Act.put, List.setIfInBounds_toArray, List.set_cons_zero, List.set_cons_succ, i64_w, i32_w]
              rfl
            refine pure_ (i := 1) (N := some 54) (v := ?_) (a' := ?_) #[true, true, false, false, false, false, false, false, false, false, false] rfl rfl (by kernel_rfl) (fun _ _ _ h => h) (Or.inl ⟨by rfl, ?_⟩) ?_ ?_
            rotate_left
            · intro w'
              go_simp
              with_reducible rfl
            rotate_left
            · simp only [Act.put, List.setIfInBounds_toArray, List.set_cons_zero, List.set_cons_succ, i64_w, i32_w]
              rfl
            refine pure_ (i := 2) (N := some 55) (v := ?_) (a' := ?_) #[true, true, true, false, false, false, false, false, false, false, false] rfl rfl (by kernel_rfl) (fun _ _ _ h => h) (Or.inl ⟨by rfl, ?_⟩) ?_ ?_
            rotate_left
            · intro w'
              go_simp
              with_reducible rfl
            rotate_left
            · simp only [Act.put, List.setIfInBounds_toArray, List.set_cons_zero, List.set_cons_succ, i64_w, i32_w]
              rfl
            refine pure_ (i := 3) (N := some 56) (v := ?_) (a' := ?_) #[true, true, true, true, false, false, false, false, false, false, false] rfl rfl (by kernel_rfl) (fun _ _ _ h => h) (Or.inl ⟨by rfl, ?_⟩) ?_ ?_
            rotate_left
            · intro w'
              go_simp
              with_reducible rfl
            rotate_left
            · simp only [Act.put, List.setIfInBounds_toArray, List.set_cons_zero, List.set_cons_succ, i64_w, i32_w]
              rfl
            refine pure_ (i := 6) (N := some 59) (v := ?_) (a' := ?_) #[true, true, true, true, false, false, true, false, false, false, false] rfl rfl (by kernel_rfl) (fun _ _ _ h => h) (Or.inl ⟨by rfl, ?_⟩) ?_ ?_
            rotate_left
            · intro w'
              go_simp
              with_reducible rfl
            rotate_left
            · simp only [Act.put, List.setIfInBounds_toArray, List.set_cons_zero, List.set_cons_succ, i64_w, i32_w]
              rfl
            refine pure_ (i := 7) (N := some 60) (v := ?_) (a' := ?_) #[true, true, true, true, false, false, true, true, false, false, false] rfl rfl (by kernel_rfl) (fun _ _ _ h => h) (Or.inl ⟨by rfl, ?_⟩) ?_ ?_
            rotate_left
            · intro w'
              go_simp
              with_reducible rfl
            rotate_left
            · simp only [Act.put, List.setIfInBounds_toArray, List.set_cons_zero, List.set_cons_succ, i64_w, i32_w]
              rfl
            refine pure_ (i := 8) (N := some 61) (v := ?_) (a' := ?_) #[true, true, true, true, false, false, true, true, true, false, false] rfl rfl (by kernel_rfl) (fun _ _ _ h => h) (Or.inl ⟨by rfl, ?_⟩) ?_ ?_
            rotate_left
            · intro w'
              go_simp
              with_reducible rfl
            rotate_left
            · simp only [Act.put, List.setIfInBounds_toArray, List.set_cons_zero, List.set_cons_succ, i64_w, i32_w]
              rfl
            refine take_ (i := 4) (N := some 57) (v := ?_) (a' := ?_) #[true, true, true, true, true, false, true, true, true, false, false] rfl rfl (by kernel_rfl) (fun _ _ _ h => h) (Or.inl ⟨by rfl, ?_⟩) hHeld ?_ ?_
            rotate_left
            · intro w' s0
              go_simp
              with_reducible rfl
            rotate_left
            · simp only [Act.put, List.setIfInBounds_toArray, List.set_cons_zero, List.set_cons_succ, i64_w, i32_w]
              rfl
            refine pure_ (i := 5) (N := some 58) (v := ?_) (a' := ?_) #[true, true, true, true, true, true, true, true, true, false, false] rfl rfl (by kernel_rfl) (fun _ _ _ h => h) (Or.inl ⟨by rfl, ?_⟩) ?_ ?_
            rotate_left
            · intro w'
              go_simp
              with_reducible rfl
            rotate_left
            · simp only [Act.put, List.setIfInBounds_toArray, List.set_cons_zero, List.set_cons_succ, i64_w, i32_w]
              rfl
            refine take_ (i := 9) (N := some 62) (v := ?_) (a' := ?_) #[true, true, true, true, true, true, true, true, true, true, false] rfl rfl (by kernel_rfl) (fun _ _ _ h => h) (Or.inl ⟨by rfl, ?_⟩) hHeld ?_ ?_
            rotate_left
            · intro w' s0
              go_simp
              with_reducible rfl
            rotate_left
            · simp only [Act.put, List.setIfInBounds_toArray, List.set_cons_zero, List.set_cons_succ, i64_w, i32_w]
              rfl
            refine last_ (i := 10) (N := some 63) #[true, true, true, true, true, true, true, true, true, true, true] rfl rfl (by kernel_rfl) (by decide) (fun K hK => ?_)
            refine goes_ Try.func12 (by kernel_rfl) rfl #[.pointer (some ⟨g2, 0, none⟩), .int .i64 (x.tmod 256), .int .i64 x, .bool false] (by rfl) rfl rfl (by simp only [List.map_toArray, List.map_cons, List.map_nil]; rfl) ?_
            with_reducible refine (store_any AD.out (x.tmod 256) x false).mono ?_
            rintro e w4 ⟨q4, D4, r4, rfl, hq4, hD4, hS4⟩
            refine ⟨_, rfl, ?_⟩
            have A4 := Aside0.mk hS4
            have HD4 : Aside0 (4 ≤ D4.length) := ⟨by have := HD2.out; omega⟩
            clear hS4 hq4 hD4
            refine hK.out _ _ ?_
            clear hK K
            refine norm_ (a' := ?_) ?_ ?_
            rotate_left
            · show Act.put _ (some 63) _ = _
              simp only [Act.put, List.setIfInBounds_toArray, List.set_cons_zero, List.set_cons_succ, i64_w, i32_w]
              rfl
            refine done_ (by kernel_rfl) ?_
            have z1 := cell_later A4.out.toBelow HX.out
            clear z0
            by_cases h7 : bits .and .i64 x 7 = 7
            · have hm8 := mem_most A4.out
              by_cases h8 : D4.length < 8
              · go_wp2_with fail
                refine (grow_in A4.out 1 (by omega)).mono ?_
                rintro e w5 ⟨rfl, hS5⟩
                have A5 := Aside0.mk hS5
                clear hS5
                go_wp2_with fail
                go_roundg (gk - 1)
                case measure => have := AK.out; omega
                case rel => exact ⟨j + 1, _, _, by go_num, by have := AK.out; omega, by rw [List.length_append]; have := HD4.out; omega, A5.out⟩
              · go_wp2_with fail
                refine (grow_out A4.out 1 (.inr (by omega))).mono ?_
                rintro e w5 ⟨rfl, rfl⟩
                go_wp2_with fail
                go_roundg (gk - 1)
                case measure => have := AK.out; omega
                case rel => exact ⟨j + 1, _, _, by go_num, by have := AK.out; omega, HD4.out, A4.out⟩
            · go_wp2_with fail
              go_roundg (gk - 1)
              case measure => have := AK.out; omega
              case rel => exact ⟨j + 1, _, _, by go_num, by have := AK.out; omega, HD4.out, A4.out⟩
          · obtain rfl : j = N := by omega
            have HC2 : Aside0 (((j : Int) < (n1 : Int)) = False ∨ (((j : Int) < (n1 : Int)) = True ∧ ((j : Int) < 9) = False)) := ⟨by
              by_cases h : j < n1
              · exact .inr ⟨eq_true (by omega), eq_false (by omega)⟩
              · exact .inl (eq_false (by omega))⟩
            have hml := mem_len AS2.out
            have hmm := mem_most AS2.out
            obtain ⟨k2, hk2⟩ : ∃ k2, D2.length = k2 := ⟨_, rfl⟩
            rw [hk2] at hml hmm
            have HK : Aside0 (q2.length = 64 * k2 ∧ 4 ≤ k2 ∧ k2 ≤ 8 ∧ D2.length = k2) := ⟨by have := HD2.out; omega⟩
            clear hml hmm hk2 hjm AK hN2 hM2
            rcases HC2.out with hb1 | ⟨hb1, hb2⟩
            · clear HC2
              go_wp2_with fail
              have L0 := Aside0.mk (AS2.out.litRow (enc := Value.int .u8) (h1 := fun _ => rfl) (e := 5) [] (by decide)).at3
              refine (bytes_ L0.out).mono ?_
              rintro e w6 ⟨v6, rfl, hS6⟩
              obtain ⟨A6, c6, rfl⟩ := hS6.rowN HQ.out
              have B6 := Aside0.mk hS6.at3
              clear hS6 L0
              go_wp2_with (first
                | (refine gate_builtin (b := .append) (xs := #[.tmp 72, .tmp 74]) rfl ?_; go_loud (refine B6.out.appendRow rfl (.tmp 72) (.tmp 74) 22 (.int .u8 0) 1 rfl Try.underlying22 infoB rfl (by decide) A6 256 c6 rfl rfl B6.out.at2.rowC' (by rw [HQ.out]; decide) ?_; intro v7 w7 hS7; rw [List.nil_append] at hS7; have A7 := Aside0.mk hS7.drop2; clear hS7))
                | (refine gate_builtin (b := .append) (xs := #[.tmp 75, .const (.int .i64 256)]) rfl ?_; go_loud (refine A7.out.zerosRow (0 : Int) rfl (.tmp 75) (.const (.int .i64 256)) 22 3 1 rfl Try.underlying22 Try.underlying3 infoB rfl (by decide) 256 rfl rfl (by rw [HQ.out]; decide) ?_; intro v8 w8 hS8; obtain ⟨A8, c8, rfl⟩ := hS8.rowN (n := 512) (by rw [List.length_append, HQ.out, List.length_replicate]); have hc8 := hS8.rowC.2.1; have A8' := Aside0.mk (hS8.fxRow.nilRow KV 22); clear hS8)))
              obtain ⟨b, hb⟩ : ∃ b, q ++ List.replicate 256 0 = b := ⟨_, rfl⟩
              rw [hb] at A8'
              have HBE := Aside0.mk hb
              have HBL : Aside0 (b.length = 512) := ⟨by rw [← hb, List.length_append, HQ.out, List.length_replicate]⟩
              clear hb
              go_loopg [9, 11] 8 (fun m v s wr => ∃ (k : Nat) (cs : List OV), s = .int .i64 (64 * (k : Int)) ∧ k + m = 8 ∧ (∀ W : World, U8.C W A8 512 b → EachV KP (pagesOf b k) cs W) ∧ Sep w wr (Row KV 22 v cs :: Fx (fun W => U8.C W A8 512 b) :: [Mem g q 8 D, Mem g2 q2 8 D2]))
              case atStart => exact ⟨0, [], rfl, rfl, fun W _ => EachV.nil KP W, A8'.out⟩
              case round =>
                obtain ⟨k, cs, rfl, hkm, hE, hS⟩ := hrel
                have AK3 := Aside0.mk hkm
                have HE := Aside0.mk hE
                have hcl : cs.length = k := by
                  have := (hE _ hS.at2.fx).1
                  rw [← this]; simp [pagesOf]
                obtain ⟨A9, c9, rfl⟩ := hS.rowN hcl
                have AS3 := Aside0.mk hS
                have HCL := Aside0.mk hcl
                clear hS hE hcl
                by_cases hk : k < 8
                · have hkp : 64 * (k : Int) < 512 := by omega
                  have hw : wrap64 (64 * (k : Int) + 64) = 64 * (k : Int) + 64 := IntWalk.wrap64_in _ (by omega)
                  obtain ⟨A', hcut, hT⟩ := Base.mid8 (A := A8) (n := 512) (c := c8) (a := 64 * k) (b := 64 * (k + 1)) (J := 64 * (k : Int)) (K := 64 * (k : Int) + 64) (l := b) (by omega) (by omega) HBL.out (by omega) (by omega) hc8
                  rw [show 64 * (k + 1) - 64 * k = 64 by omega] at hcut hT
                  obtain ⟨c', hc'⟩ : ∃ c', c8 - 64 * k = c' := ⟨_, rfl⟩
                  rw [hc'] at hcut
                  have hpl : (pg b k).length = 64 := by unfold pg; rw [List.length_take, List.length_drop, HBL.out]; omega
                  have HT : Aside0 (∀ W : World, U8.C W A8 512 b → KP.K W (pg b k) [.slice A' 64 c']) := ⟨fun W hC => ⟨A', c', by rw [hpl], by rw [hpl]; omega, by
                    have := hT W hC
                    rw [← pageF_in (by rw [HBL.out]; omega), pageF_pg (by rw [HBL.out]; omega)] at this
                    rw [hpl]; exact this⟩⟩
                  have L9 : Aside0 (Sep w (wr.alloc (.cells #[.slice A' 64 c'] 22)) (Row KV 22 (.slice A9 k c9) cs :: Row KV 22 (.slice (some ⟨wr.heap.size, 0, none⟩) 1 1) [⟨.slice A' 64 c', rfl⟩] :: Fx (fun W => U8.C W A8 512 b) :: [Mem g q 8 D, Mem g2 q2 8 D2])) := ⟨(AS3.out.litRow (enc := fun x : OV => x.1) (h1 := fun x => x.2) (e := 22) [⟨.slice A' 64 c', rfl⟩] (by simp)).at2⟩
                  clear hkm hT hc' hpl
                  go_wp2_with (first | (refine gate_builtin (b := .append) (xs := #[.tmp 83, .tmp 89]) rfl ?_; go_loud (refine L9.out.appendRow rfl (.tmp 83) (.tmp 89) 71 _ 24 rfl Try.underlying71 infoS rfl (by decide) (some ⟨wr.heap.size, 0, none⟩) 1 1 rfl rfl L9.out.at2.rowC' (by rw [HCL.out]; simp; omega) ?_; intro v10 w10 hS10; have A10 := Aside0.mk hS10.drop2; clear hS10)))
                  go_roundg (gk - 1)
                  case measure => have := AK3.out; omega
                  case rel => exact ⟨k + 1, _, by go_num, by have := AK3.out; omega, fun W hC => by rw [pagesOf_snoc]; exact (HE.out W hC).snoc (HT.out W hC), A10.out⟩
                · obtain rfl : k = 8 := by omega
                  clear hkm AK3
                  have HKP := Aside0.mk (eachV_C (d := KP) rfl AS3.out.rowC' (HE.out _ AS3.out.at2.fx))
                  have B9 := Aside0.mk (AS3.out.perm (List.perm_append_comm (l₁ := [_, _]) (l₂ := [_, _])))
                  go_wp2_with fail
                  refine (changes_ (first := 0) (L := [Mem g q 8 D, Mem g2 q2 8 D2, _, _]) B9.out (.refl _) (.swap _ _ _) (by decide)).mono ?_
                  rintro e w10 ⟨v10, rfl, hS10⟩
                  rw [HD.out, HK.out.2.2.2] at hS10
                  have hbl := back_law HQ.out HK.out.1 HK.out.2.2.1 k2 (Nat.le_refl _)
                  rw [HBE.out] at hbl
                  have hcl := changes_len (b1 := q) (b2 := q2) (n1 := 4) (first := 0) (n2 := k2) (by rw [HK.out.1]; exact Nat.le_refl _)
                  obtain ⟨ch, hch⟩ : ∃ ch, changesF q q2 4 k2 0 = ch := ⟨_, rfl⟩
                  rw [hch] at hS10 hbl hcl
                  obtain ⟨A10, c10, rfl⟩ := hS10.rowV
                  have B10 := Aside0.mk hS10
                  have HBLW := Aside0.mk (And.intro hbl hcl)
                  have HKP10 := Aside0.mk (eachV_C (d := KP) rfl hS10.at4.rowC' (HE.out _ (hS10.at5.fx)))
                  clear hS10 hbl hcl hch
                  go_wp2_with fail
                  refine (apply_ HKP10.out B10.out.rowC.2.2 (by decide) pages_len HBLW.out.2).mono ?_
                  rintro e w11 ⟨v11, rfl, hS11⟩
                  rw [HBLW.out.1] at hS11
                  obtain ⟨A11, c11, rfl⟩ := hS11.rowVN (n := 8) (by rw [List.length_map]; rfl)
                  have B11 := Aside0.mk (Sep.weakR (L := [_, _]) (B10.out.lift1 hS11).at4)
                  clear hS11 B10 B9
                  go_wp2_with fail
                  go_loopg [12, 97] 8 (fun m s p wr => ∃ k : Nat, p = .int .i64 (k : Int) ∧ k + m = 8 ∧ s = .string (strOfNums ((List.range k).flatMap (endF b q2 k2))) ∧ Sep w wr [Mem g2 q2 8 D2, RowV KP 22 (.slice A11 8 c11) ((List.range 8).map (endF b q2 k2))])
                  case atStart => exact ⟨0, rfl, rfl, rfl, B11.out⟩
                  case round =>
                    obtain ⟨k, rfl, hkm, rfl, hS⟩ := hrel
                    have AK4 := Aside0.mk hkm
                    have AS4 := Aside0.mk hS
                    by_cases hk : k < 8
                    · have hkp : (k : Int) < 8 := by omega
                      obtain ⟨hx, ad, B, cB, rfl, e0, e1, e2⟩ := elemP (hS.at2.rowVC rfl).2.2 hk
                      have hex : ((List.range 8).map (endF b q2 k2))[k] = endF b q2 k2 k := by rw [List.getElem_map, List.getElem_range]
                      rw [hex] at e0 e1 e2
                      have hel : (endF b q2 k2 k).length = 64 := by rw [← HBE.out]; exact endF_len HQ.out HK.out.1 HK.out.2.2.1 hk
                      have hfl : ((List.range k).flatMap (endF b q2 k2)).length = 64 * k := by rw [← HBE.out]; exact flat_len HQ.out HK.out.1 HK.out.2.2.1 k (by omega)
                      have hst := str_c (c := cB) e2
                      have HAP : Aside0 (strOfNums ((List.range k).flatMap (endF b q2 k2)) ++ strOfNums (endF b q2 k2 k) = strOfNums ((List.range (k + 1)).flatMap (endF b q2 k2))) := ⟨by rw [str_app, List.range_succ, List.flatMap_append]; simp⟩
                      have hsz : (strOfNums ((List.range k).flatMap (endF b q2 k2))).size + (strOfNums (endF b q2 k2 k)).size ≤ 9223372036854775807 := by rw [strOfNums_size, strOfNums_size, hel, hfl]; omega
                      rw [hel] at e0 hst
                      generalize strOfNums ((List.range k).flatMap (endF b q2 k2)) = sa at *
                      generalize strOfNums (endF b q2 k2 k) = sb at *
                      have hsz' : ¬ (sa.size + sb.size > 9223372036854775807) := by omega
                      have hadd : ∀ W : World, (Op.stringOp .add sa sb).run Try.prog W = .ok (.string (sa ++ sb)) W := fun W => run_string_add_sum W sa sb hsz
                      clear hS hkm e1 e2 hex hel hfl hx
                      go_wp2_with fail
                      go_roundg (gk - 1)
                      case measure => have := AK4.out; omega
                      case rel => exact ⟨k + 1, by go_num, by have := AK4.out; omega, by rw [← HAP.out], AS4.out⟩
                    · obtain rfl : k = 8 := by omega
                      have HFA := Aside0.mk (flat_all HQ.out HK.out.1 HK.out.2.2.1)
                      have HFL := Aside0.mk (flat_len HQ.out HK.out.1 HK.out.2.2.1 8 (Nat.le_refl _))
                      rw [HBE.out] at HFA HFL
                      generalize (List.range 8).flatMap (endF b q2 k2) = ff at *
                      have hsz : (strOfNums ff).size = 512 := by rw [strOfNums_size, HFL.out]
                      obtain ⟨N2, hN2⟩ : ∃ N2, 64 * k2 = N2 := ⟨_, rfl⟩
                      have hk8 : N2 ≤ 512 := by have := HK.out; omega
                      have hcut : ∀ W : World, (Instr.slice 9 (.string (strOfNums ff)) none (some (.int .i64 (N2 : Int))) none).run Try.prog W = .ok (.string (strOfNums q2)) W := fun W => by
                        rw [run_slice_string_h W 9 _ Try.underlying9 .i64 _ (by omega) (by rw [hsz]; omega), Int.toNat_natCast, str_cut, ← hN2, HFA.out]
                      have HQ2 : Aside0 (q2.length = N2) := ⟨by rw [← hN2]; exact HK.out.1⟩
                      clear hN2
                      clear hS hkm AK4
                      generalize strOfNums ff = sf at *
                      go_wp2_with fail
                      refine (bytes_ AS4.out).mono ?_
                      rintro e w12 ⟨v12, rfl, hS12⟩
                      obtain ⟨A12, c12, rfl⟩ := hS12.rowN (n := N2) HQ2.out
                      have B12 := Aside0.mk hS12.tail.drew
                      clear hS12
                      have hk9 : (N2 : Int) ≤ 512 := by omega
                      go_wp2_with fail
                      refine start_ (n := 20) (S := fun w' => True) (ds := [17]) #[false, false, false, false, false, false, false, false, false, false, false, false, false, false, false, false, false, false, false, false] (by kernel_rfl) rfl rfl trivial (fun hHeld => ?_)
                      refine pure_ (i := 0) (N := some 109) (v := ?_) (a' := ?_) #[true, false, false, false, false, false, false, false, false, false, false, false, false, false, false, false, false, false, false, false] rfl rfl (by kernel_rfl) (fun _ _ _ h => h) (Or.inl ⟨by rfl, ?_⟩) ?_ ?_
                      rotate_left
                      · intro w'
                        go_simp
                        with_reducible rfl
                      rotate_left
                      · simp only [Act.put, List.setIfInBounds_toArray, List.set_cons_zero, List.set_cons_succ, i64_w, i32_w]
                        rfl
                      refine pure_ (i := 1) (N := some 110) (v := ?_) (a' := ?_) #[true, true, false, false, false, false, false, false, false, false, false, false, false, false, false, false, false, false, false, false] rfl rfl (by kernel_rfl) (fun _ _ _ h => h) (Or.inl ⟨by rfl, ?_⟩) ?_ ?_
                      rotate_left
                      · intro w'
                        go_simp
                        with_reducible rfl
                      rotate_left
                      · simp only [Act.put, List.setIfInBounds_toArray, List.set_cons_zero, List.set_cons_succ, i64_w, i32_w]
                        rfl
                      refine pure_ (i := 2) (N := some 111) (v := ?_) (a' := ?_) #[true, true, true, false, false, false, false, false, false, false, false, false, false, false, false, false, false, false, false, false] rfl rfl (by kernel_rfl) (fun _ _ _ h => h) (Or.inl ⟨by rfl, ?_⟩) ?_ ?_
                      rotate_left
                      · intro w'
                        go_simp
                        with_reducible rfl
                      rotate_left
                      · simp only [Act.put, List.setIfInBounds_toArray, List.set_cons_zero, List.set_cons_succ, i64_w, i32_w]
                        rfl
                      refine pure_ (i := 3) (N := some 112) (v := ?_) (a' := ?_) #[true, true, true, true, false, false, false, false, false, false, false, false, false, false, false, false, false, false, false, false] rfl rfl (by kernel_rfl) (fun _ _ _ h => h) (Or.inl ⟨by rfl, ?_⟩) ?_ ?_
                      rotate_left
                      · intro w'
                        go_simp
                        with_reducible rfl
                      rotate_left
                      · simp only [Act.put, List.setIfInBounds_toArray, List.set_cons_zero, List.set_cons_succ, i64_w, i32_w]
                        rfl
                      refine pure_ (i := 4) (N := some 113) (v := ?_) (a' := ?_) #[true, true, true, true, true, false, false, false, false, false, false, false, false, false, false, false, false, false, false, false] rfl rfl (by kernel_rfl) (fun _ _ _ h => h) (Or.inl ⟨by rfl, ?_⟩) ?_ ?_
                      rotate_left
                      · intro w'
                        go_simp
                        with_reducible rfl
                      rotate_left
                      · simp only [Act.put, List.setIfInBounds_toArray, List.set_cons_zero, List.set_cons_succ, i64_w, i32_w]
                        rfl
                      refine pure_ (i := 5) (N := some 114) (v := ?_) (a' := ?_) #[true, true, true, true, true, true, false, false, false, false, false, false, false, false, false, false, false, false, false, false] rfl rfl (by kernel_rfl) (fun _ _ _ h => h) (Or.inl ⟨by rfl, ?_⟩) ?_ ?_
                      rotate_left
                      · intro w'
                        go_simp
                        with_reducible rfl
                      rotate_left
                      · simp only [Act.put, List.setIfInBounds_toArray, List.set_cons_zero, List.set_cons_succ, i64_w, i32_w]
                        rfl
                      refine pure_ (i := 6) (N := some 115) (v := ?_) (a' := ?_) #[true, true, true, true, true, true, true, false, false, false, false, false, false, false, false, false, false, false, false, false] rfl rfl (by kernel_rfl) (fun _ _ _ h => h) (Or.inl ⟨by rfl, ?_⟩) ?_ ?_
                      rotate_left
                      · intro w'
                        go_simp
                        with_reducible rfl
                      rotate_left
                      · simp only [Act.put, List.setIfInBounds_toArray, List.set_cons_zero, List.set_cons_succ, i64_w, i32_w]
                        rfl
                      refine pure_ (i := 7) (N := some 116) (v := ?_) (a' := ?_) #[true, true, true, true, true, true, true, true, false, false, false, false, false, false, false, false, false, false, false, false] rfl rfl (by kernel_rfl) (fun _ _ _ h => h) (Or.inl ⟨by rfl, ?_⟩) ?_ ?_
                      rotate_left
                      · intro w'
                        go_simp
                        with_reducible rfl
                      rotate_left
                      · simp only [Act.put, List.setIfInBounds_toArray, List.set_cons_zero, List.set_cons_succ, i64_w, i32_w]
                        rfl
                      refine one_ (i := 8) (N := some 117) #[true, true, true, true, true, true, true, true, true, false, false, false, false, false, false, false, false, false, false, false] rfl rfl (by kernel_rfl) (by decide) (fun K hK => ?_)
                      refine goes_ Try.func13 (by kernel_rfl) rfl #[.pointer (some ⟨g2, 0, none⟩)] (by rfl) rfl rfl (by simp only [List.map_toArray, List.map_cons, List.map_nil]; rfl) ?_
                      with_reducible refine (bytes_ B12.out).mono ?_
                      rintro e w13 ⟨v13, rfl, hS13⟩
                      refine ⟨_, rfl, ?_⟩
                      obtain ⟨A13, c13, rfl⟩ := hS13.rowN (n := N2) HQ2.out
                      have hs13 := str_ hS13
                      have B13 := Aside0.mk hS13
                      clear hS13
                      refine hK.out _ _ trivial (fun hHeld => ?_)
                      clear hK K
                      refine norm_ (a' := ?_) ?_ ?_
                      rotate_left
                      · show Act.put _ (some 117) _ = _
                        simp only [Act.put, List.setIfInBounds_toArray, List.set_cons_zero, List.set_cons_succ, i64_w, i32_w]
                        rfl
                      refine one_ (i := 9) (N := some 118) #[true, true, true, true, true, true, true, true, true, true, false, false, false, false, false, false, false, false, false, false] rfl rfl (by kernel_rfl) (by decide) (fun K hK => ?_)
                      refine value_ (w1 := ?_) (v := ?_) (by rfl) rfl ?_ ?_
                      rotate_left 2
                      · go_simp
                        constructor
                        · rfl
                        · rfl
                      refine hK.out _ _ trivial (fun hHeld => ?_)
                      clear hK K
                      refine norm_ (a' := ?_) ?_ ?_
                      rotate_left
                      · show Act.put _ (some 118) _ = _
                        simp only [Act.put, List.setIfInBounds_toArray, List.set_cons_zero, List.set_cons_succ, i64_w, i32_w]
                        rfl
                      refine pure_ (i := 10) (N := some 119) (v := ?_) (a' := ?_) #[true, true, true, true, true, true, true, true, true, true, true, false, false, false, false, false, false, false, false, false] rfl rfl (by kernel_rfl) (fun _ _ _ h => h) (Or.inl ⟨by rfl, ?_⟩) ?_ ?_
                      rotate_left
                      · intro w'
                        go_simp
                        with_reducible rfl
                      rotate_left
                      · simp only [Act.put, List.setIfInBounds_toArray, List.set_cons_zero, List.set_cons_succ, i64_w, i32_w]
                        rfl
                      refine pure_ (i := 11) (N := some 120) (v := ?_) (a' := ?_) #[true, true, true, true, true, true, true, true, true, true, true, true, false, false, false, false, false, false, false, false] rfl rfl (by kernel_rfl) (fun _ _ _ h => h) (Or.inl ⟨by rfl, ?_⟩) ?_ ?_
                      rotate_left
                      · intro w'
                        go_simp
                        with_reducible rfl
                      rotate_left
                      · simp only [Act.put, List.setIfInBounds_toArray, List.set_cons_zero, List.set_cons_succ, i64_w, i32_w]
                        rfl
                      refine pure_ (i := 12) (N := some 121) (v := ?_) (a' := ?_) #[true, true, true, true, true, true, true, true, true, true, true, true, true, false, false, false, false, false, false, false] rfl rfl (by kernel_rfl) (fun _ _ _ h => h) (Or.inl ⟨by rfl, ?_⟩) ?_ ?_
                      rotate_left
                      · intro w'
                        go_simp
                        with_reducible rfl
                      rotate_left
                      · simp only [Act.put, List.setIfInBounds_toArray, List.set_cons_zero, List.set_cons_succ, i64_w, i32_w]
                        rfl
                      refine pure_ (i := 13) (N := some 122) (v := ?_) (a' := ?_) #[true, true, true, true, true, true, true, true, true, true, true, true, true, true, false, false, false, false, false, false] rfl rfl (by kernel_rfl) (fun _ _ _ h => h) (Or.inl ⟨by rfl, ?_⟩) ?_ ?_
                      rotate_left
                      · intro w'
                        go_simp
                        with_reducible rfl
                      rotate_left
                      · simp only [Act.put, List.setIfInBounds_toArray, List.set_cons_zero, List.set_cons_succ, i64_w, i32_w]
                        rfl
                      refine pure_ (i := 14) (N := some 123) (v := ?_) (a' := ?_) #[true, true, true, true, true, true, true, true, true, true, true, true, true, true, true, false, false, false, false, false] rfl rfl (by kernel_rfl) (fun _ _ _ h => h) (Or.inl ⟨by rfl, ?_⟩) ?_ ?_
                      rotate_left
                      · intro w'
                        go_simp
                        with_reducible rfl
                      rotate_left
                      · simp only [Act.put, List.setIfInBounds_toArray, List.set_cons_zero, List.set_cons_succ, i64_w, i32_w]
                        rfl
                      refine pure_ (i := 15) (N := some 124) (v := ?_) (a' := ?_) #[true, true, true, true, true, true, true, true, true, true, true, true, true, true, true, true, false, false, false, false] rfl rfl (by kernel_rfl) (fun _ _ _ h => h) (Or.inl ⟨by rfl, ?_⟩) ?_ ?_
                      rotate_left
                      · intro w'
                        go_simp
                        with_reducible rfl
                      rotate_left
                      · simp only [Act.put, List.setIfInBounds_toArray, List.set_cons_zero, List.set_cons_succ, i64_w, i32_w]
                        rfl
                      refine pure_ (i := 16) (N := some 125) (v := ?_) (a' := ?_) #[true, true, true, true, true, true, true, true, true, true, true, true, true, true, true, true, true, false, false, false] rfl rfl (by kernel_rfl) (fun _ _ _ h => h) (Or.inl ⟨by rfl, ?_⟩) ?_ ?_
                      rotate_left
                      · intro w'
                        go_simp
                        with_reducible rfl
                      rotate_left
                      · simp only [Act.put, List.setIfInBounds_toArray, List.set_cons_zero, List.set_cons_succ, i64_w, i32_w]
                        rfl
                      refine last_ (i := 17) (N := some 126) #[true, true, true, true, true, true, true, true, true, true, true, true, true, true, true, true, true, true, false, false] rfl rfl (by kernel_rfl) (by decide) (fun K hK => ?_)
                      refine goes_ Try.func32 (by kernel_rfl) rfl #[] (by rfl) rfl rfl (by simp) ?_
                      with_reducible refine (known_ _).mono ?_
                      rintro e w14 ⟨rfl, hb14⟩
                      refine ⟨_, rfl, ?_⟩
                      refine hK.out _ _ ?_
                      clear hK K
                      refine norm_ (a' := ?_) ?_ ?_
                      rotate_left
                      · show Act.put _ (some 126) _ = _
                        simp only [Act.put, List.setIfInBounds_toArray, List.set_cons_zero, List.set_cons_succ, i64_w, i32_w]
                        rfl
                      refine pure_ (i := 18) (N := some 127) (v := ?_) (a' := ?_) #[true, true, true, true, true, true, true, true, true, true, true, true, true, true, true, true, true, true, true, false] rfl rfl (by kernel_rfl) (fun _ _ _ h => h) (Or.inl ⟨by rfl, ?_⟩) ?_ ?_
                      rotate_left
                      · intro w'
                        go_simp
                        with_reducible rfl
                      rotate_left
                      · simp only [Act.put, List.setIfInBounds_toArray, List.set_cons_zero, List.set_cons_succ, i64_w, i32_w]
                        rfl
                      refine pure_ (i := 19) (N := some 4) (v := ?_) (a' := ?_) #[true, true, true, true, true, true, true, true, true, true, true, true, true, true, true, true, true, true, true, true] rfl rfl (by kernel_rfl) (fun _ _ _ h => h) (Or.inl ⟨by rfl, ?_⟩) ?_ ?_
                      rotate_left
                      · intro w'
                        go_simp
                        with_reducible rfl
                      rotate_left
                      · simp only [Act.put, List.setIfInBounds_toArray, List.set_cons_zero, List.set_cons_succ, i64_w, i32_w]
                        rfl
                      refine done_ (by kernel_rfl) ?_
                      go_wp2_with fail
                      go_ret
                      exact ⟨by first | rfl | (simp; done), (B13.out.below hb14).toBelow⟩
            · clear HC2
              go_wp2_with fail
              have L0 := Aside0.mk (AS2.out.litRow (enc := Value.int .u8) (h1 := fun _ => rfl) (e := 5) [] (by decide)).at3
              refine (bytes_ L0.out).mono ?_
              rintro e w6 ⟨v6, rfl, hS6⟩
              obtain ⟨A6, c6, rfl⟩ := hS6.rowN HQ.out
              have B6 := Aside0.mk hS6.at3
              clear hS6 L0
              go_wp2_with (first
                | (refine gate_builtin (b := .append) (xs := #[.tmp 72, .tmp 74]) rfl ?_; go_loud (refine B6.out.appendRow rfl (.tmp 72) (.tmp 74) 22 (.int .u8 0) 1 rfl Try.underlying22 infoB rfl (by decide) A6 256 c6 rfl rfl B6.out.at2.rowC' (by rw [HQ.out]; decide) ?_; intro v7 w7 hS7; rw [List.nil_append] at hS7; have A7 := Aside0.mk hS7.drop2; clear hS7))
                | (refine gate_builtin (b := .append) (xs := #[.tmp 75, .const (.int .i64 256)]) rfl ?_; go_loud (refine A7.out.zerosRow (0 : Int) rfl (.tmp 75) (.const (.int .i64 256)) 22 3 1 rfl Try.underlying22 Try.underlying3 infoB rfl (by decide) 256 rfl rfl (by rw [HQ.out]; decide) ?_; intro v8 w8 hS8; obtain ⟨A8, c8, rfl⟩ := hS8.rowN (n := 512) (by rw [List.length_append, HQ.out, List.length_replicate]); have hc8 := hS8.rowC.2.1; have A8' := Aside0.mk (hS8.fxRow.nilRow KV 22); clear hS8)))
              obtain ⟨b, hb⟩ : ∃ b, q ++ List.replicate 256 0 = b := ⟨_, rfl⟩
              rw [hb] at A8'
              have HBE := Aside0.mk hb
              have HBL : Aside0 (b.length = 512) := ⟨by rw [← hb, List.length_append, HQ.out, List.length_replicate]⟩
              clear hb
              go_loopg [9, 11] 8 (fun m v s wr => ∃ (k : Nat) (cs : List OV), s = .int .i64 (64 * (k : Int)) ∧ k + m = 8 ∧ (∀ W : World, U8.C W A8 512 b → EachV KP (pagesOf b k) cs W) ∧ Sep w wr (Row KV 22 v cs :: Fx (fun W => U8.C W A8 512 b) :: [Mem g q 8 D, Mem g2 q2 8 D2]))
              case atStart => exact ⟨0, [], rfl, rfl, fun W _ => EachV.nil KP W, A8'.out⟩
              case round =>
                obtain ⟨k, cs, rfl, hkm, hE, hS⟩ := hrel
                have AK3 := Aside0.mk hkm
                have HE := Aside0.mk hE
                have hcl : cs.length = k := by
                  have := (hE _ hS.at2.fx).1
                  rw [← this]; simp [pagesOf]
                obtain ⟨A9, c9, rfl⟩ := hS.rowN hcl
                have AS3 := Aside0.mk hS
                have HCL := Aside0.mk hcl
                clear hS hE hcl
                by_cases hk : k < 8
                · have hkp : 64 * (k : Int) < 512 := by omega
                  have hw : wrap64 (64 * (k : Int) + 64) = 64 * (k : Int) + 64 := IntWalk.wrap64_in _ (by omega)
                  obtain ⟨A', hcut, hT⟩ := Base.mid8 (A := A8) (n := 512) (c := c8) (a := 64 * k) (b := 64 * (k + 1)) (J := 64 * (k : Int)) (K := 64 * (k : Int) + 64) (l := b) (by omega) (by omega) HBL.out (by omega) (by omega) hc8
                  rw [show 64 * (k + 1) - 64 * k = 64 by omega] at hcut hT
                  obtain ⟨c', hc'⟩ : ∃ c', c8 - 64 * k = c' := ⟨_, rfl⟩
                  rw [hc'] at hcut
                  have hpl : (pg b k).length = 64 := by unfold pg; rw [List.length_take, List.length_drop, HBL.out]; omega
                  have HT : Aside0 (∀ W : World, U8.C W A8 512 b → KP.K W (pg b k) [.slice A' 64 c']) := ⟨fun W hC => ⟨A', c', by rw [hpl], by rw [hpl]; omega, by
                    have := hT W hC
                    rw [← pageF_in (by rw [HBL.out]; omega), pageF_pg (by rw [HBL.out]; omega)] at this
                    rw [hpl]; exact this⟩⟩
                  have L9 : Aside0 (Sep w (wr.alloc (.cells #[.slice A' 64 c'] 22)) (Row KV 22 (.slice A9 k c9) cs :: Row KV 22 (.slice (some ⟨wr.heap.size, 0, none⟩) 1 1) [⟨.slice A' 64 c', rfl⟩] :: Fx (fun W => U8.C W A8 512 b) :: [Mem g q 8 D, Mem g2 q2 8 D2])) := ⟨(AS3.out.litRow (enc := fun x : OV => x.1) (h1 := fun x => x.2) (e := 22) [⟨.slice A' 64 c', rfl⟩] (by simp)).at2⟩
                  clear hkm hT hc' hpl
                  go_wp2_with (first | (refine gate_builtin (b := .append) (xs := #[.tmp 83, .tmp 89]) rfl ?_; go_loud (refine L9.out.appendRow rfl (.tmp 83) (.tmp 89) 71 _ 24 rfl Try.underlying71 infoS rfl (by decide) (some ⟨wr.heap.size, 0, none⟩) 1 1 rfl rfl L9.out.at2.rowC' (by rw [HCL.out]; simp; omega) ?_; intro v10 w10 hS10; have A10 := Aside0.mk hS10.drop2; clear hS10)))
                  go_roundg (gk - 1)
                  case measure => have := AK3.out; omega
                  case rel => exact ⟨k + 1, _, by go_num, by have := AK3.out; omega, fun W hC => by rw [pagesOf_snoc]; exact (HE.out W hC).snoc (HT.out W hC), A10.out⟩
                · obtain rfl : k = 8 := by omega
                  clear hkm AK3
                  have HKP := Aside0.mk (eachV_C (d := KP) rfl AS3.out.rowC' (HE.out _ AS3.out.at2.fx))
                  have B9 := Aside0.mk (AS3.out.perm (List.perm_append_comm (l₁ := [_, _]) (l₂ := [_, _])))
                  go_wp2_with fail
                  refine (changes_ (first := 0) (L := [Mem g q 8 D, Mem g2 q2 8 D2, _, _]) B9.out (.refl _) (.swap _ _ _) (by decide)).mono ?_
                  rintro e w10 ⟨v10, rfl, hS10⟩
                  rw [HD.out, HK.out.2.2.2] at hS10
                  have hbl := back_law HQ.out HK.out.1 HK.out.2.2.1 k2 (Nat.le_refl _)
                  rw [HBE.out] at hbl
                  have hcl := changes_len (b1 := q) (b2 := q2) (n1 := 4) (first := 0) (n2 := k2) (by rw [HK.out.1]; exact Nat.le_refl _)
                  obtain ⟨ch, hch⟩ : ∃ ch, changesF q q2 4 k2 0 = ch := ⟨_, rfl⟩
                  rw [hch] at hS10 hbl hcl
                  obtain ⟨A10, c10, rfl⟩ := hS10.rowV
                  have B10 := Aside0.mk hS10
                  have HBLW := Aside0.mk (And.intro hbl hcl)
                  have HKP10 := Aside0.mk (eachV_C (d := KP) rfl hS10.at4.rowC' (HE.out _ (hS10.at5.fx)))
                  clear hS10 hbl hcl hch
                  go_wp2_with fail
                  refine (apply_ HKP10.out B10.out.rowC.2.2 (by decide) pages_len HBLW.out.2).mono ?_
                  rintro e w11 ⟨v11, rfl, hS11⟩
                  rw [HBLW.out.1] at hS11
                  obtain ⟨A11, c11, rfl⟩ := hS11.rowVN (n := 8) (by rw [List.length_map]; rfl)
                  have B11 := Aside0.mk (Sep.weakR (L := [_, _]) (B10.out.lift1 hS11).at4)
                  clear hS11 B10 B9
                  go_wp2_with fail
                  go_loopg [12, 97] 8 (fun m s p wr => ∃ k : Nat, p = .int .i64 (k : Int) ∧ k + m = 8 ∧ s = .string (strOfNums ((List.range k).flatMap (endF b q2 k2))) ∧ Sep w wr [Mem g2 q2 8 D2, RowV KP 22 (.slice A11 8 c11) ((List.range 8).map (endF b q2 k2))])
                  case atStart => exact ⟨0, rfl, rfl, rfl, B11.out⟩
                  case round =>
                    obtain ⟨k, rfl, hkm, rfl, hS⟩ := hrel
                    have AK4 := Aside0.mk hkm
                    have AS4 := Aside0.mk hS
                    by_cases hk : k < 8
                    · have hkp : (k : Int) < 8 := by omega
                      obtain ⟨hx, ad, B, cB, rfl, e0, e1, e2⟩ := elemP (hS.at2.rowVC rfl).2.2 hk
                      have hex : ((List.range 8).map (endF b q2 k2))[k] = endF b q2 k2 k := by rw [List.getElem_map, List.getElem_range]
                      rw [hex] at e0 e1 e2
                      have hel : (endF b q2 k2 k).length = 64 := by rw [← HBE.out]; exact endF_len HQ.out HK.out.1 HK.out.2.2.1 hk
                      have hfl : ((List.range k).flatMap (endF b q2 k2)).length = 64 * k := by rw [← HBE.out]; exact flat_len HQ.out HK.out.1 HK.out.2.2.1 k (by omega)
                      have hst := str_c (c := cB) e2
                      have HAP : Aside0 (strOfNums ((List.range k).flatMap (endF b q2 k2)) ++ strOfNums (endF b q2 k2 k) = strOfNums ((List.range (k + 1)).flatMap (endF b q2 k2))) := ⟨by rw [str_app, List.range_succ, List.flatMap_append]; simp⟩
                      have hsz : (strOfNums ((List.range k).flatMap (endF b q2 k2))).size + (strOfNums (endF b q2 k2 k)).size ≤ 9223372036854775807 := by rw [strOfNums_size, strOfNums_size, hel, hfl]; omega
                      rw [hel] at e0 hst
                      generalize strOfNums ((List.range k).flatMap (endF b q2 k2)) = sa at *
                      generalize strOfNums (endF b q2 k2 k) = sb at *
                      have hsz' : ¬ (sa.size + sb.size > 9223372036854775807) := by omega
                      have hadd : ∀ W : World, (Op.stringOp .add sa sb).run Try.prog W = .ok (.string (sa ++ sb)) W := fun W => run_string_add_sum W sa sb hsz
                      clear hS hkm e1 e2 hex hel hfl hx
                      go_wp2_with fail
                      go_roundg (gk - 1)
                      case measure => have := AK4.out; omega
                      case rel => exact ⟨k + 1, by go_num, by have := AK4.out; omega, by rw [← HAP.out], AS4.out⟩
                    · obtain rfl : k = 8 := by omega
                      have HFA := Aside0.mk (flat_all HQ.out HK.out.1 HK.out.2.2.1)
                      have HFL := Aside0.mk (flat_len HQ.out HK.out.1 HK.out.2.2.1 8 (Nat.le_refl _))
                      rw [HBE.out] at HFA HFL
                      generalize (List.range 8).flatMap (endF b q2 k2) = ff at *
                      have hsz : (strOfNums ff).size = 512 := by rw [strOfNums_size, HFL.out]
                      obtain ⟨N2, hN2⟩ : ∃ N2, 64 * k2 = N2 := ⟨_, rfl⟩
                      have hk8 : N2 ≤ 512 := by have := HK.out; omega
                      have hcut : ∀ W : World, (Instr.slice 9 (.string (strOfNums ff)) none (some (.int .i64 (N2 : Int))) none).run Try.prog W = .ok (.string (strOfNums q2)) W := fun W => by
                        rw [run_slice_string_h W 9 _ Try.underlying9 .i64 _ (by omega) (by rw [hsz]; omega), Int.toNat_natCast, str_cut, ← hN2, HFA.out]
                      have HQ2 : Aside0 (q2.length = N2) := ⟨by rw [← hN2]; exact HK.out.1⟩
                      clear hN2
                      clear hS hkm AK4
                      generalize strOfNums ff = sf at *
                      go_wp2_with fail
                      refine (bytes_ AS4.out).mono ?_
                      rintro e w12 ⟨v12, rfl, hS12⟩
                      obtain ⟨A12, c12, rfl⟩ := hS12.rowN (n := N2) HQ2.out
                      have B12 := Aside0.mk hS12.tail.drew
                      clear hS12
                      have hk9 : (N2 : Int) ≤ 512 := by omega
                      go_wp2_with fail
                      refine start_ (n := 20) (S := fun w' => True) (ds := [17]) #[false, false, false, false, false, false, false, false, false, false, false, false, false, false, false, false, false, false, false, false] (by kernel_rfl) rfl rfl trivial (fun hHeld => ?_)
                      refine pure_ (i := 0) (N := some 109) (v := ?_) (a' := ?_) #[true, false, false, false, false, false, false, false, false, false, false, false, false, false, false, false, false, false, false, false] rfl rfl (by kernel_rfl) (fun _ _ _ h => h) (Or.inl ⟨by rfl, ?_⟩) ?_ ?_
                      rotate_left
                      · intro w'
                        go_simp
                        with_reducible rfl
                      rotate_left
                      · simp only [Act.put, List.setIfInBounds_toArray, List.set_cons_zero, List.set_cons_succ, i64_w, i32_w]
                        rfl
                      refine pure_ (i := 1) (N := some 110) (v := ?_) (a' := ?_) #[true, true, false, false, false, false, false, false, false, false, false, false, false, false, false, false, false, false, false, false] rfl rfl (by kernel_rfl) (fun _ _ _ h => h) (Or.inl ⟨by rfl, ?_⟩) ?_ ?_
                      rotate_left
                      · intro w'
                        go_simp
                        with_reducible rfl
                      rotate_left
                      · simp only [Act.put, List.setIfInBounds_toArray, List.set_cons_zero, List.set_cons_succ, i64_w, i32_w]
                        rfl
                      refine pure_ (i := 2) (N := some 111) (v := ?_) (a' := ?_) #[true, true, true, false, false, false, false, false, false, false, false, false, false, false, false, false, false, false, false, false] rfl rfl (by kernel_rfl) (fun _ _ _ h => h) (Or.inl ⟨by rfl, ?_⟩) ?_ ?_
                      rotate_left
                      · intro w'
                        go_simp
                        with_reducible rfl
                      rotate_left
                      · simp only [Act.put, List.setIfInBounds_toArray, List.set_cons_zero, List.set_cons_succ, i64_w, i32_w]
                        rfl
                      refine pure_ (i := 3) (N := some 112) (v := ?_) (a' := ?_) #[true, true, true, true, false, false, false, false, false, false, false, false, false, false, false, false, false, false, false, false] rfl rfl (by kernel_rfl) (fun _ _ _ h => h) (Or.inl ⟨by rfl, ?_⟩) ?_ ?_
                      rotate_left
                      · intro w'
                        go_simp
                        with_reducible rfl
                      rotate_left
                      · simp only [Act.put, List.setIfInBounds_toArray, List.set_cons_zero, List.set_cons_succ, i64_w, i32_w]
                        rfl
                      refine pure_ (i := 4) (N := some 113) (v := ?_) (a' := ?_) #[true, true, true, true, true, false, false, false, false, false, false, false, false, false, false, false, false, false, false, false] rfl rfl (by kernel_rfl) (fun _ _ _ h => h) (Or.inl ⟨by rfl, ?_⟩) ?_ ?_
                      rotate_left
                      · intro w'
                        go_simp
                        with_reducible rfl
                      rotate_left
                      · simp only [Act.put, List.setIfInBounds_toArray, List.set_cons_zero, List.set_cons_succ, i64_w, i32_w]
                        rfl
                      refine pure_ (i := 5) (N := some 114) (v := ?_) (a' := ?_) #[true, true, true, true, true, true, false, false, false, false, false, false, false, false, false, false, false, false, false, false] rfl rfl (by kernel_rfl) (fun _ _ _ h => h) (Or.inl ⟨by rfl, ?_⟩) ?_ ?_
                      rotate_left
                      · intro w'
                        go_simp
                        with_reducible rfl
                      rotate_left
                      · simp only [Act.put, List.setIfInBounds_toArray, List.set_cons_zero, List.set_cons_succ, i64_w, i32_w]
                        rfl
                      refine pure_ (i := 6) (N := some 115) (v := ?_) (a' := ?_) #[true, true, true, true, true, true, true, false, false, false, false, false, false, false, false, false, false, false, false, false] rfl rfl (by kernel_rfl) (fun _ _ _ h => h) (Or.inl ⟨by rfl, ?_⟩) ?_ ?_
                      rotate_left
                      · intro w'
                        go_simp
                        with_reducible rfl
                      rotate_left
                      · simp only [Act.put, List.setIfInBounds_toArray, List.set_cons_zero, List.set_cons_succ, i64_w, i32_w]
                        rfl
                      refine pure_ (i := 7) (N := some 116) (v := ?_) (a' := ?_) #[true, true, true, true, true, true, true, true, false, false, false, false, false, false, false, false, false, false, false, false] rfl rfl (by kernel_rfl) (fun _ _ _ h => h) (Or.inl ⟨by rfl, ?_⟩) ?_ ?_
                      rotate_left
                      · intro w'
                        go_simp
                        with_reducible rfl
                      rotate_left
                      · simp only [Act.put, List.setIfInBounds_toArray, List.set_cons_zero, List.set_cons_succ, i64_w, i32_w]
                        rfl
                      refine one_ (i := 8) (N := some 117) #[true, true, true, true, true, true, true, true, true, false, false, false, false, false, false, false, false, false, false, false] rfl rfl (by kernel_rfl) (by decide) (fun K hK => ?_)
                      refine goes_ Try.func13 (by kernel_rfl) rfl #[.pointer (some ⟨g2, 0, none⟩)] (by rfl) rfl rfl (by simp only [List.map_toArray, List.map_cons, List.map_nil]; rfl) ?_
                      with_reducible refine (bytes_ B12.out).mono ?_
                      rintro e w13 ⟨v13, rfl, hS13⟩
                      refine ⟨_, rfl, ?_⟩
                      obtain ⟨A13, c13, rfl⟩ := hS13.rowN (n := N2) HQ2.out
                      have hs13 := str_ hS13
                      have B13 := Aside0.mk hS13
                      clear hS13
                      refine hK.out _ _ trivial (fun hHeld => ?_)
                      clear hK K
                      refine norm_ (a' := ?_) ?_ ?_
                      rotate_left
                      · show Act.put _ (some 117) _ = _
                        simp only [Act.put, List.setIfInBounds_toArray, List.set_cons_zero, List.set_cons_succ, i64_w, i32_w]
                        rfl
                      refine one_ (i := 9) (N := some 118) #[true, true, true, true, true, true, true, true, true, true, false, false, false, false, false, false, false, false, false, false] rfl rfl (by kernel_rfl) (by decide) (fun K hK => ?_)
                      refine value_ (w1 := ?_) (v := ?_) (by rfl) rfl ?_ ?_
                      rotate_left 2
                      · go_simp
                        constructor
                        · rfl
                        · rfl
                      refine hK.out _ _ trivial (fun hHeld => ?_)
                      clear hK K
                      refine norm_ (a' := ?_) ?_ ?_
                      rotate_left
                      · show Act.put _ (some 118) _ = _
                        simp only [Act.put, List.setIfInBounds_toArray, List.set_cons_zero, List.set_cons_succ, i64_w, i32_w]
                        rfl
                      refine pure_ (i := 10) (N := some 119) (v := ?_) (a' := ?_) #[true, true, true, true, true, true, true, true, true, true, true, false, false, false, false, false, false, false, false, false] rfl rfl (by kernel_rfl) (fun _ _ _ h => h) (Or.inl ⟨by rfl, ?_⟩) ?_ ?_
                      rotate_left
                      · intro w'
                        go_simp
                        with_reducible rfl
                      rotate_left
                      · simp only [Act.put, List.setIfInBounds_toArray, List.set_cons_zero, List.set_cons_succ, i64_w, i32_w]
                        rfl
                      refine pure_ (i := 11) (N := some 120) (v := ?_) (a' := ?_) #[true, true, true, true, true, true, true, true, true, true, true, true, false, false, false, false, false, false, false, false] rfl rfl (by kernel_rfl) (fun _ _ _ h => h) (Or.inl ⟨by rfl, ?_⟩) ?_ ?_
                      rotate_left
                      · intro w'
                        go_simp
                        with_reducible rfl
                      rotate_left
                      · simp only [Act.put, List.setIfInBounds_toArray, List.set_cons_zero, List.set_cons_succ, i64_w, i32_w]
                        rfl
                      refine pure_ (i := 12) (N := some 121) (v := ?_) (a' := ?_) #[true, true, true, true, true, true, true, true, true, true, true, true, true, false, false, false, false, false, false, false] rfl rfl (by kernel_rfl) (fun _ _ _ h => h) (Or.inl ⟨by rfl, ?_⟩) ?_ ?_
                      rotate_left
                      · intro w'
                        go_simp
                        with_reducible rfl
                      rotate_left
                      · simp only [Act.put, List.setIfInBounds_toArray, List.set_cons_zero, List.set_cons_succ, i64_w, i32_w]
                        rfl
                      refine pure_ (i := 13) (N := some 122) (v := ?_) (a' := ?_) #[true, true, true, true, true, true, true, true, true, true, true, true, true, true, false, false, false, false, false, false] rfl rfl (by kernel_rfl) (fun _ _ _ h => h) (Or.inl ⟨by rfl, ?_⟩) ?_ ?_
                      rotate_left
                      · intro w'
                        go_simp
                        with_reducible rfl
                      rotate_left
                      · simp only [Act.put, List.setIfInBounds_toArray, List.set_cons_zero, List.set_cons_succ, i64_w, i32_w]
                        rfl
                      refine pure_ (i := 14) (N := some 123) (v := ?_) (a' := ?_) #[true, true, true, true, true, true, true, true, true, true, true, true, true, true, true, false, false, false, false, false] rfl rfl (by kernel_rfl) (fun _ _ _ h => h) (Or.inl ⟨by rfl, ?_⟩) ?_ ?_
                      rotate_left
                      · intro w'
                        go_simp
                        with_reducible rfl
                      rotate_left
                      · simp only [Act.put, List.setIfInBounds_toArray, List.set_cons_zero, List.set_cons_succ, i64_w, i32_w]
                        rfl
                      refine pure_ (i := 15) (N := some 124) (v := ?_) (a' := ?_) #[true, true, true, true, true, true, true, true, true, true, true, true, true, true, true, true, false, false, false, false] rfl rfl (by kernel_rfl) (fun _ _ _ h => h) (Or.inl ⟨by rfl, ?_⟩) ?_ ?_
                      rotate_left
                      · intro w'
                        go_simp
                        with_reducible rfl
                      rotate_left
                      · simp only [Act.put, List.setIfInBounds_toArray, List.set_cons_zero, List.set_cons_succ, i64_w, i32_w]
                        rfl
                      refine pure_ (i := 16) (N := some 125) (v := ?_) (a' := ?_) #[true, true, true, true, true, true, true, true, true, true, true, true, true, true, true, true, true, false, false, false] rfl rfl (by kernel_rfl) (fun _ _ _ h => h) (Or.inl ⟨by rfl, ?_⟩) ?_ ?_
                      rotate_left
                      · intro w'
                        go_simp
                        with_reducible rfl
                      rotate_left
                      · simp only [Act.put, List.setIfInBounds_toArray, List.set_cons_zero, List.set_cons_succ, i64_w, i32_w]
                        rfl
                      refine last_ (i := 17) (N := some 126) #[true, true, true, true, true, true, true, true, true, true, true, true, true, true, true, true, true, true, false, false] rfl rfl (by kernel_rfl) (by decide) (fun K hK => ?_)
                      refine goes_ Try.func32 (by kernel_rfl) rfl #[] (by rfl) rfl rfl (by simp) ?_
                      with_reducible refine (known_ _).mono ?_
                      rintro e w14 ⟨rfl, hb14⟩
                      refine ⟨_, rfl, ?_⟩
                      refine hK.out _ _ ?_
                      clear hK K
                      refine norm_ (a' := ?_) ?_ ?_
                      rotate_left
                      · show Act.put _ (some 126) _ = _
                        simp only [Act.put, List.setIfInBounds_toArray, List.set_cons_zero, List.set_cons_succ, i64_w, i32_w]
                        rfl
                      refine pure_ (i := 18) (N := some 127) (v := ?_) (a' := ?_) #[true, true, true, true, true, true, true, true, true, true, true, true, true, true, true, true, true, true, true, false] rfl rfl (by kernel_rfl) (fun _ _ _ h => h) (Or.inl ⟨by rfl, ?_⟩) ?_ ?_
                      rotate_left
                      · intro w'
                        go_simp
                        with_reducible rfl
                      rotate_left
                      · simp only [Act.put, List.setIfInBounds_toArray, List.set_cons_zero, List.set_cons_succ, i64_w, i32_w]
                        rfl
                      refine pure_ (i := 19) (N := some 4) (v := ?_) (a' := ?_) #[true, true, true, true, true, true, true, true, true, true, true, true, true, true, true, true, true, true, true, true] rfl rfl (by kernel_rfl) (fun _ _ _ h => h) (Or.inl ⟨by rfl, ?_⟩) ?_ ?_
                      rotate_left
                      · intro w'
                        go_simp
                        with_reducible rfl
                      rotate_left
                      · simp only [Act.put, List.setIfInBounds_toArray, List.set_cons_zero, List.set_cons_succ, i64_w, i32_w]
                        rfl
                      refine done_ (by kernel_rfl) ?_
                      go_wp2_with fail
                      go_ret
                      exact ⟨by first | rfl | (simp; done), (B13.out.below hb14).toBelow⟩
      · clear HEX
        go_wp2_with fail
        refine (copy_ AS.out).mono ?_
        rintro e w3 ⟨g2, rfl, hS3⟩
        have A3 := Aside0.mk hS3
        clear hS3 hb1
        obtain ⟨N, hN0, hN1, hN2⟩ : ∃ N, N ≤ n1 ∧ N ≤ 9 ∧ (N = n1 ∨ N = 9) := ⟨min n1 9, by omega, by omega, by omega⟩
        go_wp2_with fail
        go_loopg [8] N (fun m v wr => ∃ (j : Nat) (q2 : List Int) (D2 : List Bool), v = .int .i64 (j : Int) ∧ j + m = N ∧ 4 ≤ D2.length ∧ Sep w wr [Mem g2 q2 8 D2, Mem g q 8 D])
        case atStart => exact ⟨0, _, _, rfl, by omega, by rw [List.length_replicate, HD.out]; exact Nat.le_refl _, A3.out⟩
        case round =>
          obtain ⟨j, q2, D2, rfl, hjm, hD2, hS⟩ := hrel
          have AK := Aside0.mk hjm
          have AS2 := Aside0.mk hS
          have HD2 := Aside0.mk hD2
          clear hS hD2
          by_cases hj : j < N
          · have hj0 : (j : Int) < (n1 : Int) := by omega
            have hj1 : (j : Int) < 9 := by omega
            obtain ⟨ad, hA, hc⟩ := Kd.at_int H1.out (j : Int) (by omega) (by omega)
            subst hA
            rw [Int.toNat_natCast] at hc
            have HX := Aside0.mk hc
            have z0 := cell_later AS2.out.drew.toBelow hc
            generalize rd l (j : Int) = x at *
            have AD := Aside0.mk AS2.out.drew
            clear hjm hc
            go_wp2_with fail
            refine start_ (n := 11) (S := fun w' => w'.cell? (ad.add j) = some (.int .i64 x)) (ds := [10]) #[false, false, false, false, false, false, false, false, false, false, false] (by kernel_rfl) rfl rfl (z0) (fun hHeld => ?_)
            refine pure_ (i := 0) (N := some 53) (v := ?_) (a' := ?_) #[true, false, false, false, false, false, false, false, false, false, false] rfl rfl (by kernel_rfl) (fun _ _ _ h => h) (Or.inl ⟨by rfl, ?_⟩) ?_ ?_
            rotate_left
            · intro w'
              go_simp
              with_reducible rfl
            rotate_left
            · simp only [Act.put, List.setIfInBounds_toArray, List.set_cons_zero, List.set_cons_succ, i64_w, i32_w]
              rfl
            refine pure_ (i := 1) (N := some 54) (v := ?_) (a' := ?_) #[true, true, false, false, false, false, false, false, false, false, false] rfl rfl (by kernel_rfl) (fun _ _ _ h => h) (Or.inl ⟨by rfl, ?_⟩) ?_ ?_
            rotate_left
            · intro w'
              go_simp
              with_reducible rfl
            rotate_left
            · simp only [Act.put, List.setIfInBounds_toArray, List.set_cons_zero, List.set_cons_succ, i64_w, i32_w]
              rfl
            refine pure_ (i := 2) (N := some 55) (v := ?_) (a' := ?_) #[true, true, true, false, false, false, false, false, false, false, false] rfl rfl (by kernel_rfl) (fun _ _ _ h => h) (Or.inl ⟨by rfl, ?_⟩) ?_ ?_
            rotate_left
            · intro w'
              go_simp
              with_reducible rfl
            rotate_left
            · simp only [Act.put, List.setIfInBounds_toArray, List.set_cons_zero, List.set_cons_succ, i64_w, i32_w]
              rfl
            refine pure_ (i := 3) (N := some 56) (v := ?_) (a' := ?_) #[true, true, true, true, false, false, false, false, false, false, false] rfl rfl (by kernel_rfl) (fun _ _ _ h => h) (Or.inl ⟨by rfl, ?_⟩) ?_ ?_
            rotate_left
            · intro w'
              go_simp
              with_reducible rfl
            rotate_left
            · simp only [Act.put, List.setIfInBounds_toArray, List.set_cons_zero, List.set_cons_succ, i64_w, i32_w]
              rfl
            refine pure_ (i := 6) (N := some 59) (v := ?_) (a' := ?_) #[true, true, true, true, false, false, true, false, false, false, false] rfl rfl (by kernel_rfl) (fun _ _ _ h => h) (Or.inl ⟨by rfl, ?_⟩) ?_ ?_
            rotate_left
            · intro w'
              go_simp
              with_reducible rfl
            rotate_left
            · simp only [Act.put, List.setIfInBounds_toArray, List.set_cons_zero, List.set_cons_succ, i64_w, i32_w]
              rfl
            refine pure_ (i := 7) (N := some 60) (v := ?_) (a' := ?_) #[true, true, true, true, false, false, true, true, false, false, false] rfl rfl (by kernel_rfl) (fun _ _ _ h => h) (Or.inl ⟨by rfl, ?_⟩) ?_ ?_
            rotate_left
            · intro w'
              go_simp
              with_reducible rfl
            rotate_left
            · simp only [Act.put, List.setIfInBounds_toArray, List.set_cons_zero, List.set_cons_succ, i64_w, i32_w]
              rfl
            refine pure_ (i := 8) (N := some 61) (v := ?_) (a' := ?_) #[true, true, true, true, false, false, true, true, true, false, false] rfl rfl (by kernel_rfl) (fun _ _ _ h => h) (Or.inl ⟨by rfl, ?_⟩) ?_ ?_
            rotate_left
            · intro w'
              go_simp
              with_reducible rfl
            rotate_left
            · simp only [Act.put, List.setIfInBounds_toArray, List.set_cons_zero, List.set_cons_succ, i64_w, i32_w]
              rfl
            refine take_ (i := 4) (N := some 57) (v := ?_) (a' := ?_) #[true, true, true, true, true, false, true, true, true, false, false] rfl rfl (by kernel_rfl) (fun _ _ _ h => h) (Or.inl ⟨by rfl, ?_⟩) hHeld ?_ ?_
            rotate_left
            · intro w' s0
              go_simp
              with_reducible rfl
            rotate_left
            · simp only [Act.put, List.setIfInBounds_toArray, List.set_cons_zero, List.set_cons_succ, i64_w, i32_w]
              rfl
            refine pure_ (i := 5) (N := some 58) (v := ?_) (a' := ?_) #[true, true, true, true, true, true, true, true, true, false, false] rfl rfl (by kernel_rfl) (fun _ _ _ h => h) (Or.inl ⟨by rfl, ?_⟩) ?_ ?_
            rotate_left
            · intro w'
              go_simp
              with_reducible rfl
            rotate_left
            · simp only [Act.put, List.setIfInBounds_toArray, List.set_cons_zero, List.set_cons_succ, i64_w, i32_w]
              rfl
            refine take_ (i := 9) (N := some 62) (v := ?_) (a' := ?_) #[true, true, true, true, true, true, true, true, true, true, false] rfl rfl (by kernel_rfl) (fun _ _ _ h => h) (Or.inl ⟨by rfl, ?_⟩) hHeld ?_ ?_
            rotate_left
            · intro w' s0
              go_simp
              with_reducible rfl
            rotate_left
            · simp only [Act.put, List.setIfInBounds_toArray, List.set_cons_zero, List.set_cons_succ, i64_w, i32_w]
              rfl
            refine last_ (i := 10) (N := some 63) #[true, true, true, true, true, true, true, true, true, true, true] rfl rfl (by kernel_rfl) (by decide) (fun K hK => ?_)
            refine goes_ Try.func12 (by kernel_rfl) rfl #[.pointer (some ⟨g2, 0, none⟩), .int .i64 (x.tmod 256), .int .i64 x, .bool false] (by rfl) rfl rfl (by simp only [List.map_toArray, List.map_cons, List.map_nil]; rfl) ?_
            with_reducible refine (store_any AD.out (x.tmod 256) x false).mono ?_
            rintro e w4 ⟨q4, D4, r4, rfl, hq4, hD4, hS4⟩
            refine ⟨_, rfl, ?_⟩
            have A4 := Aside0.mk hS4
            have HD4 : Aside0 (4 ≤ D4.length) := ⟨by have := HD2.out; omega⟩
            clear hS4 hq4 hD4
            refine hK.out _ _ ?_
            clear hK K
            refine norm_ (a' := ?_) ?_ ?_
            rotate_left
            · show Act.put _ (some 63) _ = _
              simp only [Act.put, List.setIfInBounds_toArray, List.set_cons_zero, List.set_cons_succ, i64_w, i32_w]
              rfl
            refine done_ (by kernel_rfl) ?_
            have z1 := cell_later A4.out.toBelow HX.out
            clear z0
            by_cases h7 : bits .and .i64 x 7 = 7
            · have hm8 := mem_most A4.out
              by_cases h8 : D4.length < 8
              · go_wp2_with fail
                refine (grow_in A4.out 1 (by omega)).mono ?_
                rintro e w5 ⟨rfl, hS5⟩
                have A5 := Aside0.mk hS5
                clear hS5
                go_wp2_with fail
                go_roundg (gk - 1)
                case measure => have := AK.out; omega
                case rel => exact ⟨j + 1, _, _, by go_num, by have := AK.out; omega, by rw [List.length_append]; have := HD4.out; omega, A5.out⟩
              · go_wp2_with fail
                refine (grow_out A4.out 1 (.inr (by omega))).mono ?_
                rintro e w5 ⟨rfl, rfl⟩
                go_wp2_with fail
                go_roundg (gk - 1)
                case measure => have := AK.out; omega
                case rel => exact ⟨j + 1, _, _, by go_num, by have := AK.out; omega, HD4.out, A4.out⟩
            · go_wp2_with fail
              go_roundg (gk - 1)
              case measure => have := AK.out; omega
              case rel => exact ⟨j + 1, _, _, by go_num, by have := AK.out; omega, HD4.out, A4.out⟩
          · obtain rfl : j = N := by omega
            have HC2 : Aside0 (((j : Int) < (n1 : Int)) = False ∨ (((j : Int) < (n1 : Int)) = True ∧ ((j : Int) < 9) = False)) := ⟨by
              by_cases h : j < n1
              · exact .inr ⟨eq_true (by omega), eq_false (by omega)⟩
              · exact .inl (eq_false (by omega))⟩
            have hml := mem_len AS2.out
            have hmm := mem_most AS2.out
            obtain ⟨k2, hk2⟩ : ∃ k2, D2.length = k2 := ⟨_, rfl⟩
            rw [hk2] at hml hmm
            have HK : Aside0 (q2.length = 64 * k2 ∧ 4 ≤ k2 ∧ k2 ≤ 8 ∧ D2.length = k2) := ⟨by have := HD2.out; omega⟩
            clear hml hmm hk2 hjm AK hN2 hM2
            rcases HC2.out with hb1 | ⟨hb1, hb2⟩
            · clear HC2
              go_wp2_with fail
              have L0 := Aside0.mk (AS2.out.litRow (enc := Value.int .u8) (h1 := fun _ => rfl) (e := 5) [] (by decide)).at3
              refine (bytes_ L0.out).mono ?_
              rintro e w6 ⟨v6, rfl, hS6⟩
              obtain ⟨A6, c6, rfl⟩ := hS6.rowN HQ.out
              have B6 := Aside0.mk hS6.at3
              clear hS6 L0
              go_wp2_with (first
                | (refine gate_builtin (b := .append) (xs := #[.tmp 72, .tmp 74]) rfl ?_; go_loud (refine B6.out.appendRow rfl (.tmp 72) (.tmp 74) 22 (.int .u8 0) 1 rfl Try.underlying22 infoB rfl (by decide) A6 256 c6 rfl rfl B6.out.at2.rowC' (by rw [HQ.out]; decide) ?_; intro v7 w7 hS7; rw [List.nil_append] at hS7; have A7 := Aside0.mk hS7.drop2; clear hS7))
                | (refine gate_builtin (b := .append) (xs := #[.tmp 75, .const (.int .i64 256)]) rfl ?_; go_loud (refine A7.out.zerosRow (0 : Int) rfl (.tmp 75) (.const (.int .i64 256)) 22 3 1 rfl Try.underlying22 Try.underlying3 infoB rfl (by decide) 256 rfl rfl (by rw [HQ.out]; decide) ?_; intro v8 w8 hS8; obtain ⟨A8, c8, rfl⟩ := hS8.rowN (n := 512) (by rw [List.length_append, HQ.out, List.length_replicate]); have hc8 := hS8.rowC.2.1; have A8' := Aside0.mk (hS8.fxRow.nilRow KV 22); clear hS8)))
              obtain ⟨b, hb⟩ : ∃ b, q ++ List.replicate 256 0 = b := ⟨_, rfl⟩
              rw [hb] at A8'
              have HBE := Aside0.mk hb
              have HBL : Aside0 (b.length = 512) := ⟨by rw [← hb, List.length_append, HQ.out, List.length_replicate]⟩
              clear hb
              go_loopg [9, 11] 8 (fun m v s wr => ∃ (k : Nat) (cs : List OV), s = .int .i64 (64 * (k : Int)) ∧ k + m = 8 ∧ (∀ W : World, U8.C W A8 512 b → EachV KP (pagesOf b k) cs W) ∧ Sep w wr (Row KV 22 v cs :: Fx (fun W => U8.C W A8 512 b) :: [Mem g q 8 D, Mem g2 q2 8 D2]))
              case atStart => exact ⟨0, [], rfl, rfl, fun W _ => EachV.nil KP W, A8'.out⟩
              case round =>
                obtain ⟨k, cs, rfl, hkm, hE, hS⟩ := hrel
                have AK3 := Aside0.mk hkm
                have HE := Aside0.mk hE
                have hcl : cs.length = k := by
                  have := (hE _ hS.at2.fx).1
                  rw [← this]; simp [pagesOf]
                obtain ⟨A9, c9, rfl⟩ := hS.rowN hcl
                have AS3 := Aside0.mk hS
                have HCL := Aside0.mk hcl
                clear hS hE hcl
                by_cases hk : k < 8
                · have hkp : 64 * (k : Int) < 512 := by omega
                  have hw : wrap64 (64 * (k : Int) + 64) = 64 * (k : Int) + 64 := IntWalk.wrap64_in _ (by omega)
                  obtain ⟨A', hcut, hT⟩ := Base.mid8 (A := A8) (n := 512) (c := c8) (a := 64 * k) (b := 64 * (k + 1)) (J := 64 * (k : Int)) (K := 64 * (k : Int) + 64) (l := b) (by omega) (by omega) HBL.out (by omega) (by omega) hc8
                  rw [show 64 * (k + 1) - 64 * k = 64 by omega] at hcut hT
                  obtain ⟨c', hc'⟩ : ∃ c', c8 - 64 * k = c' := ⟨_, rfl⟩
                  rw [hc'] at hcut
                  have hpl : (pg b k).length = 64 := by unfold pg; rw [List.length_take, List.length_drop, HBL.out]; omega
                  have HT : Aside0 (∀ W : World, U8.C W A8 512 b → KP.K W (pg b k) [.slice A' 64 c']) := ⟨fun W hC => ⟨A', c', by rw [hpl], by rw [hpl]; omega, by
                    have := hT W hC
                    rw [← pageF_in (by rw [HBL.out]; omega), pageF_pg (by rw [HBL.out]; omega)] at this
                    rw [hpl]; exact this⟩⟩
                  have L9 : Aside0 (Sep w (wr.alloc (.cells #[.slice A' 64 c'] 22)) (Row KV 22 (.slice A9 k c9) cs :: Row KV 22 (.slice (some ⟨wr.heap.size, 0, none⟩) 1 1) [⟨.slice A' 64 c', rfl⟩] :: Fx (fun W => U8.C W A8 512 b) :: [Mem g q 8 D, Mem g2 q2 8 D2])) := ⟨(AS3.out.litRow (enc := fun x : OV => x.1) (h1 := fun x => x.2) (e := 22) [⟨.slice A' 64 c', rfl⟩] (by simp)).at2⟩
                  clear hkm hT hc' hpl
                  go_wp2_with (first | (refine gate_builtin (b := .append) (xs := #[.tmp 83, .tmp 89]) rfl ?_; go_loud (refine L9.out.appendRow rfl (.tmp 83) (.tmp 89) 71 _ 24 rfl Try.underlying71 infoS rfl (by decide) (some ⟨wr.heap.size, 0, none⟩) 1 1 rfl rfl L9.out.at2.rowC' (by rw [HCL.out]; simp; omega) ?_; intro v10 w10 hS10; have A10 := Aside0.mk hS10.drop2; clear hS10)))
                  go_roundg (gk - 1)
                  case measure => have := AK3.out; omega
                  case rel => exact ⟨k + 1, _, by go_num, by have := AK3.out; omega, fun W hC => by rw [pagesOf_snoc]; exact (HE.out W hC).snoc (HT.out W hC), A10.out⟩
                · obtain rfl : k = 8 := by omega
                  clear hkm AK3
                  have HKP := Aside0.mk (eachV_C (d := KP) rfl AS3.out.rowC' (HE.out _ AS3.out.at2.fx))
                  have B9 := Aside0.mk (AS3.out.perm (List.perm_append_comm (l₁ := [_, _]) (l₂ := [_, _])))
                  go_wp2_with fail
                  refine (changes_ (first := 0) (L := [Mem g q 8 D, Mem g2 q2 8 D2, _, _]) B9.out (.refl _) (.swap _ _ _) (by decide)).mono ?_
                  rintro e w10 ⟨v10, rfl, hS10⟩
                  rw [HD.out, HK.out.2.2.2] at hS10
                  have hbl := back_law HQ.out HK.out.1 HK.out.2.2.1 k2 (Nat.le_refl _)
                  rw [HBE.out] at hbl
                  have hcl := changes_len (b1 := q) (b2 := q2) (n1 := 4) (first := 0) (n2 := k2) (by rw [HK.out.1]; exact Nat.le_refl _)
                  obtain ⟨ch, hch⟩ : ∃ ch, changesF q q2 4 k2 0 = ch := ⟨_, rfl⟩
                  rw [hch] at hS10 hbl hcl
                  obtain ⟨A10, c10, rfl⟩ := hS10.rowV
                  have B10 := Aside0.mk hS10
                  have HBLW := Aside0.mk (And.intro hbl hcl)
                  have HKP10 := Aside0.mk (eachV_C (d := KP) rfl hS10.at4.rowC' (HE.out _ (hS10.at5.fx)))
                  clear hS10 hbl hcl hch
                  go_wp2_with fail
                  refine (apply_ HKP10.out B10.out.rowC.2.2 (by decide) pages_len HBLW.out.2).mono ?_
                  rintro e w11 ⟨v11, rfl, hS11⟩
                  rw [HBLW.out.1] at hS11
                  obtain ⟨A11, c11, rfl⟩ := hS11.rowVN (n := 8) (by rw [List.length_map]; rfl)
                  have B11 := Aside0.mk (Sep.weakR (L := [_, _]) (B10.out.lift1 hS11).at4)
                  clear hS11 B10 B9
                  go_wp2_with fail
                  go_loopg [12, 97] 8 (fun m s p wr => ∃ k : Nat, p = .int .i64 (k : Int) ∧ k + m = 8 ∧ s = .string (strOfNums ((List.range k).flatMap (endF b q2 k2))) ∧ Sep w wr [Mem g2 q2 8 D2, RowV KP 22 (.slice A11 8 c11) ((List.range 8).map (endF b q2 k2))])
                  case atStart => exact ⟨0, rfl, rfl, rfl, B11.out⟩
                  case round =>
                    obtain ⟨k, rfl, hkm, rfl, hS⟩ := hrel
                    have AK4 := Aside0.mk hkm
                    have AS4 := Aside0.mk hS
                    by_cases hk : k < 8
                    · have hkp : (k : Int) < 8 := by omega
                      obtain ⟨hx, ad, B, cB, rfl, e0, e1, e2⟩ := elemP (hS.at2.rowVC rfl).2.2 hk
                      have hex : ((List.range 8).map (endF b q2 k2))[k] = endF b q2 k2 k := by rw [List.getElem_map, List.getElem_range]
                      rw [hex] at e0 e1 e2
                      have hel : (endF b q2 k2 k).length = 64 := by rw [← HBE.out]; exact endF_len HQ.out HK.out.1 HK.out.2.2.1 hk
                      have hfl : ((List.range k).flatMap (endF b q2 k2)).length = 64 * k := by rw [← HBE.out]; exact flat_len HQ.out HK.out.1 HK.out.2.2.1 k (by omega)
                      have hst := str_c (c := cB) e2
                      have HAP : Aside0 (strOfNums ((List.range k).flatMap (endF b q2 k2)) ++ strOfNums (endF b q2 k2 k) = strOfNums ((List.range (k + 1)).flatMap (endF b q2 k2))) := ⟨by rw [str_app, List.range_succ, List.flatMap_append]; simp⟩
                      have hsz : (strOfNums ((List.range k).flatMap (endF b q2 k2))).size + (strOfNums (endF b q2 k2 k)).size ≤ 9223372036854775807 := by rw [strOfNums_size, strOfNums_size, hel, hfl]; omega
                      rw [hel] at e0 hst
                      generalize strOfNums ((List.range k).flatMap (endF b q2 k2)) = sa at *
                      generalize strOfNums (endF b q2 k2 k) = sb at *
                      have hsz' : ¬ (sa.size + sb.size > 9223372036854775807) := by omega
                      have hadd : ∀ W : World, (Op.stringOp .add sa sb).run Try.prog W = .ok (.string (sa ++ sb)) W := fun W => run_string_add_sum W sa sb hsz
                      clear hS hkm e1 e2 hex hel hfl hx
                      go_wp2_with fail
                      go_roundg (gk - 1)
                      case measure => have := AK4.out; omega
                      case rel => exact ⟨k + 1, by go_num, by have := AK4.out; omega, by rw [← HAP.out], AS4.out⟩
                    · obtain rfl : k = 8 := by omega
                      have HFA := Aside0.mk (flat_all HQ.out HK.out.1 HK.out.2.2.1)
                      have HFL := Aside0.mk (flat_len HQ.out HK.out.1 HK.out.2.2.1 8 (Nat.le_refl _))
                      rw [HBE.out] at HFA HFL
                      generalize (List.range 8).flatMap (endF b q2 k2) = ff at *
                      have hsz : (strOfNums ff).size = 512 := by rw [strOfNums_size, HFL.out]
                      obtain ⟨N2, hN2⟩ : ∃ N2, 64 * k2 = N2 := ⟨_, rfl⟩
                      have hk8 : N2 ≤ 512 := by have := HK.out; omega
                      have hcut : ∀ W : World, (Instr.slice 9 (.string (strOfNums ff)) none (some (.int .i64 (N2 : Int))) none).run Try.prog W = .ok (.string (strOfNums q2)) W := fun W => by
                        rw [run_slice_string_h W 9 _ Try.underlying9 .i64 _ (by omega) (by rw [hsz]; omega), Int.toNat_natCast, str_cut, ← hN2, HFA.out]
                      have HQ2 : Aside0 (q2.length = N2) := ⟨by rw [← hN2]; exact HK.out.1⟩
                      clear hN2
                      clear hS hkm AK4
                      generalize strOfNums ff = sf at *
                      go_wp2_with fail
                      refine (bytes_ AS4.out).mono ?_
                      rintro e w12 ⟨v12, rfl, hS12⟩
                      obtain ⟨A12, c12, rfl⟩ := hS12.rowN (n := N2) HQ2.out
                      have B12 := Aside0.mk hS12.tail.drew
                      clear hS12
                      have hk9 : (N2 : Int) ≤ 512 := by omega
                      go_wp2_with fail
                      refine start_ (n := 20) (S := fun w' => True) (ds := [17]) #[false, false, false, false, false, false, false, false, false, false, false, false, false, false, false, false, false, false, false, false] (by kernel_rfl) rfl rfl trivial (fun hHeld => ?_)
                      refine pure_ (i := 0) (N := some 109) (v := ?_) (a' := ?_) #[true, false, false, false, false, false, false, false, false, false, false, false, false, false, false, false, false, false, false, false] rfl rfl (by kernel_rfl) (fun _ _ _ h => h) (Or.inl ⟨by rfl, ?_⟩) ?_ ?_
                      rotate_left
                      · intro w'
                        go_simp
                        with_reducible rfl
                      rotate_left
                      · simp only [Act.put, List.setIfInBounds_toArray, List.set_cons_zero, List.set_cons_succ, i64_w, i32_w]
                        rfl
                      refine pure_ (i := 1) (N := some 110) (v := ?_) (a' := ?_) #[true, true, false, false, false, false, false, false, false, false, false, false, false, false, false, false, false, false, false, false] rfl rfl (by kernel_rfl) (fun _ _ _ h => h) (Or.inl ⟨by rfl, ?_⟩) ?_ ?_
                      rotate_left
                      · intro w'
                        go_simp
                        with_reducible rfl
                      rotate_left
                      · simp only [Act.put, List.setIfInBounds_toArray, List.set_cons_zero, List.set_cons_succ, i64_w, i32_w]
                        rfl
                      refine pure_ (i := 2) (N := some 111) (v := ?_) (a' := ?_) #[true, true, true, false, false, false, false, false, false, false, false, false, false, false, false, false, false, false, false, false] rfl rfl (by kernel_rfl) (fun _ _ _ h => h) (Or.inl ⟨by rfl, ?_⟩) ?_ ?_
                      rotate_left
                      · intro w'
                        go_simp
                        with_reducible rfl
                      rotate_left
                      · simp only [Act.put, List.setIfInBounds_toArray, List.set_cons_zero, List.set_cons_succ, i64_w, i32_w]
                        rfl
                      refine pure_ (i := 3) (N := some 112) (v := ?_) (a' := ?_) #[true, true, true, true, false, false, false, false, false, false, false, false, false, false, false, false, false, false, false, false] rfl rfl (by kernel_rfl) (fun _ _ _ h => h) (Or.inl ⟨by rfl, ?_⟩) ?_ ?_
                      rotate_left
                      · intro w'
                        go_simp
                        with_reducible rfl
                      rotate_left
                      · simp only [Act.put, List.setIfInBounds_toArray, List.set_cons_zero, List.set_cons_succ, i64_w, i32_w]
                        rfl
                      refine pure_ (i := 4) (N := some 113) (v := ?_) (a' := ?_) #[true, true, true, true, true, false, false, false, false, false, false, false, false, false, false, false, false, false, false, false] rfl rfl (by kernel_rfl) (fun _ _ _ h => h) (Or.inl ⟨by rfl, ?_⟩) ?_ ?_
                      rotate_left
                      · intro w'
                        go_simp
                        with_reducible rfl
                      rotate_left
                      · simp only [Act.put, List.setIfInBounds_toArray, List.set_cons_zero, List.set_cons_succ, i64_w, i32_w]
                        rfl
                      refine pure_ (i := 5) (N := some 114) (v := ?_) (a' := ?_) #[true, true, true, true, true, true, false, false, false, false, false, false, false, false, false, false, false, false, false, false] rfl rfl (by kernel_rfl) (fun _ _ _ h => h) (Or.inl ⟨by rfl, ?_⟩) ?_ ?_
                      rotate_left
                      · intro w'
                        go_simp
                        with_reducible rfl
                      rotate_left
                      · simp only [Act.put, List.setIfInBounds_toArray, List.set_cons_zero, List.set_cons_succ, i64_w, i32_w]
                        rfl
                      refine pure_ (i := 6) (N := some 115) (v := ?_) (a' := ?_) #[true, true, true, true, true, true, true, false, false, false, false, false, false, false, false, false, false, false, false, false] rfl rfl (by kernel_rfl) (fun _ _ _ h => h) (Or.inl ⟨by rfl, ?_⟩) ?_ ?_
                      rotate_left
                      · intro w'
                        go_simp
                        with_reducible rfl
                      rotate_left
                      · simp only [Act.put, List.setIfInBounds_toArray, List.set_cons_zero, List.set_cons_succ, i64_w, i32_w]
                        rfl
                      refine pure_ (i := 7) (N := some 116) (v := ?_) (a' := ?_) #[true, true, true, true, true, true, true, true, false, false, false, false, false, false, false, false, false, false, false, false] rfl rfl (by kernel_rfl) (fun _ _ _ h => h) (Or.inl ⟨by rfl, ?_⟩) ?_ ?_
                      rotate_left
                      · intro w'
                        go_simp
                        with_reducible rfl
                      rotate_left
                      · simp only [Act.put, List.setIfInBounds_toArray, List.set_cons_zero, List.set_cons_succ, i64_w, i32_w]
                        rfl
                      refine one_ (i := 8) (N := some 117) #[true, true, true, true, true, true, true, true, true, false, false, false, false, false, false, false, false, false, false, false] rfl rfl (by kernel_rfl) (by decide) (fun K hK => ?_)
                      refine goes_ Try.func13 (by kernel_rfl) rfl #[.pointer (some ⟨g2, 0, none⟩)] (by rfl) rfl rfl (by simp only [List.map_toArray, List.map_cons, List.map_nil]; rfl) ?_
                      with_reducible refine (bytes_ B12.out).mono ?_
                      rintro e w13 ⟨v13, rfl, hS13⟩
                      refine ⟨_, rfl, ?_⟩
                      obtain ⟨A13, c13, rfl⟩ := hS13.rowN (n := N2) HQ2.out
                      have hs13 := str_ hS13
                      have B13 := Aside0.mk hS13
                      clear hS13
                      refine hK.out _ _ trivial (fun hHeld => ?_)
                      clear hK K
                      refine norm_ (a' := ?_) ?_ ?_
                      rotate_left
                      · show Act.put _ (some 117) _ = _
                        simp only [Act.put, List.setIfInBounds_toArray, List.set_cons_zero, List.set_cons_succ, i64_w, i32_w]
                        rfl
                      refine one_ (i := 9) (N := some 118) #[true, true, true, true, true, true, true, true, true, true, false, false, false, false, false, false, false, false, false, false] rfl rfl (by kernel_rfl) (by decide) (fun K hK => ?_)
                      refine value_ (w1 := ?_) (v := ?_) (by rfl) rfl ?_ ?_
                      rotate_left 2
                      · go_simp
                        constructor
                        · rfl
                        · rfl
                      refine hK.out _ _ trivial (fun hHeld => ?_)
                      clear hK K
                      refine norm_ (a' := ?_) ?_ ?_
                      rotate_left
                      · show Act.put _ (some 118) _ = _
                        simp only [Act.put, List.setIfInBounds_toArray, List.set_cons_zero, List.set_cons_succ, i64_w, i32_w]
                        rfl
                      refine pure_ (i := 10) (N := some 119) (v := ?_) (a' := ?_) #[true, true, true, true, true, true, true, true, true, true, true, false, false, false, false, false, false, false, false, false] rfl rfl (by kernel_rfl) (fun _ _ _ h => h) (Or.inl ⟨by rfl, ?_⟩) ?_ ?_
                      rotate_left
                      · intro w'
                        go_simp
                        with_reducible rfl
                      rotate_left
                      · simp only [Act.put, List.setIfInBounds_toArray, List.set_cons_zero, List.set_cons_succ, i64_w, i32_w]
                        rfl
                      refine pure_ (i := 11) (N := some 120) (v := ?_) (a' := ?_) #[true, true, true, true, true, true, true, true, true, true, true, true, false, false, false, false, false, false, false, false] rfl rfl (by kernel_rfl) (fun _ _ _ h => h) (Or.inl ⟨by rfl, ?_⟩) ?_ ?_
                      rotate_left
                      · intro w'
                        go_simp
                        with_reducible rfl
                      rotate_left
                      · simp only [Act.put, List.setIfInBounds_toArray, List.set_cons_zero, List.set_cons_succ, i64_w, i32_w]
                        rfl
                      refine pure_ (i := 12) (N := some 121) (v := ?_) (a' := ?_) #[true, true, true, true, true, true, true, true, true, true, true, true, true, false, false, false, false, false, false, false] rfl rfl (by kernel_rfl) (fun _ _ _ h => h) (Or.inl ⟨by rfl, ?_⟩) ?_ ?_
                      rotate_left
                      · intro w'
                        go_simp
                        with_reducible rfl
                      rotate_left
                      · simp only [Act.put, List.setIfInBounds_toArray, List.set_cons_zero, List.set_cons_succ, i64_w, i32_w]
                        rfl
                      refine pure_ (i := 13) (N := some 122) (v := ?_) (a' := ?_) #[true, true, true, true, true, true, true, true, true, true, true, true, true, true, false, false, false, false, false, false] rfl rfl (by kernel_rfl) (fun _ _ _ h => h) (Or.inl ⟨by rfl, ?_⟩) ?_ ?_
                      rotate_left
                      · intro w'
                        go_simp
                        with_reducible rfl
                      rotate_left
                      · simp only [Act.put, List.setIfInBounds_toArray, List.set_cons_zero, List.set_cons_succ, i64_w, i32_w]
                        rfl
                      refine pure_ (i := 14) (N := some 123) (v := ?_) (a' := ?_) #[true, true, true, true, true, true, true, true, true, true, true, true, true, true, true, false, false, false, false, false] rfl rfl (by kernel_rfl) (fun _ _ _ h => h) (Or.inl ⟨by rfl, ?_⟩) ?_ ?_
                      rotate_left
                      · intro w'
                        go_simp
                        with_reducible rfl
                      rotate_left
                      · simp only [Act.put, List.setIfInBounds_toArray, List.set_cons_zero, List.set_cons_succ, i64_w, i32_w]
                        rfl
                      refine pure_ (i := 15) (N := some 124) (v := ?_) (a' := ?_) #[true, true, true, true, true, true, true, true, true, true, true, true, true, true, true, true, false, false, false, false] rfl rfl (by kernel_rfl) (fun _ _ _ h => h) (Or.inl ⟨by rfl, ?_⟩) ?_ ?_
                      rotate_left
                      · intro w'
                        go_simp
                        with_reducible rfl
                      rotate_left
                      · simp only [Act.put, List.setIfInBounds_toArray, List.set_cons_zero, List.set_cons_succ, i64_w, i32_w]
                        rfl
                      refine pure_ (i := 16) (N := some 125) (v := ?_) (a' := ?_) #[true, true, true, true, true, true, true, true, true, true, true, true, true, true, true, true, true, false, false, false] rfl rfl (by kernel_rfl) (fun _ _ _ h => h) (Or.inl ⟨by rfl, ?_⟩) ?_ ?_
                      rotate_left
                      · intro w'
                        go_simp
                        with_reducible rfl
                      rotate_left
                      · simp only [Act.put, List.setIfInBounds_toArray, List.set_cons_zero, List.set_cons_succ, i64_w, i32_w]
                        rfl
                      refine last_ (i := 17) (N := some 126) #[true, true, true, true, true, true, true, true, true, true, true, true, true, true, true, true, true, true, false, false] rfl rfl (by kernel_rfl) (by decide) (fun K hK => ?_)
                      refine goes_ Try.func32 (by kernel_rfl) rfl #[] (by rfl) rfl rfl (by simp) ?_
                      with_reducible refine (known_ _).mono ?_
                      rintro e w14 ⟨rfl, hb14⟩
                      refine ⟨_, rfl, ?_⟩
                      refine hK.out _ _ ?_
                      clear hK K
                      refine norm_ (a' := ?_) ?_ ?_
                      rotate_left
                      · show Act.put _ (some 126) _ = _
                        simp only [Act.put, List.setIfInBounds_toArray, List.set_cons_zero, List.set_cons_succ, i64_w, i32_w]
                        rfl
                      refine pure_ (i := 18) (N := some 127) (v := ?_) (a' := ?_) #[true, true, true, true, true, true, true, true, true, true, true, true, true, true, true, true, true, true, true, false] rfl rfl (by kernel_rfl) (fun _ _ _ h => h) (Or.inl ⟨by rfl, ?_⟩) ?_ ?_
                      rotate_left
                      · intro w'
                        go_simp
                        with_reducible rfl
                      rotate_left
                      · simp only [Act.put, List.setIfInBounds_toArray, List.set_cons_zero, List.set_cons_succ, i64_w, i32_w]
                        rfl
                      refine pure_ (i := 19) (N := some 4) (v := ?_) (a' := ?_) #[true, true, true, true, true, true, true, true, true, true, true, true, true, true, true, true, true, true, true, true] rfl rfl (by kernel_rfl) (fun _ _ _ h => h) (Or.inl ⟨by rfl, ?_⟩) ?_ ?_
                      rotate_left
                      · intro w'
                        go_simp
                        with_reducible rfl
                      rotate_left
                      · simp only [Act.put, List.setIfInBounds_toArray, List.set_cons_zero, List.set_cons_succ, i64_w, i32_w]
                        rfl
                      refine done_ (by kernel_rfl) ?_
                      go_wp2_with fail
                      go_ret
                      exact ⟨by first | rfl | (simp; done), (B13.out.below hb14).toBelow⟩
            · clear HC2
              go_wp2_with fail
              have L0 := Aside0.mk (AS2.out.litRow (enc := Value.int .u8) (h1 := fun _ => rfl) (e := 5) [] (by decide)).at3
              refine (bytes_ L0.out).mono ?_
              rintro e w6 ⟨v6, rfl, hS6⟩
              obtain ⟨A6, c6, rfl⟩ := hS6.rowN HQ.out
              have B6 := Aside0.mk hS6.at3
              clear hS6 L0
              go_wp2_with (first
                | (refine gate_builtin (b := .append) (xs := #[.tmp 72, .tmp 74]) rfl ?_; go_loud (refine B6.out.appendRow rfl (.tmp 72) (.tmp 74) 22 (.int .u8 0) 1 rfl Try.underlying22 infoB rfl (by decide) A6 256 c6 rfl rfl B6.out.at2.rowC' (by rw [HQ.out]; decide) ?_; intro v7 w7 hS7; rw [List.nil_append] at hS7; have A7 := Aside0.mk hS7.drop2; clear hS7))
                | (refine gate_builtin (b := .append) (xs := #[.tmp 75, .const (.int .i64 256)]) rfl ?_; go_loud (refine A7.out.zerosRow (0 : Int) rfl (.tmp 75) (.const (.int .i64 256)) 22 3 1 rfl Try.underlying22 Try.underlying3 infoB rfl (by decide) 256 rfl rfl (by rw [HQ.out]; decide) ?_; intro v8 w8 hS8; obtain ⟨A8, c8, rfl⟩ := hS8.rowN (n := 512) (by rw [List.length_append, HQ.out, List.length_replicate]); have hc8 := hS8.rowC.2.1; have A8' := Aside0.mk (hS8.fxRow.nilRow KV 22); clear hS8)))
              obtain ⟨b, hb⟩ : ∃ b, q ++ List.replicate 256 0 = b := ⟨_, rfl⟩
              rw [hb] at A8'
              have HBE := Aside0.mk hb
              have HBL : Aside0 (b.length = 512) := ⟨by rw [← hb, List.length_append, HQ.out, List.length_replicate]⟩
              clear hb
              go_loopg [9, 11] 8 (fun m v s wr => ∃ (k : Nat) (cs : List OV), s = .int .i64 (64 * (k : Int)) ∧ k + m = 8 ∧ (∀ W : World, U8.C W A8 512 b → EachV KP (pagesOf b k) cs W) ∧ Sep w wr (Row KV 22 v cs :: Fx (fun W => U8.C W A8 512 b) :: [Mem g q 8 D, Mem g2 q2 8 D2]))
              case atStart => exact ⟨0, [], rfl, rfl, fun W _ => EachV.nil KP W, A8'.out⟩
              case round =>
                obtain ⟨k, cs, rfl, hkm, hE, hS⟩ := hrel
                have AK3 := Aside0.mk hkm
                have HE := Aside0.mk hE
                have hcl : cs.length = k := by
                  have := (hE _ hS.at2.fx).1
                  rw [← this]; simp [pagesOf]
                obtain ⟨A9, c9, rfl⟩ := hS.rowN hcl
                have AS3 := Aside0.mk hS
                have HCL := Aside0.mk hcl
                clear hS hE hcl
                by_cases hk : k < 8
                · have hkp : 64 * (k : Int) < 512 := by omega
                  have hw : wrap64 (64 * (k : Int) + 64) = 64 * (k : Int) + 64 := IntWalk.wrap64_in _ (by omega)
                  obtain ⟨A', hcut, hT⟩ := Base.mid8 (A := A8) (n := 512) (c := c8) (a := 64 * k) (b := 64 * (k + 1)) (J := 64 * (k : Int)) (K := 64 * (k : Int) + 64) (l := b) (by omega) (by omega) HBL.out (by omega) (by omega) hc8
                  rw [show 64 * (k + 1) - 64 * k = 64 by omega] at hcut hT
                  obtain ⟨c', hc'⟩ : ∃ c', c8 - 64 * k = c' := ⟨_, rfl⟩
                  rw [hc'] at hcut
                  have hpl : (pg b k).length = 64 := by unfold pg; rw [List.length_take, List.length_drop, HBL.out]; omega
                  have HT : Aside0 (∀ W : World, U8.C W A8 512 b → KP.K W (pg b k) [.slice A' 64 c']) := ⟨fun W hC => ⟨A', c', by rw [hpl], by rw [hpl]; omega, by
                    have := hT W hC
                    rw [← pageF_in (by rw [HBL.out]; omega), pageF_pg (by rw [HBL.out]; omega)] at this
                    rw [hpl]; exact this⟩⟩
                  have L9 : Aside0 (Sep w (wr.alloc (.cells #[.slice A' 64 c'] 22)) (Row KV 22 (.slice A9 k c9) cs :: Row KV 22 (.slice (some ⟨wr.heap.size, 0, none⟩) 1 1) [⟨.slice A' 64 c', rfl⟩] :: Fx (fun W => U8.C W A8 512 b) :: [Mem g q 8 D, Mem g2 q2 8 D2])) := ⟨(AS3.out.litRow (enc := fun x : OV => x.1) (h1 := fun x => x.2) (e := 22) [⟨.slice A' 64 c', rfl⟩] (by simp)).at2⟩
                  clear hkm hT hc' hpl
                  go_wp2_with (first | (refine gate_builtin (b := .append) (xs := #[.tmp 83, .tmp 89]) rfl ?_; go_loud (refine L9.out.appendRow rfl (.tmp 83) (.tmp 89) 71 _ 24 rfl Try.underlying71 infoS rfl (by decide) (some ⟨wr.heap.size, 0, none⟩) 1 1 rfl rfl L9.out.at2.rowC' (by rw [HCL.out]; simp; omega) ?_; intro v10 w10 hS10; have A10 := Aside0.mk hS10.drop2; clear hS10)))
                  go_roundg (gk - 1)
                  case measure => have := AK3.out; omega
                  case rel => exact ⟨k + 1, _, by go_num, by have := AK3.out; omega, fun W hC => by rw [pagesOf_snoc]; exact (HE.out W hC).snoc (HT.out W hC), A10.out⟩
                · obtain rfl : k = 8 := by omega
                  clear hkm AK3
                  have HKP := Aside0.mk (eachV_C (d := KP) rfl AS3.out.rowC' (HE.out _ AS3.out.at2.fx))
                  have B9 := Aside0.mk (AS3.out.perm (List.perm_append_comm (l₁ := [_, _]) (l₂ := [_, _])))
                  go_wp2_with fail
                  refine (changes_ (first := 0) (L := [Mem g q 8 D, Mem g2 q2 8 D2, _, _]) B9.out (.refl _) (.swap _ _ _) (by decide)).mono ?_
                  rintro e w10 ⟨v10, rfl, hS10⟩
                  rw [HD.out, HK.out.2.2.2] at hS10
                  have hbl := back_law HQ.out HK.out.1 HK.out.2.2.1 k2 (Nat.le_refl _)
                  rw [HBE.out] at hbl
                  have hcl := changes_len (b1 := q) (b2 := q2) (n1 := 4) (first := 0) (n2 := k2) (by rw [HK.out.1]; exact Nat.le_refl _)
                  obtain ⟨ch, hch⟩ : ∃ ch, changesF q q2 4 k2 0 = ch := ⟨_, rfl⟩
                  rw [hch] at hS10 hbl hcl
                  obtain ⟨A10, c10, rfl⟩ := hS10.rowV
                  have B10 := Aside0.mk hS10
                  have HBLW := Aside0.mk (And.intro hbl hcl)
                  have HKP10 := Aside0.mk (eachV_C (d := KP) rfl hS10.at4.rowC' (HE.out _ (hS10.at5.fx)))
                  clear hS10 hbl hcl hch
                  go_wp2_with fail
                  refine (apply_ HKP10.out B10.out.rowC.2.2 (by decide) pages_len HBLW.out.2).mono ?_
                  rintro e w11 ⟨v11, rfl, hS11⟩
                  rw [HBLW.out.1] at hS11
                  obtain ⟨A11, c11, rfl⟩ := hS11.rowVN (n := 8) (by rw [List.length_map]; rfl)
                  have B11 := Aside0.mk (Sep.weakR (L := [_, _]) (B10.out.lift1 hS11).at4)
                  clear hS11 B10 B9
                  go_wp2_with fail
                  go_loopg [12, 97] 8 (fun m s p wr => ∃ k : Nat, p = .int .i64 (k : Int) ∧ k + m = 8 ∧ s = .string (strOfNums ((List.range k).flatMap (endF b q2 k2))) ∧ Sep w wr [Mem g2 q2 8 D2, RowV KP 22 (.slice A11 8 c11) ((List.range 8).map (endF b q2 k2))])
                  case atStart => exact ⟨0, rfl, rfl, rfl, B11.out⟩
                  case round =>
                    obtain ⟨k, rfl, hkm, rfl, hS⟩ := hrel
                    have AK4 := Aside0.mk hkm
                    have AS4 := Aside0.mk hS
                    by_cases hk : k < 8
                    · have hkp : (k : Int) < 8 := by omega
                      obtain ⟨hx, ad, B, cB, rfl, e0, e1, e2⟩ := elemP (hS.at2.rowVC rfl).2.2 hk
                      have hex : ((List.range 8).map (endF b q2 k2))[k] = endF b q2 k2 k := by rw [List.getElem_map, List.getElem_range]
                      rw [hex] at e0 e1 e2
                      have hel : (endF b q2 k2 k).length = 64 := by rw [← HBE.out]; exact endF_len HQ.out HK.out.1 HK.out.2.2.1 hk
                      have hfl : ((List.range k).flatMap (endF b q2 k2)).length = 64 * k := by rw [← HBE.out]; exact flat_len HQ.out HK.out.1 HK.out.2.2.1 k (by omega)
                      have hst := str_c (c := cB) e2
                      have HAP : Aside0 (strOfNums ((List.range k).flatMap (endF b q2 k2)) ++ strOfNums (endF b q2 k2 k) = strOfNums ((List.range (k + 1)).flatMap (endF b q2 k2))) := ⟨by rw [str_app, List.range_succ, List.flatMap_append]; simp⟩
                      have hsz : (strOfNums ((List.range k).flatMap (endF b q2 k2))).size + (strOfNums (endF b q2 k2 k)).size ≤ 9223372036854775807 := by rw [strOfNums_size, strOfNums_size, hel, hfl]; omega
                      rw [hel] at e0 hst
                      generalize strOfNums ((List.range k).flatMap (endF b q2 k2)) = sa at *
                      generalize strOfNums (endF b q2 k2 k) = sb at *
                      have hsz' : ¬ (sa.size + sb.size > 9223372036854775807) := by omega
                      have hadd : ∀ W : World, (Op.stringOp .add sa sb).run Try.prog W = .ok (.string (sa ++ sb)) W := fun W => run_string_add_sum W sa sb hsz
                      clear hS hkm e1 e2 hex hel hfl hx
                      go_wp2_with fail
                      go_roundg (gk - 1)
                      case measure => have := AK4.out; omega
                      case rel => exact ⟨k + 1, by go_num, by have := AK4.out; omega, by rw [← HAP.out], AS4.out⟩
                    · obtain rfl : k = 8 := by omega
                      have HFA := Aside0.mk (flat_all HQ.out HK.out.1 HK.out.2.2.1)
                      have HFL := Aside0.mk (flat_len HQ.out HK.out.1 HK.out.2.2.1 8 (Nat.le_refl _))
                      rw [HBE.out] at HFA HFL
                      generalize (List.range 8).flatMap (endF b q2 k2) = ff at *
                      have hsz : (strOfNums ff).size = 512 := by rw [strOfNums_size, HFL.out]
                      obtain ⟨N2, hN2⟩ : ∃ N2, 64 * k2 = N2 := ⟨_, rfl⟩
                      have hk8 : N2 ≤ 512 := by have := HK.out; omega
                      have hcut : ∀ W : World, (Instr.slice 9 (.string (strOfNums ff)) none (some (.int .i64 (N2 : Int))) none).run Try.prog W = .ok (.string (strOfNums q2)) W := fun W => by
                        rw [run_slice_string_h W 9 _ Try.underlying9 .i64 _ (by omega) (by rw [hsz]; omega), Int.toNat_natCast, str_cut, ← hN2, HFA.out]
                      have HQ2 : Aside0 (q2.length = N2) := ⟨by rw [← hN2]; exact HK.out.1⟩
                      clear hN2
                      clear hS hkm AK4
                      generalize strOfNums ff = sf at *
                      go_wp2_with fail
                      refine (bytes_ AS4.out).mono ?_
                      rintro e w12 ⟨v12, rfl, hS12⟩
                      obtain ⟨A12, c12, rfl⟩ := hS12.rowN (n := N2) HQ2.out
                      have B12 := Aside0.mk hS12.tail.drew
                      clear hS12
                      have hk9 : (N2 : Int) ≤ 512 := by omega
                      go_wp2_with fail
                      refine start_ (n := 20) (S := fun w' => True) (ds := [17]) #[false, false, false, false, false, false, false, false, false, false, false, false, false, false, false, false, false, false, false, false] (by kernel_rfl) rfl rfl trivial (fun hHeld => ?_)
                      refine pure_ (i := 0) (N := some 109) (v := ?_) (a' := ?_) #[true, false, false, false, false, false, false, false, false, false, false, false, false, false, false, false, false, false, false, false] rfl rfl (by kernel_rfl) (fun _ _ _ h => h) (Or.inl ⟨by rfl, ?_⟩) ?_ ?_
                      rotate_left
                      · intro w'
                        go_simp
                        with_reducible rfl
                      rotate_left
                      · simp only [Act.put, List.setIfInBounds_toArray, List.set_cons_zero, List.set_cons_succ, i64_w, i32_w]
                        rfl
                      refine pure_ (i := 1) (N := some 110) (v := ?_) (a' := ?_) #[true, true, false, false, false, false, false, false, false, false, false, false, false, false, false, false, false, false, false, false] rfl rfl (by kernel_rfl) (fun _ _ _ h => h) (Or.inl ⟨by rfl, ?_⟩) ?_ ?_
                      rotate_left
                      · intro w'
                        go_simp
                        with_reducible rfl
                      rotate_left
                      · simp only [Act.put, List.setIfInBounds_toArray, List.set_cons_zero, List.set_cons_succ, i64_w, i32_w]
                        rfl
                      refine pure_ (i := 2) (N := some 111) (v := ?_) (a' := ?_) #[true, true, true, false, false, false, false, false, false, false, false, false, false, false, false, false, false, false, false, false] rfl rfl (by kernel_rfl) (fun _ _ _ h => h) (Or.inl ⟨by rfl, ?_⟩) ?_ ?_
                      rotate_left
                      · intro w'
                        go_simp
                        with_reducible rfl
                      rotate_left
                      · simp only [Act.put, List.setIfInBounds_toArray, List.set_cons_zero, List.set_cons_succ, i64_w, i32_w]
                        rfl
                      refine pure_ (i := 3) (N := some 112) (v := ?_) (a' := ?_) #[true, true, true, true, false, false, false, false, false, false, false, false, false, false, false, false, false, false, false, false] rfl rfl (by kernel_rfl) (fun _ _ _ h => h) (Or.inl ⟨by rfl, ?_⟩) ?_ ?_
                      rotate_left
                      · intro w'
                        go_simp
                        with_reducible rfl
                      rotate_left
                      · simp only [Act.put, List.setIfInBounds_toArray, List.set_cons_zero, List.set_cons_succ, i64_w, i32_w]
                        rfl
                      refine pure_ (i := 4) (N := some 113) (v := ?_) (a' := ?_) #[true, true, true, true, true, false, false, false, false, false, false, false, false, false, false, false, false, false, false, false] rfl rfl (by kernel_rfl) (fun _ _ _ h => h) (Or.inl ⟨by rfl, ?_⟩) ?_ ?_
                      rotate_left
                      · intro w'
                        go_simp
                        with_reducible rfl
                      rotate_left
                      · simp only [Act.put, List.setIfInBounds_toArray, List.set_cons_zero, List.set_cons_succ, i64_w, i32_w]
                        rfl
                      refine pure_ (i := 5) (N := some 114) (v := ?_) (a' := ?_) #[true, true, true, true, true, true, false, false, false, false, false, false, false, false, false, false, false, false, false, false] rfl rfl (by kernel_rfl) (fun _ _ _ h => h) (Or.inl ⟨by rfl, ?_⟩) ?_ ?_
                      rotate_left
                      · intro w'
                        go_simp
                        with_reducible rfl
                      rotate_left
                      · simp only [Act.put, List.setIfInBounds_toArray, List.set_cons_zero, List.set_cons_succ, i64_w, i32_w]
                        rfl
                      refine pure_ (i := 6) (N := some 115) (v := ?_) (a' := ?_) #[true, true, true, true, true, true, true, false, false, false, false, false, false, false, false, false, false, false, false, false] rfl rfl (by kernel_rfl) (fun _ _ _ h => h) (Or.inl ⟨by rfl, ?_⟩) ?_ ?_
                      rotate_left
                      · intro w'
                        go_simp
                        with_reducible rfl
                      rotate_left
                      · simp only [Act.put, List.setIfInBounds_toArray, List.set_cons_zero, List.set_cons_succ, i64_w, i32_w]
                        rfl
                      refine pure_ (i := 7) (N := some 116) (v := ?_) (a' := ?_) #[true, true, true, true, true, true, true, true, false, false, false, false, false, false, false, false, false, false, false, false] rfl rfl (by kernel_rfl) (fun _ _ _ h => h) (Or.inl ⟨by rfl, ?_⟩) ?_ ?_
                      rotate_left
                      · intro w'
                        go_simp
                        with_reducible rfl
                      rotate_left
                      · simp only [Act.put, List.setIfInBounds_toArray, List.set_cons_zero, List.set_cons_succ, i64_w, i32_w]
                        rfl
                      refine one_ (i := 8) (N := some 117) #[true, true, true, true, true, true, true, true, true, false, false, false, false, false, false, false, false, false, false, false] rfl rfl (by kernel_rfl) (by decide) (fun K hK => ?_)
                      refine goes_ Try.func13 (by kernel_rfl) rfl #[.pointer (some ⟨g2, 0, none⟩)] (by rfl) rfl rfl (by simp only [List.map_toArray, List.map_cons, List.map_nil]; rfl) ?_
                      with_reducible refine (bytes_ B12.out).mono ?_
                      rintro e w13 ⟨v13, rfl, hS13⟩
                      refine ⟨_, rfl, ?_⟩
                      obtain ⟨A13, c13, rfl⟩ := hS13.rowN (n := N2) HQ2.out
                      have hs13 := str_ hS13
                      have B13 := Aside0.mk hS13
                      clear hS13
                      refine hK.out _ _ trivial (fun hHeld => ?_)
                      clear hK K
                      refine norm_ (a' := ?_) ?_ ?_
                      rotate_left
                      · show Act.put _ (some 117) _ = _
                        simp only [Act.put, List.setIfInBounds_toArray, List.set_cons_zero, List.set_cons_succ, i64_w, i32_w]
                        rfl
                      refine one_ (i := 9) (N := some 118) #[true, true, true, true, true, true, true, true, true, true, false, false, false, false, false, false, false, false, false, false] rfl rfl (by kernel_rfl) (by decide) (fun K hK => ?_)
                      refine value_ (w1 := ?_) (v := ?_) (by rfl) rfl ?_ ?_
                      rotate_left 2
                      · go_simp
                        constructor
                        · rfl
                        · rfl
                      refine hK.out _ _ trivial (fun hHeld => ?_)
                      clear hK K
                      refine norm_ (a' := ?_) ?_ ?_
                      rotate_left
                      · show Act.put _ (some 118) _ = _
                        simp only [Act.put, List.setIfInBounds_toArray, List.set_cons_zero, List.set_cons_succ, i64_w, i32_w]
                        rfl
                      refine pure_ (i := 10) (N := some 119) (v := ?_) (a' := ?_) #[true, true, true, true, true, true, true, true, true, true, true, false, false, false, false, false, false, false, false, false] rfl rfl (by kernel_rfl) (fun _ _ _ h => h) (Or.inl ⟨by rfl, ?_⟩) ?_ ?_
                      rotate_left
                      · intro w'
                        go_simp
                        with_reducible rfl
                      rotate_left
                      · simp only [Act.put, List.setIfInBounds_toArray, List.set_cons_zero, List.set_cons_succ, i64_w, i32_w]
                        rfl
                      refine pure_ (i := 11) (N := some 120) (v := ?_) (a' := ?_) #[true, true, true, true, true, true, true, true, true, true, true, true, false, false, false, false, false, false, false, false] rfl rfl (by kernel_rfl) (fun _ _ _ h => h) (Or.inl ⟨by rfl, ?_⟩) ?_ ?_
                      rotate_left
                      · intro w'
                        go_simp
                        with_reducible rfl
                      rotate_left
                      · simp only [Act.put, List.setIfInBounds_toArray, List.set_cons_zero, List.set_cons_succ, i64_w, i32_w]
                        rfl
                      refine pure_ (i := 12) (N := some 121) (v := ?_) (a' := ?_) #[true, true, true, true, true, true, true, true, true, true, true, true, true, false, false, false, false, false, false, false] rfl rfl (by kernel_rfl) (fun _ _ _ h => h) (Or.inl ⟨by rfl, ?_⟩) ?_ ?_
                      rotate_left
                      · intro w'
                        go_simp
                        with_reducible rfl
                      rotate_left
                      · simp only [Act.put, List.setIfInBounds_toArray, List.set_cons_zero, List.set_cons_succ, i64_w, i32_w]
                        rfl
                      refine pure_ (i := 13) (N := some 122) (v := ?_) (a' := ?_) #[true, true, true, true, true, true, true, true, true, true, true, true, true, true, false, false, false, false, false, false] rfl rfl (by kernel_rfl) (fun _ _ _ h => h) (Or.inl ⟨by rfl, ?_⟩) ?_ ?_
                      rotate_left
                      · intro w'
                        go_simp
                        with_reducible rfl
                      rotate_left
                      · simp only [Act.put, List.setIfInBounds_toArray, List.set_cons_zero, List.set_cons_succ, i64_w, i32_w]
                        rfl
                      refine pure_ (i := 14) (N := some 123) (v := ?_) (a' := ?_) #[true, true, true, true, true, true, true, true, true, true, true, true, true, true, true, false, false, false, false, false] rfl rfl (by kernel_rfl) (fun _ _ _ h => h) (Or.inl ⟨by rfl, ?_⟩) ?_ ?_
                      rotate_left
                      · intro w'
                        go_simp
                        with_reducible rfl
                      rotate_left
                      · simp only [Act.put, List.setIfInBounds_toArray, List.set_cons_zero, List.set_cons_succ, i64_w, i32_w]
                        rfl
                      refine pure_ (i := 15) (N := some 124) (v := ?_) (a' := ?_) #[true, true, true, true, true, true, true, true, true, true, true, true, true, true, true, true, false, false, false, false] rfl rfl (by kernel_rfl) (fun _ _ _ h => h) (Or.inl ⟨by rfl, ?_⟩) ?_ ?_
                      rotate_left
                      · intro w'
                        go_simp
                        with_reducible rfl
                      rotate_left
                      · simp only [Act.put, List.setIfInBounds_toArray, List.set_cons_zero, List.set_cons_succ, i64_w, i32_w]
                        rfl
                      refine pure_ (i := 16) (N := some 125) (v := ?_) (a' := ?_) #[true, true, true, true, true, true, true, true, true, true, true, true, true, true, true, true, true, false, false, false] rfl rfl (by kernel_rfl) (fun _ _ _ h => h) (Or.inl ⟨by rfl, ?_⟩) ?_ ?_
                      rotate_left
                      · intro w'
                        go_simp
                        with_reducible rfl
                      rotate_left
                      · simp only [Act.put, List.setIfInBounds_toArray, List.set_cons_zero, List.set_cons_succ, i64_w, i32_w]
                        rfl
                      refine last_ (i := 17) (N := some 126) #[true, true, true, true, true, true, true, true, true, true, true, true, true, true, true, true, true, true, false, false] rfl rfl (by kernel_rfl) (by decide) (fun K hK => ?_)
                      refine goes_ Try.func32 (by kernel_rfl) rfl #[] (by rfl) rfl rfl (by simp) ?_
                      with_reducible refine (known_ _).mono ?_
                      rintro e w14 ⟨rfl, hb14⟩
                      refine ⟨_, rfl, ?_⟩
                      refine hK.out _ _ ?_
                      clear hK K
                      refine norm_ (a' := ?_) ?_ ?_
                      rotate_left
                      · show Act.put _ (some 126) _ = _
                        simp only [Act.put, List.setIfInBounds_toArray, List.set_cons_zero, List.set_cons_succ, i64_w, i32_w]
                        rfl
                      refine pure_ (i := 18) (N := some 127) (v := ?_) (a' := ?_) #[true, true, true, true, true, true, true, true, true, true, true, true, true, true, true, true, true, true, true, false] rfl rfl (by kernel_rfl) (fun _ _ _ h => h) (Or.inl ⟨by rfl, ?_⟩) ?_ ?_
                      rotate_left
                      · intro w'
                        go_simp
                        with_reducible rfl
                      rotate_left
                      · simp only [Act.put, List.setIfInBounds_toArray, List.set_cons_zero, List.set_cons_succ, i64_w, i32_w]
                        rfl
                      refine pure_ (i := 19) (N := some 4) (v := ?_) (a' := ?_) #[true, true, true, true, true, true, true, true, true, true, true, true, true, true, true, true, true, true, true, true] rfl rfl (by kernel_rfl) (fun _ _ _ h => h) (Or.inl ⟨by rfl, ?_⟩) ?_ ?_
                      rotate_left
                      · intro w'
                        go_simp
                        with_reducible rfl
                      rotate_left
                      · simp only [Act.put, List.setIfInBounds_toArray, List.set_cons_zero, List.set_cons_succ, i64_w, i32_w]
                        rfl
                      refine done_ (by kernel_rfl) ?_
                      go_wp2_with fail
                      go_ret
                      exact ⟨by first | rfl | (simp; done), (B13.out.below hb14).toBelow⟩
end Go.Proofs.Ytfpkhlhojjmgiaa.Shade
