/- RefT3, Law8b, WGuard, NestNumbers, NestQ: what NestAdds needs. -/
import Derived.Test.YtkkgfpdjlohojaaTnestAdds6
import Derived.Deep.Cut
import Derived.OwnWalk
set_option linter.unusedVariables false
set_option linter.unusedSimpArgs false
namespace Go.Proofs.Ytkkgfpdjlohojaa.RefT
open Go.RowKit Go.Proofs.YtkkgfpdjlohojaaW.PrintWords Go.Proofs.YtkkgfpdjlohojaaW.PrintLast Go.Proofs.YtkkgfpdjlohojaaW.PrintMore Go.Proofs.Ytkkgfpdjlohojaa.Kit
open Go.Proofs.Ytkkgfpdjlohojaa.TokP Go.Proofs.Ytkkgfpdjlohojaa.Tok
def tokO (s : ByteArray) : Option (List Tok) := if 512 < s.size then none else tokens (runesS s)
def tokErr (s : ByteArray) : Int := if 512 < s.size then 3 else 12
def tkA (w0 w' : World) (F : List HP) (e : Ending) (er : Int) : Option (List Tok) → Prop
  | some l => ∃ v, e = .returned (.tuple #[v, .int .i64 0]) ∧ Sep w0 w' (RowT v l :: F)
  | none => e = .returned (.tuple #[.slice none 0 0, .int .i64 er]) ∧ Sep w0 w' F
theorem drop_cons {rs : List Int} {i : Nat} (h : i < rs.length) : rs.drop i = rs.getD i 0 :: rs.drop (i + 1) := by
  rw [List.drop_eq_getElem_cons h, List.getD_eq_getElem?_getD, List.getElem?_eq_getElem h]
  rfl
section
variable {w0 W : World} {F : List HP}
set_option maxHeartbeats 6400000 in
set_option maxRecDepth 100000 in
theorem tokens_ (h : Sep w0 W F) (s : ByteArray) :
    Calls Try.prog 12 #[.string s] W fun e w' => tkA w0 w' F e (tokErr s) (tokO s) := by
  by_cases h512 : 512 < s.size
  · have h1 : tokErr s = 3 := if_pos h512
    have h2 : tokO s = none := if_pos h512
    have hd : decide (512 < (s.size : Int)) = true := decide_eq_true (by omega)
    have H := Aside0.mk h
    rw [h1, h2]
    clear h h1 h2
    go_enter Try.func12, Try.ntmps12
    go_wp2_with fail
    go_ret2
    exact ⟨by first | rfl | (simp; done), H.out⟩
  · have h1 : tokErr s = 12 := if_neg h512
    have h2 : tokO s = tokens (runesS s) := if_neg h512
    have hd : decide (512 < (s.size : Int)) = false := decide_eq_false (by omega)
    have H := Aside0.mk h
    rw [h1, h2]
    clear h h1 h2
    have hlen := runesS_len s
    have hrg : ∀ r ∈ runesS s, 0 ≤ r ∧ r ≤ 2147483647 := runesF_range s s.size 0
    obtain ⟨rs, hrs⟩ : ∃ rs, runesS s = rs := ⟨_, rfl⟩
    have HRS := Aside0.mk hrs
    rw [hrs] at hlen hrg ⊢
    obtain ⟨n, hn⟩ : ∃ n, rs.length = n := ⟨_, rfl⟩
    rw [hn] at hlen
    have HN := Aside0.mk (And.intro hn hrg)
    have hn512 : n ≤ 512 := by omega
    have hsz : s.size ≤ 1000000 := by omega
    obtain ⟨o, ho⟩ : ∃ o, tokens rs = o := ⟨_, rfl⟩
    have HO := Aside0.mk ho
    rw [ho]
    clear hrs hn hrg hlen h512 ho
    go_enter Try.func12, Try.ntmps12
    go_wp2_with (go_at_call 25; refine (runes_ H.out s hsz).mono ?_; rintro e w1 ⟨v, rfl, hS⟩; rw [HRS.out] at hS; obtain ⟨A, c, rfl⟩ := hS.rowN HN.out.1; have B0 : Aside0 (Sep w0 w1 (RowT (.slice none 0 0) [] :: Row R32 21 (.slice A n c) rs :: F)) := ⟨hS.nilRow (Kd.raw 3) 42⟩; clear hS)
    clear hd
    go_loopg [5, 6] n (fun m v q wr => ∃ (i : Nat) (acc : List Tok), i + m = n ∧ q = .int .i64 (i : Int) ∧ o = TokP.run acc .idle (rs.drop i) ∧ acc.length ≤ i ∧ Sep w0 wr (RowT v acc :: Row R32 21 (.slice A n c) rs :: F))
    case atStart => exact ⟨0, [], by omega, rfl, HO.out.symm, Nat.zero_le _, B0.out⟩
    case round =>
      obtain ⟨i, acc, him, rfl, hrun, hal, hS⟩ := hrel
      obtain ⟨A5, c5, rfl⟩ := hS.rowN (n := acc.length) (by rw [List.length_map])
      obtain ⟨K, hK⟩ : ∃ K, acc.length = K := ⟨_, rfl⟩
      rw [hK] at hS hal ⊢
      have AK := Aside0.mk him
      have HB := Aside0.mk hS
      have HU := Aside0.mk hrun
      have HK := Aside0.mk (And.intro hK hal)
      clear hK hal
      obtain ⟨G, rfl⟩ : ∃ G, G = gk := ⟨_, rfl⟩
      by_cases hi : i < n
      · obtain ⟨gr, c9, e9⟩ := hS.tail.rowFormN HN.out.1 (by omega)
        injection e9 with e9 _ e99
        subst e9 e99
        obtain ⟨f1, f2⟩ := hS.tail.rowCell (0 : Int) i hi
        have hdr := drop_cons (rs := rs) (i := i) (by rw [HN.out.1]; exact hi)
        have hrr := HN.out.2 (rs.getD i 0) (by rw [List.getD_eq_getElem?_getD, List.getElem?_eq_getElem (by rw [HN.out.1]; exact hi)]; exact List.getElem_mem _)
        obtain ⟨r, hr⟩ : ∃ r, rs.getD i 0 = r := ⟨_, rfl⟩
        rw [hr] at f1 hdr hrr
        rw [hdr] at hrun
        have HU2 := Aside0.mk hrun
        have HR := Aside0.mk hr
        have HI := Aside0.mk hi
        have HRR := Aside0.mk hrr
        have hij : (i : Int) < (n : Int) := by omega
        clear hS hrun hdr hr hrr f2 him
        by_cases h32 : r = 32
        · subst h32
          go_wp2_with fail
          go_roundg (G - 1)
          case measure => have := AK.out; omega
          case rel => exact ⟨i + 1, acc, by have := AK.out; omega, by go_num, HU2.out, by have := HK.out; omega, HB.out⟩
        · have hb32 : (r == 32) = false := by simp [h32]
          by_cases hdg : 48 ≤ r ∧ r ≤ 57
          · obtain ⟨hg1, hg2⟩ := hdg
            have hq1 : decide (48 ≤ r) = true := decide_eq_true hg1
            have hq2 : decide (r ≤ 57) = true := decide_eq_true hg2
            go_wp2_with fail
            go_loopg [6, 8] (n - i) (fun m q d wx => ∃ (j k : Nat), i ≤ j ∧ j + m = n ∧ q = .int .i64 (j : Int) ∧ d = .int .u64 (k : Int) ∧ k ≤ top ∧ o = TokP.run acc (.num k) (rs.drop j) ∧ wx = wr)
            case atStart => exact ⟨i, 0, Nat.le_refl _, by omega, rfl, rfl, Nat.zero_le _, by rw [drop_cons (by rw [HN.out.1]; exact hi), HR.out, ← run_num _ _ _ ⟨hg1, hg2⟩]; exact HU2.out, rfl⟩
            case round =>
              obtain ⟨j, k, hij2, hjm, rfl, rfl, hkt, hrun2, rfl⟩ := hrel
              have HM := Aside0.mk hjm
              have HIJ := Aside0.mk hij2
              by_cases hjn : j < n
              · obtain ⟨g1, g2⟩ := HB.out.tail.rowCell (0 : Int) j hjn
                have hdr := drop_cons (rs := rs) (i := j) (by rw [HN.out.1]; exact hjn)
                have hxr := HN.out.2 (rs.getD j 0) (by rw [List.getD_eq_getElem?_getD, List.getElem?_eq_getElem (by rw [HN.out.1]; exact hjn)]; exact List.getElem_mem _)
                obtain ⟨x, hx⟩ : ∃ x, rs.getD j 0 = x := ⟨_, rfl⟩
                rw [hx] at g1 hdr hxr
                have HX := Aside0.mk hx
                have hjl : (j : Int) < (n : Int) := by omega
                rw [hdr] at hrun2
                have HDR := Aside0.mk hdr
                have HR2 := Aside0.mk hrun2
                clear g2 hdr hx hrun2 hjm hij2
                by_cases hxd : 48 ≤ x ∧ x ≤ 57
                · obtain ⟨d, hd⟩ : ∃ d : Nat, (x - 48).toNat = d := ⟨_, rfl⟩
                  have hd9 : d ≤ 9 := by omega
                  have hxd2 : x = (d : Int) + 48 := by omega
                  have hst := run_digit acc k x (rs.drop (j + 1)) hxd
                  rw [hd] at hst
                  have HST := Aside0.mk hst
                  subst hxd2
                  clear hst hxd hd hxr
                  have e1 : decide (48 ≤ (d : Int) + 48) = true := decide_eq_true (by omega)
                  have e2 : decide ((d : Int) + 48 ≤ 57) = true := decide_eq_true (by omega)
                  have e3 : (d : Int) + 48 - 48 = (d : Int) := by omega
                  have e4 : wrap32 (d : Int) = (d : Int) := by unfold wrap32; omega
                  have e5 : IntKind.i32.wrap (d : Int) = (d : Int) := by rw [IntKind.wrap_i32]; omega
                  have e6 : IntKind.u64.wrap (d : Int) = (d : Int) := by rw [IntKind.wrap_u64]; omega
                  by_cases hov : (top - d) / 10 < k
                  · rw [if_pos hov] at HST
                    have hov2 : decide ((9223372036854775807 - (d : Int)) / 10 < (k : Int)) = true := decide_eq_true (by unfold top at hov; omega)
                    go_wp2_with fail
                    go_ret2
                    rw [HR2.out, HST.out]
                    exact ⟨by first | rfl | (simp; done), HB.out.tail.tail⟩
                  · rw [if_neg hov] at HST
                    have hov2 : decide ((9223372036854775807 - (d : Int)) / 10 < (k : Int)) = false := decide_eq_false (by unfold top at hov; omega)
                    have hk9 : k * 10 + d ≤ top := by unfold top at hov hkt ⊢; omega
                    have e7 : IntKind.u64.wrap ((k : Int) * 10) = (k : Int) * 10 := by unfold top at hk9; rw [IntKind.wrap_u64]; omega
                    have e8 : IntKind.u64.wrap ((k : Int) * 10 + (d : Int)) = ((k * 10 + d : Nat) : Int) := by unfold top at hk9; rw [IntKind.wrap_u64]; omega
                    have HK9 := Aside0.mk hk9
                    clear hk9 hkt hov
                    go_wp2_with fail
                    go_roundg (gk - 1)
                    case measure => have := HM.out; omega
                    case rel => exact ⟨j + 1, k * 10 + d, by have := HIJ.out; omega, by have := HM.out; omega, by go_num, by first | rfl | (congr 1; push_cast; rfl) | (push_cast; rfl), HK9.out, by rw [HR2.out]; exact HST.out, rfl⟩
                · have HF : Aside0 (o = TokP.run (acc ++ [⟨48, (k : Int), 0⟩]) .idle (rs.drop j)) := ⟨by rw [HDR.out, ← run_flush _ _ _ _ hxd]; exact HR2.out⟩
                  have hij3 : i ≠ j := fun hq => hxd (by rw [← HX.out, ← hq, HR.out]; exact ⟨hg1, hg2⟩)
                  have HJ := Aside0.mk (And.intro hij3 (And.intro HIJ.out hjn))
                  by_cases hx1 : 48 ≤ x
                  · have hx2 : ¬ x ≤ 57 := fun hq => hxd ⟨hx1, hq⟩
                    have hq5 : decide (48 ≤ x) = true := decide_eq_true hx1
                    have hq6 : decide (x ≤ 57) = false := decide_eq_false hx2
                    have L := Aside0.mk ((oneTok HB.out ⟨48, (k : Int), 0⟩).at2)
                    have hwj : wrap64 ((j : Int) - 1) = (j : Int) - 1 := IntWalk.wrap64_in _ (by omega)
                    have hwj2 : wrap64 (j : Int) = (j : Int) := IntWalk.wrap64_in _ (by omega)
                    have hwk : wrap64 (k : Int) = (k : Int) := IntWalk.wrap64_in _ (by unfold top at hkt; omega)
                    have hwk2 : IntKind.i64.wrap (k : Int) = (k : Int) := by unfold top at hkt; rw [IntKind.wrap_i64]; omega
                    go_wp2_with (first | (refine gate_builtin (b := .append) (xs := #[.tmp 75, .tmp 79]) rfl ?_; go_loud (refine L.out.appendRaw rfl (.tmp 75) (.tmp 79) 24 (.agg #[.int .i32 0, .int .i64 0, .int .i32 0]) 24 rfl Try.underlying24 infoTok rfl (by decide) (by decide) (some ⟨wr.heap.size, 0, none⟩) 1 1 rfl rfl (rowT_TC L.out.at2) (by rw [List.length_map]; have := HK.out; have := HI.out; simp; omega) ?_; intro v7 w7 hS7; have B7 := Aside0.mk hS7.at2.tail; clear hS7)))
                    go_roundg (n - j)
                    case measure => have := AK.out; have := HJ.out; omega
                    case rel => exact ⟨j, acc ++ [⟨48, (k : Int), 0⟩], by have := HJ.out; omega, by go_num, HF.out, by rw [List.length_append]; have := HK.out; have := HJ.out; simp; omega, by have h9 := B7.out; rw [← List.map_append] at h9; exact h9⟩
                  · skip
                    have hq5 : decide (48 ≤ x) = false := decide_eq_false hx1
                    have L := Aside0.mk ((oneTok HB.out ⟨48, (k : Int), 0⟩).at2)
                    have hwj : wrap64 ((j : Int) - 1) = (j : Int) - 1 := IntWalk.wrap64_in _ (by omega)
                    have hwj2 : wrap64 (j : Int) = (j : Int) := IntWalk.wrap64_in _ (by omega)
                    have hwk : wrap64 (k : Int) = (k : Int) := IntWalk.wrap64_in _ (by unfold top at hkt; omega)
                    have hwk2 : IntKind.i64.wrap (k : Int) = (k : Int) := by unfold top at hkt; rw [IntKind.wrap_i64]; omega
                    go_wp2_with (first | (refine gate_builtin (b := .append) (xs := #[.tmp 75, .tmp 79]) rfl ?_; go_loud (refine L.out.appendRaw rfl (.tmp 75) (.tmp 79) 24 (.agg #[.int .i32 0, .int .i64 0, .int .i32 0]) 24 rfl Try.underlying24 infoTok rfl (by decide) (by decide) (some ⟨wr.heap.size, 0, none⟩) 1 1 rfl rfl (rowT_TC L.out.at2) (by rw [List.length_map]; have := HK.out; have := HI.out; simp; omega) ?_; intro v7 w7 hS7; have B7 := Aside0.mk hS7.at2.tail; clear hS7)))
                    go_roundg (n - j)
                    case measure => have := AK.out; have := HJ.out; omega
                    case rel => exact ⟨j, acc ++ [⟨48, (k : Int), 0⟩], by have := HJ.out; omega, by go_num, HF.out, by rw [List.length_append]; have := HK.out; have := HJ.out; simp; omega, by have h9 := B7.out; rw [← List.map_append] at h9; exact h9⟩
              · have hjn2 : j = n := by omega
                have HF : Aside0 (o = TokP.run (acc ++ [⟨48, (k : Int), 0⟩]) .idle (rs.drop j)) := ⟨by rw [hrun2, List.drop_of_length_le (by rw [HN.out.1]; omega)]; rfl⟩
                have HJ : Aside0 (i ≠ j ∧ i ≤ j ∧ j ≤ n) := ⟨by omega, hij2, by omega⟩
                have hjl : ¬ (j : Int) < (n : Int) := by omega
                have hjl2 : decide ((j : Int) < (n : Int)) = false := decide_eq_false hjl
                clear hrun2 hjm hij2
                skip
                have L := Aside0.mk ((oneTok HB.out ⟨48, (k : Int), 0⟩).at2)
                have hwj : wrap64 ((j : Int) - 1) = (j : Int) - 1 := IntWalk.wrap64_in _ (by omega)
                have hwj2 : wrap64 (j : Int) = (j : Int) := IntWalk.wrap64_in _ (by omega)
                have hwk : wrap64 (k : Int) = (k : Int) := IntWalk.wrap64_in _ (by unfold top at hkt; omega)
                have hwk2 : IntKind.i64.wrap (k : Int) = (k : Int) := by unfold top at hkt; rw [IntKind.wrap_i64]; omega
                go_wp2_with (first | (refine gate_builtin (b := .append) (xs := #[.tmp 75, .tmp 79]) rfl ?_; go_loud (refine L.out.appendRaw rfl (.tmp 75) (.tmp 79) 24 (.agg #[.int .i32 0, .int .i64 0, .int .i32 0]) 24 rfl Try.underlying24 infoTok rfl (by decide) (by decide) (some ⟨wr.heap.size, 0, none⟩) 1 1 rfl rfl (rowT_TC L.out.at2) (by rw [List.length_map]; have := HK.out; have := HI.out; simp; omega) ?_; intro v7 w7 hS7; have B7 := Aside0.mk hS7.at2.tail; clear hS7)))
                go_roundg (n - j)
                case measure => have := AK.out; have := HJ.out; omega
                case rel => exact ⟨j, acc ++ [⟨48, (k : Int), 0⟩], by have := HJ.out; omega, by go_num, HF.out, by rw [List.length_append]; have := HK.out; have := HJ.out; simp; omega, by have h9 := B7.out; rw [← List.map_append] at h9; exact h9⟩
          · have hq : (decide (48 ≤ r) && decide (r ≤ 57)) = false := by simp; omega
            by_cases hnm : namedB r = true
            · have hnm2 : r = 955 ∨ r = 960 := by unfold namedB at hnm; simpa using hnm
              by_cases hin : i + 1 < n
              · obtain ⟨g1, g2⟩ := HB.out.tail.rowCell (0 : Int) (i + 1) hin
                have hdr := drop_cons (rs := rs) (i := i + 1) (by rw [HN.out.1]; exact hin)
                obtain ⟨x, hx⟩ : ∃ x, rs.getD (i + 1) 0 = x := ⟨_, rfl⟩
                rw [hx] at g1 hdr
                have hun := HU2.out
                rw [hdr, run_named _ _ _ _ hnm] at hun
                have HUN := Aside0.mk hun
                obtain ⟨b, hb⟩ : ∃ b, nameB x = b := ⟨_, rfl⟩
                have HNB := Aside0.mk hb
                rw [hb] at HUN
                have hin2 : ((i : Int) + 1) < (n : Int) := by omega
                have hin3 : decide ((n : Int) ≤ (i : Int) + 1) = false := decide_eq_false (by omega)
                have hit : ((i : Int) + 1).toNat = i + 1 := by omega
                have hw1 : wrap64 ((i : Int) + 1) = (i : Int) + 1 := IntWalk.wrap64_in _ (by omega)
                have L := Aside0.mk ((oneTok HB.out ⟨r, 0, x⟩).at2)
                have HIN := Aside0.mk hin
                clear g2 hdr hx hun hb hin hnm hq
                cases b with
                | false =>
                  rcases hnm2 with rfl | rfl
                  all_goals
                    go_wp2_with (go_at_call 26; refine (name_ x).mono ?_; rintro e w2 ⟨rfl, rfl⟩; rw [HNB.out])
                    go_ret2
                    rw [HUN.out]
                    exact ⟨by first | rfl | (simp; done), HB.out.tail.tail⟩
                | true =>
                  rcases hnm2 with rfl | rfl
                  all_goals
                    go_upto_region 23 with (go_at_call 26; refine (name_ x).mono ?_; rintro e w2 ⟨rfl, rfl⟩; rw [HNB.out])
                    go_wp2_with (first | (refine gate_builtin (b := .append) (xs := #[.tmp 102, .tmp 110]) rfl ?_; go_loud (refine L.out.appendRaw rfl (.tmp 102) (.tmp 110) 24 (.agg #[.int .i32 0, .int .i64 0, .int .i32 0]) 24 rfl Try.underlying24 infoTok rfl (by decide) (by decide) (some ⟨wr.heap.size, 0, none⟩) 1 1 rfl rfl (rowT_TC L.out.at2) (by rw [List.length_map]; have := HK.out; have := HI.out; simp; omega) ?_; intro v7 w7 hS7; have B7 := Aside0.mk hS7.at2.tail; clear hS7)))
                    go_roundg (G - 2)
                    case measure => have := AK.out; omega
                    case rel => exact ⟨i + 2, acc ++ [⟨_, 0, x⟩], by have := AK.out; have := HIN.out; omega, by go_num, by have h9 := HUN.out; rw [if_pos trivial] at h9; exact h9, by rw [List.length_append]; have := HK.out; simp; omega, by have h9 := B7.out; rw [← List.map_append] at h9; exact h9⟩
              · have hin1 : i + 1 = n := by omega
                have hun := HU2.out
                rw [List.drop_of_length_le (by rw [HN.out.1]; omega), run_namedE _ _ hnm] at hun
                have HUN := Aside0.mk hun
                have hin3 : decide ((n : Int) ≤ (i : Int) + 1) = true := decide_eq_true (by omega)
                have hw1 : wrap64 ((i : Int) + 1) = (i : Int) + 1 := IntWalk.wrap64_in _ (by omega)
                have HIN1 := Aside0.mk hin1
                clear hun hnm hin1 hq
                rcases hnm2 with rfl | rfl
                all_goals
                  go_wp2_with fail
                  go_ret2
                  rw [HUN.out]
                  exact ⟨by first | rfl | (simp; done), HB.out.tail.tail⟩
            · have hnf : namedB r = false := by simpa using hnm
              have h955 : ¬ r = 955 := fun hq => hnm (by rw [hq]; rfl)
              have h960 : ¬ r = 960 := fun hq => hnm (by rw [hq]; rfl)
              have hb955 : (r == 955) = false := by simp [h955]
              have hb960 : (r == 960) = false := by simp [h960]
              have hun := HU2.out
              rw [run_else _ _ _ h32 hdg hnf] at hun
              have HUN := Aside0.mk hun
              obtain ⟨b, hb⟩ : ∃ b, knownB r = b := ⟨_, rfl⟩
              have HNB := Aside0.mk hb
              rw [hb] at HUN
              clear hun hb hnm hnf hq
              by_cases hx1 : 48 ≤ r
              · have hx2 : ¬ r ≤ 57 := fun hq => hdg ⟨hx1, hq⟩
                have hq5 : decide (48 ≤ r) = true := decide_eq_true hx1
                have hq6 : decide (r ≤ 57) = false := decide_eq_false hx2
                cases b with
                | false =>
                  go_wp2_with (go_at_call 27; refine (known_ HB.out r).mono ?_; rintro e w2 ⟨rfl, hS2⟩; rw [HNB.out]; have B2 := Aside0.mk hS2; clear hS2)
                  go_ret2
                  rw [HUN.out]
                  exact ⟨by first | rfl | (simp; done), B2.out.tail.tail⟩
                | true =>
                  go_upto_region 26 with (go_at_call 27; refine (known_ HB.out r).mono ?_; rintro e w2 ⟨rfl, hS2⟩; rw [HNB.out]; have B2 := Aside0.mk hS2; clear hS2)
                  have L := Aside0.mk ((oneTok B2.out ⟨r, 0, 0⟩).at2)
                  go_wp2_with (first | (refine gate_builtin (b := .append) (xs := #[.tmp 117, .tmp 120]) rfl ?_; go_loud (refine L.out.appendRaw rfl (.tmp 117) (.tmp 120) 24 (.agg #[.int .i32 0, .int .i64 0, .int .i32 0]) 24 rfl Try.underlying24 infoTok rfl (by decide) (by decide) (some ⟨w2.heap.size, 0, none⟩) 1 1 rfl rfl (rowT_TC L.out.at2) (by rw [List.length_map]; have := HK.out; have := HI.out; simp; omega) ?_; intro v7 w7 hS7; have B7 := Aside0.mk hS7.at2.tail; clear hS7)))
                  go_roundg (G - 1)
                  case measure => have := AK.out; omega
                  case rel => exact ⟨i + 1, acc ++ [⟨r, 0, 0⟩], by have := AK.out; omega, by go_num, by have h9 := HUN.out; rw [if_pos trivial] at h9; exact h9, by rw [List.length_append]; have := HK.out; simp; omega, by have h9 := B7.out; rw [← List.map_append] at h9; exact h9⟩
              · have hq5 : decide (48 ≤ r) = false := decide_eq_false hx1
                cases b with
                | false =>
                  go_wp2_with (go_at_call 27; refine (known_ HB.out r).mono ?_; rintro e w2 ⟨rfl, hS2⟩; rw [HNB.out]; have B2 := Aside0.mk hS2; clear hS2)
                  go_ret2
                  rw [HUN.out]
                  exact ⟨by first | rfl | (simp; done), B2.out.tail.tail⟩
                | true =>
                  go_upto_region 26 with (go_at_call 27; refine (known_ HB.out r).mono ?_; rintro e w2 ⟨rfl, hS2⟩; rw [HNB.out]; have B2 := Aside0.mk hS2; clear hS2)
                  have L := Aside0.mk ((oneTok B2.out ⟨r, 0, 0⟩).at2)
                  go_wp2_with (first | (refine gate_builtin (b := .append) (xs := #[.tmp 117, .tmp 120]) rfl ?_; go_loud (refine L.out.appendRaw rfl (.tmp 117) (.tmp 120) 24 (.agg #[.int .i32 0, .int .i64 0, .int .i32 0]) 24 rfl Try.underlying24 infoTok rfl (by decide) (by decide) (some ⟨w2.heap.size, 0, none⟩) 1 1 rfl rfl (rowT_TC L.out.at2) (by rw [List.length_map]; have := HK.out; have := HI.out; simp; omega) ?_; intro v7 w7 hS7; have B7 := Aside0.mk hS7.at2.tail; clear hS7)))
                  go_roundg (G - 1)
                  case measure => have := AK.out; omega
                  case rel => exact ⟨i + 1, acc ++ [⟨r, 0, 0⟩], by have := AK.out; omega, by go_num, by have h9 := HUN.out; rw [if_pos trivial] at h9; exact h9, by rw [List.length_append]; have := HK.out; simp; omega, by have h9 := B7.out; rw [← List.map_append] at h9; exact h9⟩
      · have hin : i = n := by omega
        have hf : TokP.run acc .idle (rs.drop i) = some acc := by rw [List.drop_of_length_le (by rw [HN.out.1]; omega)]; rfl
        rw [hf] at hrun
        have HUN := Aside0.mk hrun
        have hjl2 : decide ((i : Int) < (n : Int)) = false := decide_eq_false (by omega)
        clear hf hrun hS him
        go_wp2_with fail
        go_ret2
        rw [HUN.out]
        exact ⟨_, by first | rfl | (simp; done), HB.out.drop2⟩
end
end Go.Proofs.Ytkkgfpdjlohojaa.RefT
namespace Go.Proofs.Ytkkgfpdjlohojaa.Law8
open Go.RowKit Go.Proofs.YtkkgfpdjlohojaaW.PrintWords Go.Proofs.YtkkgfpdjlohojaaW.PrintLast Go.Proofs.YtkkgfpdjlohojaaW.PrintMore Go.Proofs.Ytkkgfpdjlohojaa.Kit
open Go.Proofs.Ytkkgfpdjlohojaa.NestP Go.Proofs.Ytkkgfpdjlohojaa.TokP Go.Proofs.Ytkkgfpdjlohojaa.Tok
section
variable {w0 W : World} {F : List HP}
theorem tk1 : RefT.tokO ⟨#[91, 126, 93]⟩ = some [⟨91, 0, 0⟩, ⟨126, 0, 0⟩, ⟨93, 0, 0⟩] := by decide +kernel
theorem tk2 : RefT.tokO ⟨#[63, 58, 59]⟩ = some [⟨63, 0, 0⟩, ⟨58, 0, 0⟩, ⟨59, 0, 0⟩] := by decide +kernel
theorem tk3 : RefT.tokO ⟨#[126]⟩ = some [⟨126, 0, 0⟩] := by decide +kernel
theorem mt1 : matchN (sgn [⟨91, 0, 0⟩, ⟨126, 0, 0⟩, ⟨93, 0, 0⟩]) = some ⟨[-1, 3, 0], [], 1⟩ := by kernel_rfl
theorem mt2 : matchN (sgn [⟨63, 0, 0⟩, ⟨58, 0, 0⟩, ⟨59, 0, 0⟩]) = some ⟨[2, 2, -1], [], 1⟩ := by kernel_rfl
theorem mt3 : matchN (sgn [⟨126, 0, 0⟩]) = none := by kernel_rfl
theorem mt0 : matchN (sgn []) = some ⟨[], [], 0⟩ := by kernel_rfl
theorem nilT (W : World) : TC W none 0 [] := ⟨rfl, by decide, fun h => by cases h⟩
set_option maxHeartbeats 3200000 in
set_option maxRecDepth 100000 in
theorem known_ (h : Sep w0 W F) : Calls Try.prog 9 #[] W fun e w' => e = .returned (.bool true) ∧ Sep w0 w' F := by
  have H := Aside0.mk h
  clear h
  go_enter Try.func9, Try.ntmps9
  go_wp2_with fail
  refine (RefT.tokens_ H.out _).mono ?_
  intro e w1 hA
  rw [tk1] at hA
  obtain ⟨v1, rfl, hA⟩ := hA
  obtain ⟨A1, c1, rfl⟩ := hA.rowN (n := 3) rfl
  have H1 := Aside0.mk hA
  clear hA
  go_wp2_with fail
  refine (RefT.tokens_ H1.out _).mono ?_
  intro e w2 hA
  rw [tk2] at hA
  obtain ⟨v2, rfl, hA⟩ := hA
  obtain ⟨A2, c2, rfl⟩ := hA.rowN (n := 3) rfl
  have H2 := Aside0.mk hA
  clear hA
  go_wp2_with fail
  refine (RefT.tokens_ H2.out _).mono ?_
  intro e w3 hA
  rw [tk3] at hA
  obtain ⟨v3, rfl, hA⟩ := hA
  obtain ⟨A3, c3, rfl⟩ := hA.rowN (n := 1) rfl
  have H3 := Aside0.mk hA
  have K1 : Aside0 (∀ W', Sep w0 W' (RowT (.slice A3 1 c3) [⟨126, 0, 0⟩] :: RowT (.slice A2 3 c2) [⟨63, 0, 0⟩, ⟨58, 0, 0⟩, ⟨59, 0, 0⟩] :: RowT (.slice A1 3 c1) [⟨91, 0, 0⟩, ⟨126, 0, 0⟩, ⟨93, 0, 0⟩] :: F) → TC W' A1 3 [⟨91, 0, 0⟩, ⟨126, 0, 0⟩, ⟨93, 0, 0⟩]) := ⟨fun W' h => rowT_TC h.at3⟩
  have K2 : Aside0 (∀ W', Sep w0 W' (RowT (.slice A3 1 c3) [⟨126, 0, 0⟩] :: RowT (.slice A2 3 c2) [⟨63, 0, 0⟩, ⟨58, 0, 0⟩, ⟨59, 0, 0⟩] :: RowT (.slice A1 3 c1) [⟨91, 0, 0⟩, ⟨126, 0, 0⟩, ⟨93, 0, 0⟩] :: F) → TC W' A2 3 [⟨63, 0, 0⟩, ⟨58, 0, 0⟩, ⟨59, 0, 0⟩]) := ⟨fun W' h => rowT_TC h.at2⟩
  have K3 : Aside0 (∀ W', Sep w0 W' (RowT (.slice A3 1 c3) [⟨126, 0, 0⟩] :: RowT (.slice A2 3 c2) [⟨63, 0, 0⟩, ⟨58, 0, 0⟩, ⟨59, 0, 0⟩] :: RowT (.slice A1 3 c1) [⟨91, 0, 0⟩, ⟨126, 0, 0⟩, ⟨93, 0, 0⟩] :: F) → TC W' A3 1 [⟨126, 0, 0⟩]) := ⟨fun W' h => rowT_TC h⟩
  obtain ⟨FF, hFF⟩ : ∃ FF, (RowT (.slice A3 1 c3) [⟨126, 0, 0⟩] :: RowT (.slice A2 3 c2) [⟨63, 0, 0⟩, ⟨58, 0, 0⟩, ⟨59, 0, 0⟩] :: RowT (.slice A1 3 c1) [⟨91, 0, 0⟩, ⟨126, 0, 0⟩, ⟨93, 0, 0⟩] :: F) = FF := ⟨_, rfl⟩
  have KF : Aside0 (∀ W', Sep w0 W' FF → Sep w0 W' F) := ⟨fun W' h => by rw [← hFF] at h; exact h.tail.tail.tail⟩
  rw [hFF] at H3 K1 K2 K3
  clear hA hFF
  go_wp2_with fail
  refine (Nest.of_ K1.out H3.out (by decide)).mono ?_
  intro e w4 hA
  rw [mt1] at hA
  obtain ⟨v4, rfl, hA⟩ := hA
  obtain ⟨A4, c4, rfl⟩ := hA.rowN (n := 3) rfl
  have H4 := Aside0.mk hA
  clear hA
  go_wp2_with fail
  refine (Nest.of_ (fun W' h => K2.out W' h.tail) H4.out (by decide)).mono ?_
  intro e w5 hA
  rw [mt2] at hA
  obtain ⟨v5, rfl, hA⟩ := hA
  obtain ⟨A5, c5, rfl⟩ := hA.rowN (n := 3) rfl
  have H5 := Aside0.mk hA
  clear hA
  go_wp2_with fail
  refine (Nest.of_ (fun W' h => K3.out W' h.tail.tail) H5.out (by decide)).mono ?_
  intro e w6 hA
  rw [mt3] at hA
  obtain ⟨rfl, hA⟩ := hA
  have H6 := Aside0.mk hA
  have L6 := Aside0.mk (hA.litRow (enc := Value.int .i64) (h1 := fun _ => rfl) (e := 3) [-1, 3, 0] (by decide))
  clear hA
  go_wp2_with fail
  refine (Book.sameI_ (xs := [-1, 3, 0]) (ys := [-1, 3, 0]) L6.out.at3.rowC' L6.out.rowC').mono ?_
  rintro e w7 ⟨rfl, hb⟩
  have H7 := Aside0.mk (L6.out.tail.below hb)
  have L7 := Aside0.mk (H7.out.litRow (enc := Value.int .i64) (h1 := fun _ => rfl) (e := 3) [2, 2, -1] (by decide))
  rw [decide_eq_true (rfl : ([-1, 3, 0] : List Int) = [-1, 3, 0])]
  clear hb
  go_wp2_with fail
  refine (Book.sameI_ (xs := [2, 2, -1]) (ys := [2, 2, -1]) L7.out.at2.rowC' L7.out.rowC').mono ?_
  rintro e w8 ⟨rfl, hb⟩
  have H8 := Aside0.mk (L7.out.tail.tail.tail.below hb)
  rw [decide_eq_true (rfl : ([2, 2, -1] : List Int) = [2, 2, -1])]
  clear hb
  go_wp2_with fail
  refine (Nest.deep_ K1.out H8.out (by decide)).mono ?_
  intro e w9 hA
  rw [mt1] at hA
  obtain ⟨rfl, hA⟩ := hA
  have H9 := Aside0.mk hA
  clear hA
  go_wp2_with fail
  refine (Nest.deep_ K3.out H9.out (by decide)).mono ?_
  intro e w10 hA
  rw [mt3] at hA
  obtain ⟨rfl, hA⟩ := hA
  have H10 := Aside0.mk hA
  clear hA
  go_wp2_with fail
  refine (Nest.deep_ (l := []) (fun W' _ => nilT W') H10.out (by decide)).mono ?_
  intro e w11 hA
  rw [mt0] at hA
  obtain ⟨rfl, hA⟩ := hA
  have H11 := Aside0.mk (KF.out _ hA)
  clear hA
  go_wp2_with fail
  go_ret
  exact ⟨by first | rfl | (simp; done), H11.out⟩
end
end Go.Proofs.Ytkkgfpdjlohojaa.Law8
namespace Go.Proofs.YtkkgfpdjlohojaaW.PrintWords
end Go.Proofs.YtkkgfpdjlohojaaW.PrintWords
namespace Go.Proofs.Ytkkgfpdjlohojaa.Law8
end Go.Proofs.Ytkkgfpdjlohojaa.Law8
namespace Go.Proofs.Ytkkgfpdjlohojaa.NestP
def OkAt (sg : List Int) (i j : Nat) (v : Int) : Prop :=
  ((sg.getD j 0 = 63 ∨ sg.getD j 0 = 58 ∨ sg.getD j 0 = 126) → (j : Int) < v ∧ v ≤ i) ∧ (sg.getD j 0 = 93 → 0 ≤ v ∧ v < j ∧ sg.getD v.toNat 0 = 91) ∧
  (¬ (sg.getD j 0 = 63 ∨ sg.getD j 0 = 58 ∨ sg.getD j 0 = 126) → sg.getD j 0 ≠ 93 → v = -1)
def Pend (opn : List Pt) (j : Nat) : Prop := ∃ p ∈ opn, (p.loop = false ∧ p.beg = j ∧ p.oth = 0) ∨ (p.oth = j ∧ 0 < p.oth) ∨ j ∈ p.lvs
structure PtOk (sg : List Int) (i : Nat) (p : Pt) : Prop where
  b : p.beg < i
  o : p.oth < i
  l1 : p.loop = true → sg.getD p.beg 0 = 91 ∧ p.oth = 0
  l2 : p.loop = false → sg.getD p.beg 0 = 63 ∧ p.lvs = []
  o58 : 0 < p.oth → sg.getD p.oth 0 = 58
  lv : ∀ k ∈ p.lvs, k < i ∧ sg.getD k 0 = 126
structure J (sg : List Int) (i : Nat) (m : MS) : Prop where
  len : m.tt.length = sg.length
  pts : ∀ p ∈ m.opn, PtOk sg i p
  val : ∀ j, j < i → OkAt sg i j (m.tt.getD j 0) ∨ Pend m.opn j
  tl : ∀ j, i ≤ j → j < sg.length → m.tt.getD j 0 = -1
  dp : m.opn.length ≤ m.deep
theorem OkAt.mono {sg : List Int} {i j : Nat} {v : Int} (h : OkAt sg i j v) : OkAt sg (i + 1) j v := ⟨fun q => ⟨(h.1 q).1, by have := (h.1 q).2; omega⟩, h.2.1, h.2.2⟩
theorem PtOk.mono {sg : List Int} {i : Nat} {p : Pt} (h : PtOk sg i p) : PtOk sg (i + 1) p := ⟨by have := h.b; omega, by have := h.o; omega, h.l1, h.l2, h.o58, fun k hk => ⟨by have := (h.lv k hk).1; omega, (h.lv k hk).2⟩⟩
theorem Pend.cons {p : Pt} {r : List Pt} {j : Nat} (h : Pend r j) : Pend (p :: r) j := by
  obtain ⟨q, hq, h⟩ := h
  exact ⟨q, List.mem_cons_of_mem _ hq, h⟩
theorem leaveP_ok {sg : List Int} {i : Nat} (hi : sg.getD i 0 = 126) : ∀ {ps o : List Pt}, (∀ p ∈ ps, PtOk sg i p) → leaveP i ps = some o → (∀ p ∈ o, PtOk sg (i + 1) p) ∧ (∀ j, Pend ps j → Pend o j) ∧ Pend o i ∧ o.length = ps.length
  | [], o, _, h => by cases h
  | p :: r, o, hp, h => by
    unfold leaveP at h
    split at h
    · rename_i hl
      cases h
      have h1 := hp p (List.mem_cons_self ..)
      refine ⟨fun q hq => ?_, fun j hj => ?_, ⟨_, List.mem_cons_self .., .inr (.inr (List.mem_append_right _ (List.mem_singleton.2 rfl)))⟩, rfl⟩
      · rcases List.mem_cons.1 hq with rfl | hq
        · refine ⟨by have := h1.b; show p.beg < i + 1; omega, by have := h1.o; show p.oth < i + 1; omega, h1.l1, fun h2 => ?_, h1.o58, fun k hk => ?_⟩
          · have h2 : p.loop = false := h2
            rw [hl] at h2; cases h2
          · rcases List.mem_append.1 hk with hk | hk
            · exact ⟨by have := (h1.lv k hk).1; omega, (h1.lv k hk).2⟩
            · rw [List.mem_singleton.1 hk]; exact ⟨by omega, hi⟩
        · exact (hp q (List.mem_cons_of_mem _ hq)).mono
      · obtain ⟨q, hq, hj⟩ := hj
        rcases List.mem_cons.1 hq with rfl | hq
        · refine ⟨_, List.mem_cons_self .., ?_⟩
          rcases hj with hj | hj | hj
          · exact .inl hj
          · exact .inr (.inl hj)
          · exact .inr (.inr (List.mem_append_left _ hj))
        · exact ⟨q, List.mem_cons_of_mem _ hq, hj⟩
    · cases hr : leaveP i r with
      | none => rw [hr] at h; cases h
      | some o2 =>
        rw [hr] at h
        cases h
        obtain ⟨a, b, c, d⟩ := leaveP_ok hi (fun q hq => hp q (List.mem_cons_of_mem _ hq)) hr
        refine ⟨fun q hq => ?_, fun j hj => ?_, c.cons, by rw [List.length_cons, List.length_cons, d]⟩
        · rcases List.mem_cons.1 hq with rfl | hq
          · exact (hp _ (List.mem_cons_self ..)).mono
          · exact a q hq
        · obtain ⟨q, hq, hj⟩ := hj
          rcases List.mem_cons.1 hq with rfl | hq
          · exact ⟨_, List.mem_cons_self .., hj⟩
          · exact (b j ⟨q, hq, hj⟩).cons
theorem tokN_J {sg : List Int} {i : Nat} {s : Int} {m m2 : MS} (h : J sg i m) (hi : i < sg.length) (hs : sg.getD i 0 = s) (e : tokN i s m = some m2) : J sg (i + 1) m2 := by
  obtain ⟨len, pts, val, tl, dp⟩ := h
  unfold tokN at e
  split at e
  · rename_i hb
    split at e
    · cases e
      refine ⟨len, fun p hp => ?_, fun j hj => ?_, fun j hj hl => tl j (by omega) hl, by simp; omega⟩
      · rcases List.mem_cons.1 hp with rfl | hp
        · refine ⟨by simp, by simp, fun h => ?_, fun h => ?_, fun h => ?_, fun k hk => ?_⟩
          · simp at h; subst h; exact ⟨hs, rfl⟩
          · simp at h; exact ⟨by show sg.getD i 0 = 63; omega, rfl⟩
          · simp at h
          · simp at hk
        · exact (pts p hp).mono
      · by_cases hji : j = i
        · subst hji
          by_cases h91 : s = 91
          · left
            rw [show (m.tt.getD j 0) = -1 from tl j (Nat.le_refl _) hi]
            exact ⟨fun q => by omega, fun q => by omega, fun _ _ => rfl⟩
          · right
            exact ⟨_, List.mem_cons_self .., .inl ⟨by simp [h91], rfl, rfl⟩⟩
        · rcases val j (by omega) with h | h
          · exact .inl h.mono
          · exact .inr h.cons
    · cases e
  · split at e
    · rename_i hb
      cases ho : m.opn with
      | nil => rw [ho] at e; cases e
      | cons p r =>
        rw [ho] at e pts val dp
        dsimp only at e
        split at e
        · cases e
        · rename_i hlo
          cases e
          have hp := pts p (List.mem_cons_self ..)
          have hpb := hp.b
          have hl : p.loop = false := by
            cases hq : p.loop
            · rfl
            · exact absurd (.inl hq) hlo
          have h0 : p.oth = 0 := by
            have : ¬ 0 < p.oth := fun hq => hlo (.inr hq)
            omega
          refine ⟨by rw [List.length_set]; exact len, fun q hq => ?_, fun j hj => ?_, fun j hj hl => ?_, dp⟩
          · rcases List.mem_cons.1 hq with rfl | hq
            · refine ⟨by show p.beg < i + 1; omega, by show i < i + 1; omega, fun h => ?_, hp.l2, fun _ => by show sg.getD i 0 = 58; omega, fun k hk => ?_⟩
              · have h : p.loop = true := h
                rw [hl] at h; cases h
              · have := hp.lv k hk
                exact ⟨by omega, this.2⟩
            · exact (pts q (List.mem_cons_of_mem _ hq)).mono
          · show OkAt sg (i + 1) j ((m.tt.set p.beg _).getD j 0) ∨ _
            rw [getD_set]
            by_cases hjb : p.beg = j
            · subst hjb
              rw [if_pos ⟨rfl, by omega⟩]
              left
              have h63 := (hp.l2 hl).1
              exact ⟨fun _ => ⟨by omega, by omega⟩, fun q => by omega, fun q => absurd (.inl h63) q⟩
            · rw [if_neg (by omega)]
              by_cases hji : j = i
              · subst hji
                exact .inr ⟨_, List.mem_cons_self .., .inr (.inl ⟨rfl, by show 0 < j; omega⟩)⟩
              · rcases val j (by omega) with h | ⟨q, hq, h⟩
                · exact .inl h.mono
                · right
                  rcases List.mem_cons.1 hq with rfl | hq
                  · rcases h with h | h | h
                    · exact absurd h.2.1 hjb
                    · omega
                    · exact ⟨_, List.mem_cons_self .., .inr (.inr h)⟩
                  · exact ⟨q, List.mem_cons_of_mem _ hq, h⟩
          · show (m.tt.set p.beg _).getD j 0 = -1
            rw [getD_set, if_neg (by omega)]
            exact tl j (by omega) hl
    · split at e
      · rename_i hb
        cases ho : m.opn with
        | nil => rw [ho] at e; cases e
        | cons p r =>
          rw [ho] at e pts val dp
          dsimp only at e
          split at e
          · cases e
          · rename_i hlo
            cases e
            have hp := pts p (List.mem_cons_self ..)
            have hpb := hp.b
            have hpo := hp.o
            have hl : p.loop = false := by simpa using hlo
            have h2 := hp.l2 hl
            refine ⟨by rw [List.length_set]; exact len, fun q hq => (pts q (List.mem_cons_of_mem _ hq)).mono, fun j hj => ?_, fun j hj hl => ?_, by simp only [List.length_cons] at dp; show r.length ≤ m.deep; omega⟩
            · show OkAt sg (i + 1) j ((m.tt.set _ _).getD j 0) ∨ _
              rw [getD_set]
              by_cases hjb : (if 0 < p.oth then p.oth else p.beg) = j
              · rw [if_pos ⟨hjb, by split <;> omega⟩]
                left
                by_cases ho : 0 < p.oth
                · rw [if_pos ho] at hjb
                  subst hjb
                  have h58 := hp.o58 ho
                  exact ⟨fun _ => ⟨by omega, by omega⟩, fun q => by omega, fun q => absurd (.inr (.inl h58)) q⟩
                · rw [if_neg ho] at hjb
                  subst hjb
                  exact ⟨fun _ => ⟨by omega, by omega⟩, fun q => by omega, fun q => absurd (.inl h2.1) q⟩
              · rw [if_neg (fun hq => hjb hq.1)]
                by_cases hji : j = i
                · subst hji
                  left
                  rw [tl j (Nat.le_refl _) hi]
                  exact ⟨fun q => by omega, fun q => by omega, fun _ _ => rfl⟩
                · rcases val j (by omega) with h | ⟨q, hq, h⟩
                  · exact .inl h.mono
                  · rcases List.mem_cons.1 hq with rfl | hq
                    · exfalso
                      rcases h with h | h | h
                      · rw [if_neg (by omega)] at hjb; exact hjb h.2.1
                      · rw [if_pos h.2] at hjb; exact hjb h.1
                      · rw [h2.2] at h; cases h
                    · exact .inr ⟨q, hq, h⟩
            · show (m.tt.set _ _).getD j 0 = -1
              rw [getD_set, if_neg (by intro hq; have := hq.1; split at this <;> omega)]
              exact tl j (by omega) hl
      · split at e
        · rename_i hb
          cases ho : m.opn with
          | nil => rw [ho] at e; cases e
          | cons p r =>
            rw [ho] at e pts val dp
            dsimp only at e
            split at e
            · rename_i hl
              cases e
              have hp := pts p (List.mem_cons_self ..)
              have hpb := hp.b
              have h1 := hp.l1 hl
              refine ⟨by rw [setAll_len, List.length_set]; exact len, fun q hq => (pts q (List.mem_cons_of_mem _ hq)).mono, fun j hj => ?_, fun j hj hl => ?_, by simp only [List.length_cons] at dp; show r.length ≤ m.deep; omega⟩
              · show OkAt sg (i + 1) j ((setAll _ _ _).getD j 0) ∨ _
                rw [setAll_at, List.length_set, getD_set]
                by_cases hjl : j ∈ p.lvs
                · have h3 := hp.lv j hjl
                  rw [if_pos ⟨hjl, by omega⟩]
                  left
                  exact ⟨fun _ => ⟨by omega, by omega⟩, fun q => by omega, fun q => absurd (.inr (.inr h3.2)) q⟩
                · rw [if_neg (fun hq => hjl hq.1)]
                  by_cases hji : j = i
                  · subst hji
                    rw [if_pos ⟨rfl, by omega⟩]
                    left
                    exact ⟨fun q => by omega, fun _ => ⟨by omega, by omega, by rw [Int.toNat_natCast]; exact h1.1⟩, fun _ q => by omega⟩
                  · rw [if_neg (by omega)]
                    rcases val j (by omega) with h | ⟨q, hq, h⟩
                    · exact .inl h.mono
                    · rcases List.mem_cons.1 hq with rfl | hq
                      · exfalso
                        rcases h with h | h | h
                        · rw [hl] at h; cases h.1
                        · omega
                        · exact hjl h
                      · exact .inr ⟨q, hq, h⟩
              · show (setAll _ _ _).getD j 0 = -1
                rw [setAll_at, if_neg (by rintro ⟨hq, _⟩; have := (hp.lv j hq).1; omega), getD_set, if_neg (by omega)]
                exact tl j (by omega) hl
            · cases e
        · split at e
          · rename_i hb
            cases hlv : leaveP i m.opn with
            | none => rw [hlv] at e; cases e
            | some o =>
              rw [hlv] at e
              cases e
              obtain ⟨a, b, c, d⟩ := leaveP_ok (by omega) pts hlv
              refine ⟨len, a, fun j hj => ?_, fun j hj hl => tl j (by omega) hl, by show o.length ≤ m.deep; omega⟩
              by_cases hji : j = i
              · subst hji; exact .inr c
              · rcases val j (by omega) with h | h
                · exact .inl h.mono
                · exact .inr (b j h)
          · cases e
            refine ⟨len, fun p hp => (pts p hp).mono, fun j hj => ?_, fun j hj hl => tl j (by omega) hl, dp⟩
            by_cases hji : j = i
            · subst hji
              left
              rw [tl j (Nat.le_refl _) hi]
              exact ⟨fun q => by omega, fun q => by omega, fun _ _ => rfl⟩
            · rcases val j (by omega) with h | h
              · exact .inl h.mono
              · exact .inr h
theorem runN_J (sg : List Int) : ∀ (t : List Int) (i : Nat) (m m2 : MS), sg.drop i = t → i ≤ sg.length → J sg i m → runN i t m = some m2 → J sg sg.length m2
  | [], i, m, m2, ht, hi, h, e => by
    cases e
    have : i = sg.length := by have := congrArg List.length ht; simp at this; omega
    rw [← this]; exact h
  | s :: t, i, m, m2, ht, hi, h, e => by
    unfold runN at e
    cases hk : tokN i s m with
    | none => rw [hk] at e; cases e
    | some m3 =>
      rw [hk] at e
      have hlt : i < sg.length := by
        rcases Nat.lt_or_ge i sg.length with h1 | h1
        · exact h1
        · rw [List.drop_eq_nil_of_le h1] at ht; cases ht
      have hs : sg.getD i 0 = s := by
        rw [List.drop_eq_getElem_cons hlt] at ht
        rw [List.getD_eq_getElem?_getD, List.getElem?_eq_getElem hlt]
        exact (List.cons.inj ht).1
      refine runN_J sg t (i + 1) m3 m2 ?_ hlt (tokN_J h hlt hs hk) e
      rw [← List.drop_drop, ht]; rfl
theorem rep_at {n j : Nat} (hj : j < n) : (List.replicate n (-1 : Int)).getD j 0 = -1 := by
  rw [List.getD_eq_getElem?_getD, List.getElem?_replicate, if_pos hj]; rfl
theorem J_start (sg : List Int) : J sg 0 ⟨List.replicate sg.length (-1), [], 0⟩ := ⟨by simp, fun p hp => (by cases hp), fun j hj => absurd hj (by omega), fun j _ hj => rep_at hj, Nat.le_refl _⟩
theorem matchN_run {sg : List Int} {m : MS} (h : matchN sg = some m) : runN 0 sg ⟨List.replicate sg.length (-1), [], 0⟩ = some m ∧ m.opn = [] := by
  unfold matchN at h
  split at h
  · rename_i m1 h1
    split at h
    · cases h; exact ⟨h1, by assumption⟩
    · cases h
  · cases h
theorem within {sg : List Int} {m : MS} (h : matchN sg = some m) : m.tt.length = sg.length ∧ ∀ j, j < sg.length → OkAt sg sg.length j (m.tt.getD j 0) := by
  obtain ⟨h1, h2⟩ := matchN_run h
  have hj := runN_J sg sg 0 _ m rfl (Nat.zero_le _) (J_start sg) h1
  refine ⟨hj.len, fun j hl => ?_⟩
  rcases hj.val j hl with h | ⟨p, hp, _⟩
  · exact h
  · rw [h2] at hp; cases hp
def shv (n : Nat) (v : Int) : Int := if v < 0 then v else v + n
def shp (n : Nat) (p : Pt) : Pt := ⟨p.loop, p.beg + n, if 0 < p.oth then p.oth + n else 0, p.lvs.map (· + n)⟩
def sh (A B : List Int) (O : List Pt) (D : Nat) (m : MS) : MS := ⟨A ++ (m.tt.map (shv A.length) ++ B), m.opn.map (shp A.length) ++ O, max D (m.deep + O.length)⟩
theorem set_mid (A t B : List Int) (n k : Nat) (v : Int) (hn : A.length = n) (hk : k < t.length) : (A ++ (t.map (shv n) ++ B)).set (k + n) (shv n v) = A ++ ((t.set k v).map (shv n) ++ B) := by
  rw [List.set_append_right _ _ (by omega), List.set_append_left _ _ (by rw [List.length_map]; omega), List.map_set]
  congr 4
  omega
theorem setAll_mid (A B : List Int) (n : Nat) (v : Int) (hn : A.length = n) : ∀ (l : List Nat) (t : List Int), (∀ k ∈ l, k < t.length) → setAll (A ++ (t.map (shv n) ++ B)) (shv n v) (l.map (· + n)) = A ++ ((setAll t v l).map (shv n) ++ B)
  | [], t, _ => rfl
  | k :: r, t, h => by
    show setAll ((A ++ (t.map (shv n) ++ B)).set (k + n) (shv n v)) (shv n v) (r.map (· + n)) = _
    rw [set_mid A t B n k v hn (h k (List.mem_cons_self ..)), setAll_mid A B n v hn r _ (fun q hq => by rw [List.length_set]; exact h q (List.mem_cons_of_mem _ hq))]
    rfl
theorem leaveP_sh (n i : Nat) (O : List Pt) : ∀ (ps o : List Pt), leaveP i ps = some o → leaveP (i + n) (ps.map (shp n) ++ O) = some (o.map (shp n) ++ O)
  | [], o, h => by cases h
  | p :: r, o, h => by
    unfold leaveP at h
    show leaveP (i + n) (shp n p :: (r.map (shp n) ++ O)) = _
    unfold leaveP
    split at h
    · rename_i hl
      cases h
      rw [if_pos (by exact hl)]
      show some (_ :: _) = some (_ :: _)
      congr 2
      simp [shp]
    · rename_i hl
      rw [if_neg (by exact hl)]
      cases hr : leaveP i r with
      | none => rw [hr] at h; cases h
      | some o2 =>
        rw [hr] at h
        cases h
        rw [leaveP_sh n i O r o2 hr]
        rfl
theorem tokN_sh {sg : List Int} {A B : List Int} {O : List Pt} {D n i : Nat} {s : Int} {m m2 : MS} (h : J sg i m) (hn : A.length = n) (hi : i < sg.length) (hO : m2.deep + O.length ≤ 16) (e : tokN i s m = some m2) : tokN (i + n) s (sh A B O D m) = some (sh A B O D m2) := by
  obtain ⟨len, pts, val, tl, dp⟩ := h
  have hv : ∀ k : Nat, shv n (k : Int) = ((k + n : Nat) : Int) := fun k => by unfold shv; rw [if_neg (by omega)]; omega
  have hv1 : ∀ k : Nat, shv n ((k : Int) + 1) = ((k + n : Nat) : Int) + 1 := fun k => by unfold shv; rw [if_neg (by omega)]; omega
  unfold tokN at e ⊢
  unfold sh
  rw [hn]
  split at e
  · rename_i hb
    rw [if_pos hb]
    split at e
    · rename_i h16
      cases e
      have hO : max m.deep (m.opn.length + 1) + O.length ≤ 16 := hO
      rw [if_pos (by simp only [List.length_append, List.length_map]; omega)]
      show some (MS.mk _ _ _) = some (MS.mk _ _ _)
      congr 2
      simp only [List.length_append, List.length_map]
      omega
    · cases e
  · rename_i nb
    rw [if_neg nb]
    split at e
    · rename_i hb
      rw [if_pos hb]
      cases ho : m.opn with
      | nil => rw [ho] at e; cases e
      | cons p r =>
        rw [ho] at e pts
        dsimp only at e
        split at e
        · cases e
        · rename_i hlo
          cases e
          have hp := pts p (List.mem_cons_self ..)
          have hpb := hp.b
          have hl : p.loop = false := by
            cases hq : p.loop
            · rfl
            · exact absurd (.inl hq) hlo
          have h0 : p.oth = 0 := by
            have : ¬ 0 < p.oth := fun hq => hlo (.inr hq)
            omega
          show (if (shp n p).loop = true ∨ 0 < (shp n p).oth then none else _) = _
          rw [if_neg (by show ¬ (p.loop = true ∨ 0 < (if 0 < p.oth then p.oth + n else 0)); rw [if_neg (by omega), hl]; simp)]
          show some (MS.mk _ _ _) = some (MS.mk _ _ _)
          have hs := set_mid A m.tt B n p.beg ((i : Int) + 1) hn (by omega)
          rw [hv1] at hs
          congr 2
          show _ :: _ = _ :: _
          congr 1
          unfold shp
          dsimp only
          rw [if_pos (show 0 < i by omega)]
    · rename_i nb2
      rw [if_neg nb2]
      split at e
      · rename_i hb
        rw [if_pos hb]
        cases ho : m.opn with
        | nil => rw [ho] at e; cases e
        | cons p r =>
          rw [ho] at e pts
          dsimp only at e
          split at e
          · cases e
          · rename_i hlo
            cases e
            have hp := pts p (List.mem_cons_self ..)
            have hpb := hp.b
            have hpo := hp.o
            show (if (shp n p).loop = true then none else _) = _
            rw [if_neg (by exact hlo)]
            show some (MS.mk _ _ _) = some (MS.mk _ _ _)
            have hs := set_mid A m.tt B n (if 0 < p.oth then p.oth else p.beg) (i : Int) hn (by split <;> omega)
            rw [hv] at hs
            have hk : (if 0 < (shp n p).oth then (shp n p).oth else (shp n p).beg) = (if 0 < p.oth then p.oth else p.beg) + n := by
              unfold shp
              dsimp only
              by_cases h0 : 0 < p.oth
              · rw [if_pos h0, if_pos h0, if_pos (by omega)]
              · rw [if_neg h0, if_neg h0, if_neg (by omega)]
            rw [hk]
            congr 2
      · rename_i nb3
        rw [if_neg nb3]
        split at e
        · rename_i hb
          rw [if_pos hb]
          cases ho : m.opn with
          | nil => rw [ho] at e; cases e
          | cons p r =>
            rw [ho] at e pts
            dsimp only at e
            split at e
            · rename_i hl
              cases e
              have hp := pts p (List.mem_cons_self ..)
              have hpb := hp.b
              show (if (shp n p).loop = true then _ else none) = _
              rw [if_pos (by exact hl)]
              show some (MS.mk _ _ _) = some (MS.mk _ _ _)
              have hs := set_mid A m.tt B n i (p.beg : Int) hn (by omega)
              rw [hv] at hs
              have hs2 := setAll_mid A B n ((i : Int) + 1) hn p.lvs (m.tt.set i (p.beg : Int)) (fun k hk => by rw [List.length_set]; have := (hp.lv k hk).1; omega)
              rw [hv1] at hs2
              congr 2
              rw [← hs2, ← hs]
              rfl
            · cases e
        · rename_i nb4
          rw [if_neg nb4]
          split at e
          · rename_i hb
            rw [if_pos hb]
            cases hlv : leaveP i m.opn with
            | none => rw [hlv] at e; cases e
            | some o =>
              rw [hlv] at e
              cases e
              dsimp only
              rw [leaveP_sh n i O _ _ hlv]
          · rename_i nb5
            rw [if_neg nb5]
            cases e
            rfl
theorem tokN_deep {i : Nat} {s : Int} {m m2 : MS} (e : tokN i s m = some m2) : m.deep ≤ m2.deep := by
  unfold tokN at e
  repeat' split at e
  all_goals first | (cases e; done) | (cases e; first | exact Nat.le_refl _ | exact Nat.le_max_left _ _)
theorem runN_deep : ∀ (t : List Int) (i : Nat) {m m2 : MS}, runN i t m = some m2 → m.deep ≤ m2.deep
  | [], i, m, m2, e => by cases e; exact Nat.le_refl _
  | s :: t, i, m, m2, e => by
    unfold runN at e
    cases hk : tokN i s m with
    | none => rw [hk] at e; cases e
    | some m3 =>
      rw [hk] at e
      exact Nat.le_trans (tokN_deep hk) (runN_deep t (i + 1) e)
theorem runN_sh (sg : List Int) {A B : List Int} {O : List Pt} {D n : Nat} (hn : A.length = n) : ∀ (t : List Int) (i : Nat) (m m2 : MS), sg.drop i = t → i ≤ sg.length → J sg i m → m2.deep + O.length ≤ 16 → runN i t m = some m2 → runN (i + n) t (sh A B O D m) = some (sh A B O D m2)
  | [], i, m, m2, ht, hi, h, hO, e => by cases e; rfl
  | s :: t, i, m, m2, ht, hi, h, hO, e => by
    unfold runN at e
    cases hk : tokN i s m with
    | none => rw [hk] at e; cases e
    | some m3 =>
      rw [hk] at e
      have hlt : i < sg.length := by
        rcases Nat.lt_or_ge i sg.length with h1 | h1
        · exact h1
        · rw [List.drop_eq_nil_of_le h1] at ht; cases ht
      have hs : sg.getD i 0 = s := by
        rw [List.drop_eq_getElem_cons hlt] at ht
        rw [List.getD_eq_getElem?_getD, List.getElem?_eq_getElem hlt]
        exact (List.cons.inj ht).1
      have hd := runN_deep t (i + 1) e
      unfold runN
      rw [tokN_sh (A := A) (B := B) (O := O) (D := D) h hn hlt (by omega) hk]
      have := runN_sh sg (A := A) (B := B) (O := O) (D := D) hn t (i + 1) m3 m2 (by rw [← List.drop_drop, ht]; rfl) hlt (tokN_J h hlt hs hk) hO e
      rw [show i + n + 1 = i + 1 + n by omega]
      exact this
theorem runN_cons (i : Nat) (s : Int) (t : List Int) (m : MS) : runN i (s :: t) m = match tokN i s m with
    | none => none
    | some m2 => runN (i + 1) t m2 := rfl
theorem runN_app : ∀ (a b : List Int) (i : Nat) (m m2 : MS), runN i a m = some m2 → runN i (a ++ b) m = runN (i + a.length) b m2
  | [], b, i, m, m2, e => by cases e; rfl
  | s :: t, b, i, m, m2, e => by
    unfold runN at e
    show runN i (s :: (t ++ b)) m = _
    rw [runN_cons]
    cases hk : tokN i s m with
    | none => rw [hk] at e; cases e
    | some m3 =>
      rw [hk] at e
      dsimp only at e ⊢
      rw [runN_app t b (i + 1) m3 m2 e, List.length_cons, show i + (t.length + 1) = i + 1 + t.length by omega]
theorem shv0 (t : List Int) : t.map (shv 0) = t := by
  rw [show shv 0 = id from funext fun v => by unfold shv; split <;> simp]
  exact List.map_id _
theorem deep16 : ∀ (t : List Int) (i : Nat) (m m2 : MS), m.deep ≤ 16 → runN i t m = some m2 → m2.deep ≤ 16
  | [], i, m, m2, h, e => by cases e; exact h
  | s :: t, i, m, m2, h, e => by
    unfold runN at e
    cases hk : tokN i s m with
    | none => rw [hk] at e; cases e
    | some m3 =>
      rw [hk] at e
      refine deep16 t (i + 1) m3 m2 ?_ e
      unfold tokN at hk
      repeat' split at hk
      all_goals first | (cases hk; done) | (cases hk; first | exact h | (rename_i h16; show max m.deep (m.opn.length + 1) ≤ 16; omega))
theorem adds {a b : List Int} {x y : MS} (hx : matchN a = some x) (hy : matchN b = some y) : matchN (a ++ b) = some ⟨x.tt ++ y.tt.map (shv a.length), [], max x.deep y.deep⟩ := by
  obtain ⟨x1, x2⟩ := matchN_run hx
  obtain ⟨y1, y2⟩ := matchN_run hy
  have hlx := (within hx).1
  have dx : x.deep ≤ 16 := deep16 _ _ _ _ (Nat.zero_le _) x1
  have dy : y.deep ≤ 16 := deep16 _ _ _ _ (Nat.zero_le _) y1
  have r1 := runN_sh a (A := []) (B := List.replicate b.length (-1)) (O := []) (D := 0) (n := 0) rfl a 0 _ x rfl (Nat.zero_le _) (J_start a) (by simpa using dx) x1
  have r2 := runN_sh b (A := x.tt) (B := []) (O := []) (D := x.deep) (n := a.length) hlx b 0 _ y rfl (Nat.zero_le _) (J_start b) (by simpa using dy) y1
  have e1 : sh [] (List.replicate b.length (-1)) [] 0 ⟨List.replicate a.length (-1), [], 0⟩ = ⟨List.replicate (a ++ b).length (-1), [], 0⟩ := by
    unfold sh
    dsimp only [List.length_nil]
    rw [shv0, List.nil_append, List.replicate_append_replicate, List.length_append]
    rfl
  have e2 : sh x.tt [] [] x.deep ⟨List.replicate b.length (-1), [], 0⟩ = sh [] (List.replicate b.length (-1)) [] 0 x := by
    unfold sh
    dsimp only [List.length_nil]
    rw [shv0, x2]
    congr 1
    · rw [List.map_replicate]
      simp [shv]
    · simp
  rw [e1] at r1
  unfold matchN
  have r3 := runN_app a b 0 _ _ r1
  rw [← e2, Nat.add_comm 0 a.length] at r3
  rw [Nat.zero_add] at r2
  rw [Nat.add_zero, r2] at r3
  rw [r3]
  unfold sh
  dsimp only
  rw [y2]
  simp [hlx]
end Go.Proofs.Ytkkgfpdjlohojaa.NestP
