/- engramref9: Tokens. -/
import Derived.Test.YtkkgfpdjlohojaaRefT2
import Derived.Test.YtkkgfpdjlohojaaTok
import Derived.Deep.Cut
import Derived.OwnWalk
namespace Go.Proofs.Ytkkgfpdjlohojaa.RefT
set_option linter.unusedVariables false
set_option linter.unusedSimpArgs false
open Go.RowKit Go.Proofs.YtkkgfpdjlohojaaW.PrintWords Go.Proofs.YtkkgfpdjlohojaaW.PrintLast Go.Proofs.YtkkgfpdjlohojaaW.PrintMore Go.Proofs.Ytkkgfpdjlohojaa.Kit
open Go.Proofs.Ytkkgfpdjlohojaa.TokP Go.Proofs.Ytkkgfpdjlohojaa.Tok
def tokO (s : ByteArray) : Option (List Tok) := if 512 < s.size then none else tokens (runesS s)
def tokErr (s : ByteArray) : Int := if 512 < s.size then 3 else 12
def tkA (w0 w' : World) (F : List HP) (e : Ending) (er : Int) : Option (List Tok) → Prop
  | some l => ∃ v, e = .returned (.tuple #[v, .int .i64 0]) ∧ Sep w0 w' (RowT v l :: F)
  | none => e = .returned (.tuple #[.slice none 0 0, .int .i64 er]) ∧ Sep w0 w' F
theorem drop_cons {rs : List Int} {i : Nat} (h : i < rs.length) : rs.drop i = rs.getD i 0 :: rs.drop (i + 1) := by
  rw [List.drop_eq_getElem_cons h, List.getD_eq_getElem?_getD, List.getElem?_eq_getElem h]
  rfl
section
variable {w0 W : World} {F : List HP}
set_option maxHeartbeats 6400000 in
set_option maxRecDepth 100000 in
theorem tokens_ (h : Sep w0 W F) (s : ByteArray) :
    Calls Try.prog 12 #[.string s] W fun e w' => tkA w0 w' F e (tokErr s) (tokO s) := by
  by_cases h512 : 512 < s.size
  · have h1 : tokErr s = 3 := if_pos h512
    have h2 : tokO s = none := if_pos h512
    have hd : decide (512 < (s.size : Int)) = true := decide_eq_true (by omega)
    have H := Aside0.mk h
    rw [h1, h2]
    clear h h1 h2
    go_enter Try.func12, Try.ntmps12
    go_wp2_with fail
    go_ret2
    exact ⟨by first | rfl | (simp; done), H.out⟩
  · have h1 : tokErr s = 12 := if_neg h512
    have h2 : tokO s = tokens (runesS s) := if_neg h512
    have hd : decide (512 < (s.size : Int)) = false := decide_eq_false (by omega)
    have H := Aside0.mk h
    rw [h1, h2]
    clear h h1 h2
    have hlen := runesS_len s
    have hrg : ∀ r ∈ runesS s, 0 ≤ r ∧ r ≤ 2147483647 := runesF_range s s.size 0
    obtain ⟨rs, hrs⟩ : ∃ rs, runesS s = rs := ⟨_, rfl⟩
    have HRS := Aside0.mk hrs
    rw [hrs] at hlen hrg ⊢
    obtain ⟨n, hn⟩ : ∃ n, rs.length = n := ⟨_, rfl⟩
    rw [hn] at hlen
    have HN := Aside0.mk (And.intro hn hrg)
    have hn512 : n ≤ 512 := by omega
    have hsz : s.size ≤ 1000000 := by omega
    obtain ⟨o, ho⟩ : ∃ o, tokens rs = o := ⟨_, rfl⟩
    have HO := Aside0.mk ho
    rw [ho]
    clear hrs hn hrg hlen h512 ho
    go_enter Try.func12, Try.ntmps12
    go_wp2_with (go_at_call 25; refine (runes_ H.out s hsz).mono ?_; rintro e w1 ⟨v, rfl, hS⟩; rw [HRS.out] at hS; obtain ⟨A, c, rfl⟩ := hS.rowN HN.out.1; have B0 : Aside0 (Sep w0 w1 (RowT (.slice none 0 0) [] :: Row R32 21 (.slice A n c) rs :: F)) := ⟨hS.nilRow (Kd.raw 3) 42⟩; clear hS)
    clear hd
    go_loopg [5, 6] n (fun m v q wr => ∃ (i : Nat) (acc : List Tok), i + m = n ∧ q = .int .i64 (i : Int) ∧ o = TokP.run acc .idle (rs.drop i) ∧ acc.length ≤ i ∧ Sep w0 wr (RowT v acc :: Row R32 21 (.slice A n c) rs :: F))
    case atStart => exact ⟨0, [], by omega, rfl, HO.out.symm, Nat.zero_le _, B0.out⟩
    case round =>
      obtain ⟨i, acc, him, rfl, hrun, hal, hS⟩ := hrel
      obtain ⟨A5, c5, rfl⟩ := hS.rowN (n := acc.length) (by rw [List.length_map])
      obtain ⟨K, hK⟩ : ∃ K, acc.length = K := ⟨_, rfl⟩
      rw [hK] at hS hal ⊢
      have AK := Aside0.mk him
      have HB := Aside0.mk hS
      have HU := Aside0.mk hrun
      have HK := Aside0.mk (And.intro hK hal)
      clear hK hal
      obtain ⟨G, rfl⟩ : ∃ G, G = gk := ⟨_, rfl⟩
      by_cases hi : i < n
      · obtain ⟨gr, c9, e9⟩ := hS.tail.rowFormN HN.out.1 (by omega)
        injection e9 with e9 _ e99
        subst e9 e99
        obtain ⟨f1, f2⟩ := hS.tail.rowCell (0 : Int) i hi
        have hdr := drop_cons (rs := rs) (i := i) (by rw [HN.out.1]; exact hi)
        have hrr := HN.out.2 (rs.getD i 0) (by rw [List.getD_eq_getElem?_getD, List.getElem?_eq_getElem (by rw [HN.out.1]; exact hi)]; exact List.getElem_mem _)
        obtain ⟨r, hr⟩ : ∃ r, rs.getD i 0 = r := ⟨_, rfl⟩
        rw [hr] at f1 hdr hrr
        rw [hdr] at hrun
        have HU2 := Aside0.mk hrun
        have HR := Aside0.mk hr
        have HI := Aside0.mk hi
        have HRR := Aside0.mk hrr
        have hij : (i : Int) < (n : Int) := by omega
        clear hS hrun hdr hr hrr f2 him
        by_cases h32 : r = 32
        · subst h32
          go_wp2_with fail
          go_roundg (G - 1)
          case measure => have := AK.out; omega
          case rel => exact ⟨i + 1, acc, by have := AK.out; omega, by go_num, HU2.out, by have := HK.out; omega, HB.out⟩
        · have hb32 : (r == 32) = false := by simp [h32]
          by_cases hdg : 48 ≤ r ∧ r ≤ 57
          · obtain ⟨hg1, hg2⟩ := hdg
            have hq1 : decide (48 ≤ r) = true := decide_eq_true hg1
            have hq2 : decide (r ≤ 57) = true := decide_eq_true hg2
            go_wp2_with fail
            go_loopg [6, 8] (n - i) (fun m q d wx => ∃ (j k : Nat), i ≤ j ∧ j + m = n ∧ q = .int .i64 (j : Int) ∧ d = .int .u64 (k : Int) ∧ k ≤ top ∧ o = TokP.run acc (.num k) (rs.drop j) ∧ wx = wr)
            case atStart => exact ⟨i, 0, Nat.le_refl _, by omega, rfl, rfl, Nat.zero_le _, by rw [drop_cons (by rw [HN.out.1]; exact hi), HR.out, ← run_num _ _ _ ⟨hg1, hg2⟩]; exact HU2.out, rfl⟩
            case round =>
              obtain ⟨j, k, hij2, hjm, rfl, rfl, hkt, hrun2, rfl⟩ := hrel
              have HM := Aside0.mk hjm
              have HIJ := Aside0.mk hij2
              by_cases hjn : j < n
              · obtain ⟨g1, g2⟩ := HB.out.tail.rowCell (0 : Int) j hjn
                have hdr := drop_cons (rs := rs) (i := j) (by rw [HN.out.1]; exact hjn)
                have hxr := HN.out.2 (rs.getD j 0) (by rw [List.getD_eq_getElem?_getD, List.getElem?_eq_getElem (by rw [HN.out.1]; exact hjn)]; exact List.getElem_mem _)
                obtain ⟨x, hx⟩ : ∃ x, rs.getD j 0 = x := ⟨_, rfl⟩
                rw [hx] at g1 hdr hxr
                have HX := Aside0.mk hx
                have hjl : (j : Int) < (n : Int) := by omega
                rw [hdr] at hrun2
                have HDR := Aside0.mk hdr
                have HR2 := Aside0.mk hrun2
                clear g2 hdr hx hrun2 hjm hij2
                by_cases hxd : 48 ≤ x ∧ x ≤ 57
                · obtain ⟨d, hd⟩ : ∃ d : Nat, (x - 48).toNat = d := ⟨_, rfl⟩
                  have hd9 : d ≤ 9 := by omega
                  have hxd2 : x = (d : Int) + 48 := by omega
                  have hst := run_digit acc k x (rs.drop (j + 1)) hxd
                  rw [hd] at hst
                  have HST := Aside0.mk hst
                  subst hxd2
                  clear hst hxd hd hxr
                  have e1 : decide (48 ≤ (d : Int) + 48) = true := decide_eq_true (by omega)
                  have e2 : decide ((d : Int) + 48 ≤ 57) = true := decide_eq_true (by omega)
                  have e3 : (d : Int) + 48 - 48 = (d : Int) := by omega
                  have e4 : wrap32 (d : Int) = (d : Int) := by unfold wrap32; omega
                  have e5 : IntKind.i32.wrap (d : Int) = (d : Int) := by rw [IntKind.wrap_i32]; omega
                  have e6 : IntKind.u64.wrap (d : Int) = (d : Int) := by rw [IntKind.wrap_u64]; omega
                  by_cases hov : (top - d) / 10 < k
                  · rw [if_pos hov] at HST
                    have hov2 : decide ((9223372036854775807 - (d : Int)) / 10 < (k : Int)) = true := decide_eq_true (by unfold top at hov; omega)
                    go_wp2_with fail
                    go_ret2
                    rw [HR2.out, HST.out]
                    exact ⟨by first | rfl | (simp; done), HB.out.tail.tail⟩
                  · rw [if_neg hov] at HST
                    have hov2 : decide ((9223372036854775807 - (d : Int)) / 10 < (k : Int)) = false := decide_eq_false (by unfold top at hov; omega)
                    have hk9 : k * 10 + d ≤ top := by unfold top at hov hkt ⊢; omega
                    have e7 : IntKind.u64.wrap ((k : Int) * 10) = (k : Int) * 10 := by unfold top at hk9; rw [IntKind.wrap_u64]; omega
                    have e8 : IntKind.u64.wrap ((k : Int) * 10 + (d : Int)) = ((k * 10 + d : Nat) : Int) := by unfold top at hk9; rw [IntKind.wrap_u64]; omega
                    have HK9 := Aside0.mk hk9
                    clear hk9 hkt hov
                    go_wp2_with fail
                    go_roundg (gk - 1)
                    case measure => have := HM.out; omega
                    case rel => exact ⟨j + 1, k * 10 + d, by have := HIJ.out; omega, by have := HM.out; omega, by go_num, by first | rfl | (congr 1; push_cast; rfl) | (push_cast; rfl), HK9.out, by rw [HR2.out]; exact HST.out, rfl⟩
                · have HF : Aside0 (o = TokP.run (acc ++ [⟨48, (k : Int), 0⟩]) .idle (rs.drop j)) := ⟨by rw [HDR.out, ← run_flush _ _ _ _ hxd]; exact HR2.out⟩
                  have hij3 : i ≠ j := fun hq => hxd (by rw [← HX.out, ← hq, HR.out]; exact ⟨hg1, hg2⟩)
                  have HJ := Aside0.mk (And.intro hij3 (And.intro HIJ.out hjn))
                  by_cases hx1 : 48 ≤ x
                  · have hx2 : ¬ x ≤ 57 := fun hq => hxd ⟨hx1, hq⟩
                    have hq5 : decide (48 ≤ x) = true := decide_eq_true hx1
                    have hq6 : decide (x ≤ 57) = false := decide_eq_false hx2
                    have L := Aside0.mk ((oneTok HB.out ⟨48, (k : Int), 0⟩).at2)
                    have hwj : wrap64 ((j : Int) - 1) = (j : Int) - 1 := IntWalk.wrap64_in _ (by omega)
                    have hwj2 : wrap64 (j : Int) = (j : Int) := IntWalk.wrap64_in _ (by omega)
                    have hwk : wrap64 (k : Int) = (k : Int) := IntWalk.wrap64_in _ (by unfold top at hkt; omega)
                    have hwk2 : IntKind.i64.wrap (k : Int) = (k : Int) := by unfold top at hkt; rw [IntKind.wrap_i64]; omega
                    go_wp2_with (first | (refine gate_builtin (b := .append) (xs := #[.tmp 75, .tmp 79]) rfl ?_; go_loud (refine L.out.appendRaw rfl (.tmp 75) (.tmp 79) 24 (.agg #[.int .i32 0, .int .i64 0, .int .i32 0]) 24 rfl Try.underlying24 infoTok rfl (by decide) (by decide) (some ⟨wr.heap.size, 0, none⟩) 1 1 rfl rfl (rowT_TC L.out.at2) (by rw [List.length_map]; have := HK.out; have := HI.out; simp; omega) ?_; intro v7 w7 hS7; have B7 := Aside0.mk hS7.at2.tail; clear hS7)))
                    go_roundg (n - j)
                    case measure => have := AK.out; have := HJ.out; omega
                    case rel => exact ⟨j, acc ++ [⟨48, (k : Int), 0⟩], by have := HJ.out; omega, by go_num, HF.out, by rw [List.length_append]; have := HK.out; have := HJ.out; simp; omega, by have h9 := B7.out; rw [← List.map_append] at h9; exact h9⟩
                  · skip
                    have hq5 : decide (48 ≤ x) = false := decide_eq_false hx1
                    have L := Aside0.mk ((oneTok HB.out ⟨48, (k : Int), 0⟩).at2)
                    have hwj : wrap64 ((j : Int) - 1) = (j : Int) - 1 := IntWalk.wrap64_in _ (by omega)
                    have hwj2 : wrap64 (j : Int) = (j : Int) := IntWalk.wrap64_in _ (by omega)
                    have hwk : wrap64 (k : Int) = (k : Int) := IntWalk.wrap64_in _ (by unfold top at hkt; omega)
                    have hwk2 : IntKind.i64.wrap (k : Int) = (k : Int) := by unfold top at hkt; rw [IntKind.wrap_i64]; omega
                    go_wp2_with (first | (refine gate_builtin (b := .append) (xs := #[.tmp 75, .tmp 79]) rfl ?_; go_loud (refine L.out.appendRaw rfl (.tmp 75) (.tmp 79) 24 (.agg #[.int .i32 0, .int .i64 0, .int .i32 0]) 24 rfl Try.underlying24 infoTok rfl (by decide) (by decide) (some ⟨wr.heap.size, 0, none⟩) 1 1 rfl rfl (rowT_TC L.out.at2) (by rw [List.length_map]; have := HK.out; have := HI.out; simp; omega) ?_; intro v7 w7 hS7; have B7 := Aside0.mk hS7.at2.tail; clear hS7)))
                    go_roundg (n - j)
                    case measure => have := AK.out; have := HJ.out; omega
                    case rel => exact ⟨j, acc ++ [⟨48, (k : Int), 0⟩], by have := HJ.out; omega, by go_num, HF.out, by rw [List.length_append]; have := HK.out; have := HJ.out; simp; omega, by have h9 := B7.out; rw [← List.map_append] at h9; exact h9⟩
              · have hjn2 : j = n := by omega
                have HF : Aside0 (o = TokP.run (acc ++ [⟨48, (k : Int), 0⟩]) .idle (rs.drop j)) := ⟨by rw [hrun2, List.drop_of_length_le (by rw [HN.out.1]; omega)]; rfl⟩
                have HJ : Aside0 (i ≠ j ∧ i ≤ j ∧ j ≤ n) := ⟨by omega, hij2, by omega⟩
                have hjl : ¬ (j : Int) < (n : Int) := by omega
                have hjl2 : decide ((j : Int) < (n : Int)) = false := decide_eq_false hjl
                clear hrun2 hjm hij2
                skip
                have L := Aside0.mk ((oneTok HB.out ⟨48, (k : Int), 0⟩).at2)
                have hwj : wrap64 ((j : Int) - 1) = (j : Int) - 1 := IntWalk.wrap64_in _ (by omega)
                have hwj2 : wrap64 (j : Int) = (j : Int) := IntWalk.wrap64_in _ (by omega)
                have hwk : wrap64 (k : Int) = (k : Int) := IntWalk.wrap64_in _ (by unfold top at hkt; omega)
                have hwk2 : IntKind.i64.wrap (k : Int) = (k : Int) := by unfold top at hkt; rw [IntKind.wrap_i64]; omega
                go_wp2_with (first | (refine gate_builtin (b := .append) (xs := #[.tmp 75, .tmp 79]) rfl ?_; go_loud (refine L.out.appendRaw rfl (.tmp 75) (.tmp 79) 24 (.agg #[.int .i32 0, .int .i64 0, .int .i32 0]) 24 rfl Try.underlying24 infoTok rfl (by decide) (by decide) (some ⟨wr.heap.size, 0, none⟩) 1 1 rfl rfl (rowT_TC L.out.at2) (by rw [List.length_map]; have := HK.out; have := HI.out; simp; omega) ?_; intro v7 w7 hS7; have B7 := Aside0.mk hS7.at2.tail; clear hS7)))
                go_roundg (n - j)
                case measure => have := AK.out; have := HJ.out; omega
                case rel => exact ⟨j, acc ++ [⟨48, (k : Int), 0⟩], by have := HJ.out; omega, by go_num, HF.out, by rw [List.length_append]; have := HK.out; have := HJ.out; simp; omega, by have h9 := B7.out; rw [← List.map_append] at h9; exact h9⟩
          · have hq : (decide (48 ≤ r) && decide (r ≤ 57)) = false := by simp; omega
            by_cases hnm : namedB r = true
            · have hnm2 : r = 955 ∨ r = 960 := by unfold namedB at hnm; simpa using hnm
              by_cases hin : i + 1 < n
              · obtain ⟨g1, g2⟩ := HB.out.tail.rowCell (0 : Int) (i + 1) hin
                have hdr := drop_cons (rs := rs) (i := i + 1) (by rw [HN.out.1]; exact hin)
                obtain ⟨x, hx⟩ : ∃ x, rs.getD (i + 1) 0 = x := ⟨_, rfl⟩
                rw [hx] at g1 hdr
                have hun := HU2.out
                rw [hdr, run_named _ _ _ _ hnm] at hun
                have HUN := Aside0.mk hun
                obtain ⟨b, hb⟩ : ∃ b, nameB x = b := ⟨_, rfl⟩
                have HNB := Aside0.mk hb
                rw [hb] at HUN
                have hin2 : ((i : Int) + 1) < (n : Int) := by omega
                have hin3 : decide ((n : Int) ≤ (i : Int) + 1) = false := decide_eq_false (by omega)
                have hit : ((i : Int) + 1).toNat = i + 1 := by omega
                have hw1 : wrap64 ((i : Int) + 1) = (i : Int) + 1 := IntWalk.wrap64_in _ (by omega)
                have L := Aside0.mk ((oneTok HB.out ⟨r, 0, x⟩).at2)
                have HIN := Aside0.mk hin
                clear g2 hdr hx hun hb hin hnm hq
                cases b with
                | false =>
                  rcases hnm2 with rfl | rfl
                  all_goals
                    go_wp2_with (go_at_call 26; refine (name_ x).mono ?_; rintro e w2 ⟨rfl, rfl⟩; rw [HNB.out])
                    go_ret2
                    rw [HUN.out]
                    exact ⟨by first | rfl | (simp; done), HB.out.tail.tail⟩
                | true =>
                  rcases hnm2 with rfl | rfl
                  all_goals
                    go_upto_region 23 with (go_at_call 26; refine (name_ x).mono ?_; rintro e w2 ⟨rfl, rfl⟩; rw [HNB.out])
                    go_wp2_with (first | (refine gate_builtin (b := .append) (xs := #[.tmp 102, .tmp 110]) rfl ?_; go_loud (refine L.out.appendRaw rfl (.tmp 102) (.tmp 110) 24 (.agg #[.int .i32 0, .int .i64 0, .int .i32 0]) 24 rfl Try.underlying24 infoTok rfl (by decide) (by decide) (some ⟨wr.heap.size, 0, none⟩) 1 1 rfl rfl (rowT_TC L.out.at2) (by rw [List.length_map]; have := HK.out; have := HI.out; simp; omega) ?_; intro v7 w7 hS7; have B7 := Aside0.mk hS7.at2.tail; clear hS7)))
                    go_roundg (G - 2)
                    case measure => have := AK.out; omega
                    case rel => exact ⟨i + 2, acc ++ [⟨_, 0, x⟩], by have := AK.out; have := HIN.out; omega, by go_num, by have h9 := HUN.out; rw [if_pos trivial] at h9; exact h9, by rw [List.length_append]; have := HK.out; simp; omega, by have h9 := B7.out; rw [← List.map_append] at h9; exact h9⟩
              · have hin1 : i + 1 = n := by omega
                have hun := HU2.out
                rw [List.drop_of_length_le (by rw [HN.out.1]; omega), run_namedE _ _ hnm] at hun
                have HUN := Aside0.mk hun
                have hin3 : decide ((n : Int) ≤ (i : Int) + 1) = true := decide_eq_true (by omega)
                have hw1 : wrap64 ((i : Int) + 1) = (i : Int) + 1 := IntWalk.wrap64_in _ (by omega)
                have HIN1 := Aside0.mk hin1
                clear hun hnm hin1 hq
                rcases hnm2 with rfl | rfl
                all_goals
                  go_wp2_with fail
                  go_ret2
                  rw [HUN.out]
                  exact ⟨by first | rfl | (simp; done), HB.out.tail.tail⟩
            · have hnf : namedB r = false := by simpa using hnm
              have h955 : ¬ r = 955 := fun hq => hnm (by rw [hq]; rfl)
              have h960 : ¬ r = 960 := fun hq => hnm (by rw [hq]; rfl)
              have hb955 : (r == 955) = false := by simp [h955]
              have hb960 : (r == 960) = false := by simp [h960]
              have hun := HU2.out
              rw [run_else _ _ _ h32 hdg hnf] at hun
              have HUN := Aside0.mk hun
              obtain ⟨b, hb⟩ : ∃ b, knownB r = b := ⟨_, rfl⟩
              have HNB := Aside0.mk hb
              rw [hb] at HUN
              clear hun hb hnm hnf hq
              by_cases hx1 : 48 ≤ r
              · have hx2 : ¬ r ≤ 57 := fun hq => hdg ⟨hx1, hq⟩
                have hq5 : decide (48 ≤ r) = true := decide_eq_true hx1
                have hq6 : decide (r ≤ 57) = false := decide_eq_false hx2
                cases b with
                | false =>
                  go_wp2_with (go_at_call 27; refine (known_ HB.out r).mono ?_; rintro e w2 ⟨rfl, hS2⟩; rw [HNB.out]; have B2 := Aside0.mk hS2; clear hS2)
                  go_ret2
                  rw [HUN.out]
                  exact ⟨by first | rfl | (simp; done), B2.out.tail.tail⟩
                | true =>
                  go_upto_region 26 with (go_at_call 27; refine (known_ HB.out r).mono ?_; rintro e w2 ⟨rfl, hS2⟩; rw [HNB.out]; have B2 := Aside0.mk hS2; clear hS2)
                  have L := Aside0.mk ((oneTok B2.out ⟨r, 0, 0⟩).at2)
                  go_wp2_with (first | (refine gate_builtin (b := .append) (xs := #[.tmp 117, .tmp 120]) rfl ?_; go_loud (refine L.out.appendRaw rfl (.tmp 117) (.tmp 120) 24 (.agg #[.int .i32 0, .int .i64 0, .int .i32 0]) 24 rfl Try.underlying24 infoTok rfl (by decide) (by decide) (some ⟨w2.heap.size, 0, none⟩) 1 1 rfl rfl (rowT_TC L.out.at2) (by rw [List.length_map]; have := HK.out; have := HI.out; simp; omega) ?_; intro v7 w7 hS7; have B7 := Aside0.mk hS7.at2.tail; clear hS7)))
                  go_roundg (G - 1)
                  case measure => have := AK.out; omega
                  case rel => exact ⟨i + 1, acc ++ [⟨r, 0, 0⟩], by have := AK.out; omega, by go_num, by have h9 := HUN.out; rw [if_pos trivial] at h9; exact h9, by rw [List.length_append]; have := HK.out; simp; omega, by have h9 := B7.out; rw [← List.map_append] at h9; exact h9⟩
              · have hq5 : decide (48 ≤ r) = false := decide_eq_false hx1
                cases b with
                | false =>
                  go_wp2_with (go_at_call 27; refine (known_ HB.out r).mono ?_; rintro e w2 ⟨rfl, hS2⟩; rw [HNB.out]; have B2 := Aside0.mk hS2; clear hS2)
                  go_ret2
                  rw [HUN.out]
                  exact ⟨by first | rfl | (simp; done), B2.out.tail.tail⟩
                | true =>
                  go_upto_region 26 with (go_at_call 27; refine (known_ HB.out r).mono ?_; rintro e w2 ⟨rfl, hS2⟩; rw [HNB.out]; have B2 := Aside0.mk hS2; clear hS2)
                  have L := Aside0.mk ((oneTok B2.out ⟨r, 0, 0⟩).at2)
                  go_wp2_with (first | (refine gate_builtin (b := .append) (xs := #[.tmp 117, .tmp 120]) rfl ?_; go_loud (refine L.out.appendRaw rfl (.tmp 117) (.tmp 120) 24 (.agg #[.int .i32 0, .int .i64 0, .int .i32 0]) 24 rfl Try.underlying24 infoTok rfl (by decide) (by decide) (some ⟨w2.heap.size, 0, none⟩) 1 1 rfl rfl (rowT_TC L.out.at2) (by rw [List.length_map]; have := HK.out; have := HI.out; simp; omega) ?_; intro v7 w7 hS7; have B7 := Aside0.mk hS7.at2.tail; clear hS7)))
                  go_roundg (G - 1)
                  case measure => have := AK.out; omega
                  case rel => exact ⟨i + 1, acc ++ [⟨r, 0, 0⟩], by have := AK.out; omega, by go_num, by have h9 := HUN.out; rw [if_pos trivial] at h9; exact h9, by rw [List.length_append]; have := HK.out; simp; omega, by have h9 := B7.out; rw [← List.map_append] at h9; exact h9⟩
      · have hin : i = n := by omega
        have hf : TokP.run acc .idle (rs.drop i) = some acc := by rw [List.drop_of_length_le (by rw [HN.out.1]; omega)]; rfl
        rw [hf] at hrun
        have HUN := Aside0.mk hrun
        have hjl2 : decide ((i : Int) < (n : Int)) = false := decide_eq_false (by omega)
        clear hf hrun hS him
        go_wp2_with fail
        go_ret2
        rw [HUN.out]
        exact ⟨_, by first | rfl | (simp; done), HB.out.drop2⟩
end
end Go.Proofs.Ytkkgfpdjlohojaa.RefT
