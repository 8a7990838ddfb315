/- ReplyRows: the walk. -/
import Derived.Test.YtfpkhlhojjmgiaaReplyAll
import Derived.Test.YtfpkhlhojjmgiaaOpenRow
namespace Go.Proofs.Ytfpkhlhojjmgiaa.Reply
set_option linter.unusedVariables false
set_option linter.unusedSimpArgs false
open Go.RowKit Go.Proofs.YtfpkhlhojjmgiaaW.PrintWords Go.Proofs.YtfpkhlhojjmgiaaW.PrintLast Go.Proofs.YtfpkhlhojjmgiaaW.PrintMore Go.Proofs.Ytfpkhlhojjmgiaa.Kit
abbrev L32 : Kd Int := Kd.int .i32
section
variable {H : Type} {enc : TypeId × Value → H} {W : World} {base : Nat} {held : Bool}
theorem bools_open {a : Option Addr} {len cap : Nat} {d : DataW H} {p : List MemPlace} (h : DataW.Trod enc Try.prog W base (fun _ => true) held 58 (.slice a len cap) d p) : ∃ xs : List Bool, len ≤ cap ∧ Kd.bool.C W a len xs ∧ ∀ x ∈ xs, True := by
  refine slice_open (d := Kd.bool) Try.underlying58 (by kernel_rfl) (fun cs fuel y hl ht => ?_) h
  obtain ⟨x, q, _⟩ := DataW.trod_bool Try.underlying4 ht
  exact ⟨x, q, trivial⟩
end
theorem bool_at {W : World} {A : Option Addr} {n : Nat} {l : List Bool} (h : Kd.bool.C W A n l) {i : Nat} (hi : i < n) : ∃ (hx : i < l.length) (ad : Addr), A = some ad ∧ W.cell? (ad.add i) = some (.bool l[i]) := by
  obtain ⟨hx, a, cs, he, hk, hc0, _⟩ := elem_ h hi
  have hk : cs = [.bool l[i]] := hk
  subst hk
  have := hc0 _ rfl
  rw [show i * Kd.bool.sz = i from Nat.mul_one i] at this
  exact ⟨hx, a, he, this⟩
def itemV (l : List Int) (bad : List Bool) (i : Nat) : OV := if bad.getD i false then ⟨.iface 56 (.agg #[.int .i64 (i : Int)]), rfl⟩ else vInt64 (l.getD i 0)
def itemO (l : List Int) (bad : List Bool) (i : Nat) : Option Int := if bad.getD i false then none else some (l.getD i 0)
def itemsV (l : List Int) (bad : List Bool) (j : Nat) : List OV := (List.range j).map (itemV l bad)
def itemsO (l : List Int) (bad : List Bool) (j : Nat) : List (Option Int) := (List.range j).map (itemO l bad)
def ansO (l : List Int) (bad : List Bool) (j : Nat) : List (Int × Bool) := (itemsO l bad j).map (fun r => (r.getD 0, r.isSome))
def askP (names : List Int) (i : Nat) : List (Int × Int) := (List.range i).map (fun k => (names.getD k 0, (k : Int)))
theorem itemsV_snoc (l : List Int) (bad : List Bool) (j : Nat) : itemsV l bad (j + 1) = itemsV l bad j ++ [itemV l bad j] := by unfold itemsV; rw [List.range_succ, List.map_append]; rfl
theorem itemsO_snoc (l : List Int) (bad : List Bool) (j : Nat) : itemsO l bad (j + 1) = itemsO l bad j ++ [itemO l bad j] := by unfold itemsO; rw [List.range_succ, List.map_append]; rfl
theorem askP_snoc (names : List Int) (i : Nat) : askP names (i + 1) = askP names i ++ [(names.getD i 0, (i : Int))] := by unfold askP; rw [List.range_succ, List.map_append]; rfl
theorem itemsV_len (l : List Int) (bad : List Bool) (j : Nat) : (itemsV l bad j).length = j := by unfold itemsV; simp
theorem itemsO_len (l : List Int) (bad : List Bool) (j : Nat) : (itemsO l bad j).length = j := by unfold itemsO; simp
theorem askP_len (names : List Int) (i : Nat) : (askP names i).length = i := by unfold askP; simp
theorem askP_at (names : List Int) (i : Nat) (h : i < (askP names (i + 1)).length) : (askP names (i + 1))[i] = (names.getD i 0, (i : Int)) := by
  unfold askP; simp
theorem ofs_items (l : List Int) (bad : List Bool) (j : Nat) : OfsAll (itemsV l bad j) (itemsO l bad j) := by
  induction j with
  | zero => exact .nil
  | succ j ih =>
    rw [itemsV_snoc, itemsO_snoc]
    refine ih.snoc ?_
    unfold itemV itemO
    by_cases h : bad.getD j false = true
    · rw [if_pos h, if_pos h]; exact of_type (by decide)
    · rw [if_neg h, if_neg h]; exact of_int64 _
theorem head_in (l : List Int) (bad : List Bool) {i j : Nat} (h : i < j) : headF ((ansO l bad j).drop i) = ((itemO l bad i).getD 0, (itemO l bad i).isSome) := by
  have hl : i < (ansO l bad j).length := by unfold ansO; rw [List.length_map, itemsO_len]; exact h
  rw [List.drop_eq_getElem_cons hl]
  show (ansO l bad j)[i] = _
  unfold ansO itemsO
  simp
theorem head_out (l : List Int) (bad : List Bool) {i j : Nat} (h : j ≤ i) : headF ((ansO l bad j).drop i) = (0, true) := by
  rw [List.drop_of_length_le (by unfold ansO; rw [List.length_map, itemsO_len]; exact h)]
  rfl
set_option maxHeartbeats 3200000 in
set_option maxRecDepth 100000 in
theorem replyRows_ {A0 A1 A2 : Option Addr} {n0 c0 n1 c1 n2 c2 : Nat} {l : List Int} {bad : List Bool} {names : List Int} {w : World} (h0 : L64.C w A0 n0 l) (h1 : Kd.bool.C w A1 n1 bad) (h2 : L32.C w A2 n2 names) :
    Calls Try.prog 7 #[.slice A0 n0 c0, .slice A1 n1 c1, .slice A2 n2 c2] w fun e w' => e = .returned (.bool true) ∧ Below w.heap.size w w' := by
  have H0 := Aside0.mk h0
  have H1 := Aside0.mk h1
  have H2 := Aside0.mk h2
  have hm0 : n0 ≤ 9223372036854775807 := h0.2.1
  have hm1 : n1 ≤ 9223372036854775807 := h1.2.1
  have hm2 : n2 ≤ 9223372036854775807 := h2.2.1
  obtain ⟨M, hM0, hM1, hM2⟩ : ∃ M, M ≤ n0 ∧ M ≤ 30 ∧ (M = n0 ∨ M = 30) := ⟨min n0 30, by omega, by omega, by omega⟩
  obtain ⟨N, hN0, hN1, hN2⟩ : ∃ N, N ≤ n2 ∧ N ≤ 40 ∧ (N = n2 ∨ N = 40) := ⟨min n2 40, by omega, by omega, by omega⟩
  have A0' := Aside0.mk ((Sep.start w).nilRow KV 20)
  clear h0 h1 h2
  go_enter Try.func7, Try.ntmps7
  go_wp2_with fail
  go_loopg [7, 8] M (fun m v p wr => ∃ i : Nat, p = .int .i64 (i : Int) ∧ i + m = M ∧ Sep w wr [Row KV 20 v (itemsV l bad i)])
  case atStart => exact ⟨0, rfl, by omega, A0'.out⟩
  case round =>
    obtain ⟨i, rfl, him, hS⟩ := hrel
    have AK := Aside0.mk him
    have AS := Aside0.mk hS
    obtain ⟨A3, c3, rfl⟩ := hS.rowN (n := i) (itemsV_len _ _ _)
    clear hS
    by_cases hi : i < M
    · have hi0 : (i : Int) < (n0 : Int) := by omega
      have hi0' : decide ((i : Int) < (n0 : Int)) = true := decide_eq_true hi0
      have hi1 : (i : Int) < 30 := by omega
      have hIV := Aside0.mk (itemsV_snoc l bad i)
      obtain ⟨hx, adl, rfl, e0⟩ := int_at H0.out (i := i) (by omega)
      have hxv : l.getD i 0 = l[i] := by rw [List.getD_eq_getElem?_getD, List.getElem?_eq_getElem hx]; rfl
      obtain ⟨x, hxx⟩ : ∃ x, l[i] = x := ⟨_, rfl⟩
      rw [hxx] at e0 hxv
      have z0 := cell_later AS.out.toBelow e0
      clear him e0 hxx
      by_cases hb : i < n1
      · obtain ⟨hy, adb, rfl, e1⟩ := bool_at H1.out hb
        have z1 := cell_later AS.out.toBelow e1
        have hbl : (i : Int) < (n1 : Int) := by omega
        have hbl' : decide ((i : Int) < (n1 : Int)) = true := decide_eq_true hbl
        have hyv : bad.getD i false = bad[i] := by rw [List.getD_eq_getElem?_getD, List.getElem?_eq_getElem hy]; rfl
        obtain ⟨y, hyy⟩ : ∃ y, bad[i] = y := ⟨_, rfl⟩
        rw [hyy] at z1 hyv
        clear e1 hyy
        cases y
        · have HT : Aside0 (itemV l bad i = vInt64 x) := ⟨by unfold itemV; rw [hyv, hxv]; rfl⟩
          have L2 := Aside0.mk (AS.out.litRow (enc := fun x : OV => x.1) (h1 := fun x => x.2) (e := 20) [vInt64 x] (by simp)).at2
          clear hyv hxv
          go_wp2_with (first | (refine gate_builtin (b := .append) (xs := #[.tmp 42, .tmp 48]) rfl ?_; go_loud (refine L2.out.appendRow rfl (.tmp 42) (.tmp 48) 46 .nilIface 16 rfl Try.underlying46 infoA rfl (by decide) (some ⟨wr.heap.size, 0, none⟩) 1 1 rfl rfl L2.out.at2.rowC' (by rw [itemsV_len]; simp; omega) ?_; intro v4 w4 hS4; have A4 := Aside0.mk hS4.drop2; clear hS4)))
          go_roundg (gk - 1)
          case measure => have := AK.out; omega
          case rel => exact ⟨i + 1, by go_num, by have := AK.out; omega, by rw [hIV.out, HT.out]; exact A4.out⟩
        · have HT : Aside0 (itemV l bad i = (⟨.iface 56 (.agg #[.int .i64 (i : Int)]), rfl⟩ : OV)) := ⟨by unfold itemV; rw [hyv]; rfl⟩
          have L2 := Aside0.mk (AS.out.litRow (enc := fun x : OV => x.1) (h1 := fun x => x.2) (e := 20) [(⟨.iface 56 (.agg #[.int .i64 (i : Int)]), rfl⟩ : OV)] (by simp)).at2
          clear hyv hxv
          go_wp2_with (first | (refine gate_builtin (b := .append) (xs := #[.tmp 36, .tmp 40]) rfl ?_; go_loud (refine L2.out.appendRow rfl (.tmp 36) (.tmp 40) 46 .nilIface 16 rfl Try.underlying46 infoA rfl (by decide) (some ⟨wr.heap.size, 0, none⟩) 1 1 rfl rfl L2.out.at2.rowC' (by rw [itemsV_len]; simp; omega) ?_; intro v4 w4 hS4; have A4 := Aside0.mk hS4.drop2; clear hS4)))
          go_roundg (gk - 1)
          case measure => have := AK.out; omega
          case rel => exact ⟨i + 1, by go_num, by have := AK.out; omega, by rw [hIV.out, HT.out]; exact A4.out⟩
      · have hbl : ¬ (i : Int) < (n1 : Int) := by omega
        have hbl' : decide ((i : Int) < (n1 : Int)) = false := decide_eq_false hbl
        have hyv : bad.getD i false = false := by rw [List.getD_eq_getElem?_getD, List.getElem?_eq_none (by have := H1.out.1; omega)]; rfl
        · have HT : Aside0 (itemV l bad i = vInt64 x) := ⟨by unfold itemV; rw [hyv, hxv]; rfl⟩
          have L2 := Aside0.mk (AS.out.litRow (enc := fun x : OV => x.1) (h1 := fun x => x.2) (e := 20) [vInt64 x] (by simp)).at2
          clear hyv hxv
          go_wp2_with (first | (refine gate_builtin (b := .append) (xs := #[.tmp 42, .tmp 48]) rfl ?_; go_loud (refine L2.out.appendRow rfl (.tmp 42) (.tmp 48) 46 .nilIface 16 rfl Try.underlying46 infoA rfl (by decide) (some ⟨wr.heap.size, 0, none⟩) 1 1 rfl rfl L2.out.at2.rowC' (by rw [itemsV_len]; simp; omega) ?_; intro v4 w4 hS4; have A4 := Aside0.mk hS4.drop2; clear hS4)))
          go_roundg (gk - 1)
          case measure => have := AK.out; omega
          case rel => exact ⟨i + 1, by go_num, by have := AK.out; omega, by rw [hIV.out, HT.out]; exact A4.out⟩
    · obtain rfl : i = M := by omega
      have hcond : ¬ (i < n0 ∧ i < 30) := by omega
      have HC := Aside0.mk hcond
      clear him hcond AK
      have hex : ((i : Int) < (n0 : Int)) = False ∨ (((i : Int) < (n0 : Int)) = True ∧ ((i : Int) < 30) = False) := by
        by_cases h : i < n0
        · exact .inr ⟨eq_true (by omega), eq_false (by have := HC.out; omega)⟩
        · exact .inl (eq_false (by omega))
      have HEX := Aside0.mk hex
      clear hex HC
      rcases HEX.out with hb1 | ⟨hb1, hb2⟩
      · clear HEX
        go_wp2_with fail
        refine (new_ AS.out.rowC' AS.out.rowC.2.1 (ofs_items l bad i) (by omega)).mono ?_
        rintro e w5 ⟨g, rfl, hS5⟩
        rw [List.take_of_length_le (by rw [itemsO_len]; omega)] at hS5
        have B5 : Aside0 (Sep w w5 [RowR g ((ansO l bad i).drop 0) (askP names 0)]) := ⟨Sep.weakR (L := [_]) (AS.out.lift1 hS5)⟩
        clear hS5 hb1
        go_wp2_with fail
        go_loopg [10] N (fun m p wq => ∃ j : Nat, p = .int .i64 (j : Int) ∧ j + m = N ∧ Sep w wq [RowR g ((ansO l bad i).drop j) (askP names j)])
        case atStart => exact ⟨0, rfl, by omega, B5.out⟩
        case round =>
          obtain ⟨j, rfl, hjm, hS⟩ := hrel
          have AK := Aside0.mk hjm
          have AS2 := Aside0.mk hS
          clear hS
          by_cases hj : j < N
          · have hj0 : (j : Int) < (n2 : Int) := by omega
            have hj0' : decide ((j : Int) < (n2 : Int)) = true := decide_eq_true hj0
            have hj1 : (j : Int) < 40 := by omega
            obtain ⟨hx, adn, rfl, e0⟩ := int_at H2.out (i := j) (by omega)
            have hxv : names.getD j 0 = names[j] := by rw [List.getD_eq_getElem?_getD, List.getElem?_eq_getElem hx]; rfl
            obtain ⟨x, hxx⟩ : ∃ x, names[j] = x := ⟨_, rfl⟩
            rw [hxx] at e0 hxv
            have HX := Aside0.mk hxv
            have HZ := Aside0.mk e0
            have z0 := cell_later AS2.out.toBelow e0
            have HAS := Aside0.mk (askP_snoc names j)
            clear hjm e0 hxx hxv
            go_wp2_with fail
            refine (ask_ AS2.out x (j : Int) (by rw [askP_len]; omega)).mono ?_
            rintro e w6 ⟨rfl, hS6⟩
            have B6 : Aside0 (Sep w w6 [RowR g ((ansO l bad i).drop (j + 1)) (askP names (j + 1))]) := ⟨by
              rw [HAS.out, HX.out, ← List.tail_drop]
              exact hS6⟩
            clear hS6 z0
            by_cases hji : j < i
            · have hjl : (j : Int) < (i : Int) := by omega
              have hjn0 : (j : Int) < (n0 : Int) := by omega
              rw [head_in l bad hji]
              obtain ⟨hu, adl, rfl, f0⟩ := int_at H0.out (i := j) (by omega)
              have huv : l.getD j 0 = l[j] := by rw [List.getD_eq_getElem?_getD, List.getElem?_eq_getElem hu]; rfl
              obtain ⟨u, huu⟩ : ∃ u, l[j] = u := ⟨_, rfl⟩
              rw [huu] at f0 huv
              have y0 := fun q => cell_later (pw_below_drewN B6.out.toBelow q) f0
              clear f0 huu
              by_cases hjb : j < n1
              · obtain ⟨hv, adb, rfl, f1⟩ := bool_at H1.out hjb
                have y1 := fun q => cell_later (pw_below_drewN B6.out.toBelow q) f1
                have hbl : ¬ (n1 : Int) ≤ (j : Int) := by omega
                have hjn1 : (j : Int) < (n1 : Int) := by omega
                have hbn : ¬ n1 ≤ j := by omega
                have hbn' : decide (n1 ≤ j) = false := decide_eq_false hbn
                have hbl' : decide ((n1 : Int) ≤ (j : Int)) = false := decide_eq_false hbl
                have hvv : bad.getD j false = bad[j] := by rw [List.getD_eq_getElem?_getD, List.getElem?_eq_getElem hv]; rfl
                obtain ⟨y, hyy⟩ : ∃ y, bad[j] = y := ⟨_, rfl⟩
                rw [hyy] at y1 hvv
                clear f1 hyy
                cases y
                · rw [show itemO l bad j = some u by unfold itemO; rw [hvv, huv]; rfl]
                  rw [show (some u).getD 0 = u from rfl, show (some u).isSome = true from rfl]
                  clear hvv huv
                  go_wp2_with fail
                  go_quiet (fail)
                  have B6q := Aside0.mk (B6.out.drewN nq)
                  obtain ⟨wz, hwz⟩ : ∃ wz, w6.drewN nq = wz := ⟨_, rfl⟩
                  rw [hwz] at B6q ⊢
                  clear hwz y0
                  go_wp2_with fail
                  refine (asks_ B6q.out (by rw [askP_len]; omega)).mono ?_
                  rintro e w7 ⟨v7, rfl, hS7⟩
                  obtain ⟨A7, c7, rfl⟩ := hS7.rowFN (n := j + 1) (askP_len _ _)
                  obtain ⟨hk, ad7, rfl, k0, k1⟩ := ask_at1 hS7.rowFC.2.2 (i := j) (by omega)
                  rw [askP_at, HX.out] at k0
                  rw [askP_at] at k1
                  have B7 := Aside0.mk hS7.tail
                  have t0 := fun q => cell_later (pw_below_drewN (Below.refl _ _) q) k0
                  have t1 := fun q => cell_later (pw_below_drewN (Below.refl _ _) q) k1
                  have t2 := fun q => cell_later (pw_below_drewN B7.out.toBelow q) HZ.out
                  have hw1 : wrap64 ((j : Int) + 1) = (j : Int) + 1 := IntWalk.wrap64_in _ (by omega)
                  clear hS7 k0 k1 hk
                  go_wp2_with fail
                  go_quiet (fail)
                  go_wp2_with fail
                  go_roundg (gk - 1)
                  case measure => have := AK.out; omega
                  case rel => exact ⟨j + 1, by go_num, by have := AK.out; omega, B7.out.drewN _⟩
                · rw [show itemO l bad j = none by unfold itemO; rw [hvv]; rfl]
                  rw [show (none : Option Int).getD 0 = 0 from rfl, show (none : Option Int).isSome = false from rfl]
                  clear hvv huv
                  go_wp2_with fail
                  go_quiet (fail)
                  have B6q := Aside0.mk (B6.out.drewN nq)
                  obtain ⟨wz, hwz⟩ : ∃ wz, w6.drewN nq = wz := ⟨_, rfl⟩
                  rw [hwz] at B6q ⊢
                  clear hwz y0
                  go_wp2_with fail
                  refine (asks_ B6q.out (by rw [askP_len]; omega)).mono ?_
                  rintro e w7 ⟨v7, rfl, hS7⟩
                  obtain ⟨A7, c7, rfl⟩ := hS7.rowFN (n := j + 1) (askP_len _ _)
                  obtain ⟨hk, ad7, rfl, k0, k1⟩ := ask_at1 hS7.rowFC.2.2 (i := j) (by omega)
                  rw [askP_at, HX.out] at k0
                  rw [askP_at] at k1
                  have B7 := Aside0.mk hS7.tail
                  have t0 := fun q => cell_later (pw_below_drewN (Below.refl _ _) q) k0
                  have t1 := fun q => cell_later (pw_below_drewN (Below.refl _ _) q) k1
                  have t2 := fun q => cell_later (pw_below_drewN B7.out.toBelow q) HZ.out
                  have hw1 : wrap64 ((j : Int) + 1) = (j : Int) + 1 := IntWalk.wrap64_in _ (by omega)
                  clear hS7 k0 k1 hk
                  go_wp2_with fail
                  go_quiet (fail)
                  go_wp2_with fail
                  go_roundg (gk - 1)
                  case measure => have := AK.out; omega
                  case rel => exact ⟨j + 1, by go_num, by have := AK.out; omega, B7.out.drewN _⟩
              · have hbl : (n1 : Int) ≤ (j : Int) := by omega
                have hbl' : decide ((n1 : Int) ≤ (j : Int)) = true := decide_eq_true hbl
                have hvv : bad.getD j false = false := by rw [List.getD_eq_getElem?_getD, List.getElem?_eq_none (by have := H1.out.1; omega)]; rfl
                rw [show itemO l bad j = some u by unfold itemO; rw [hvv, huv]; rfl]
                rw [show (some u).getD 0 = u from rfl, show (some u).isSome = true from rfl]
                clear hvv huv
                go_wp2_with fail
                go_quiet (fail)
                have B6q := Aside0.mk (B6.out.drewN nq)
                obtain ⟨wz, hwz⟩ : ∃ wz, w6.drewN nq = wz := ⟨_, rfl⟩
                rw [hwz] at B6q ⊢
                clear hwz y0
                go_wp2_with fail
                refine (asks_ B6q.out (by rw [askP_len]; omega)).mono ?_
                rintro e w7 ⟨v7, rfl, hS7⟩
                obtain ⟨A7, c7, rfl⟩ := hS7.rowFN (n := j + 1) (askP_len _ _)
                obtain ⟨hk, ad7, rfl, k0, k1⟩ := ask_at1 hS7.rowFC.2.2 (i := j) (by omega)
                rw [askP_at, HX.out] at k0
                rw [askP_at] at k1
                have B7 := Aside0.mk hS7.tail
                have t0 := fun q => cell_later (pw_below_drewN (Below.refl _ _) q) k0
                have t1 := fun q => cell_later (pw_below_drewN (Below.refl _ _) q) k1
                have t2 := fun q => cell_later (pw_below_drewN B7.out.toBelow q) HZ.out
                have hw1 : wrap64 ((j : Int) + 1) = (j : Int) + 1 := IntWalk.wrap64_in _ (by omega)
                clear hS7 k0 k1 hk
                go_wp2_with fail
                go_quiet (fail)
                go_wp2_with fail
                go_roundg (gk - 1)
                case measure => have := AK.out; omega
                case rel => exact ⟨j + 1, by go_num, by have := AK.out; omega, B7.out.drewN _⟩
            · have hjl : ¬ (j : Int) < (i : Int) := by omega
              rw [head_out l bad (by omega)]
              have B6q := B6
              obtain ⟨wz, hwz⟩ : ∃ wz, w6 = wz := ⟨_, rfl⟩
              rw [hwz] at B6q ⊢
              clear hwz
              go_wp2_with fail
              refine (asks_ B6q.out (by rw [askP_len]; omega)).mono ?_
              rintro e w7 ⟨v7, rfl, hS7⟩
              obtain ⟨A7, c7, rfl⟩ := hS7.rowFN (n := j + 1) (askP_len _ _)
              obtain ⟨hk, ad7, rfl, k0, k1⟩ := ask_at1 hS7.rowFC.2.2 (i := j) (by omega)
              rw [askP_at, HX.out] at k0
              rw [askP_at] at k1
              have B7 := Aside0.mk hS7.tail
              have t0 := fun q => cell_later (pw_below_drewN (Below.refl _ _) q) k0
              have t1 := fun q => cell_later (pw_below_drewN (Below.refl _ _) q) k1
              have t2 := fun q => cell_later (pw_below_drewN B7.out.toBelow q) HZ.out
              have hw1 : wrap64 ((j : Int) + 1) = (j : Int) + 1 := IntWalk.wrap64_in _ (by omega)
              clear hS7 k0 k1 hk
              go_wp2_with fail
              go_quiet (fail)
              go_wp2_with fail
              go_roundg (gk - 1)
              case measure => have := AK.out; omega
              case rel => exact ⟨j + 1, by go_num, by have := AK.out; omega, B7.out.drewN _⟩
          · obtain rfl : j = N := by omega
            have hcond : ¬ (j < n2 ∧ j < 40) := by omega
            have hex : ((j : Int) < (n2 : Int)) = False ∨ (((j : Int) < (n2 : Int)) = True ∧ ((j : Int) < 40) = False) := by
              by_cases h : j < n2
              · exact .inr ⟨eq_true (by omega), eq_false (by omega)⟩
              · exact .inl (eq_false (by omega))
            have HEX := Aside0.mk hex
            clear hex hcond hjm AK
            rcases HEX.out with hb3 | ⟨hb3, hb4⟩
            · clear HEX
              go_wp2_with fail
              refine (known_ _).mono ?_
              rintro e w8 ⟨rfl, hb8⟩
              go_wp2_with fail
              go_ret
              exact ⟨by first | rfl | (simp; done), (AS2.out.below hb8).toBelow⟩
            · clear HEX
              go_wp2_with fail
              refine (known_ _).mono ?_
              rintro e w8 ⟨rfl, hb8⟩
              go_wp2_with fail
              go_ret
              exact ⟨by first | rfl | (simp; done), (AS2.out.below hb8).toBelow⟩
      · clear HEX
        go_wp2_with fail
        refine (new_ AS.out.rowC' AS.out.rowC.2.1 (ofs_items l bad i) (by omega)).mono ?_
        rintro e w5 ⟨g, rfl, hS5⟩
        rw [List.take_of_length_le (by rw [itemsO_len]; omega)] at hS5
        have B5 : Aside0 (Sep w w5 [RowR g ((ansO l bad i).drop 0) (askP names 0)]) := ⟨Sep.weakR (L := [_]) (AS.out.lift1 hS5)⟩
        clear hS5 hb1
        go_wp2_with fail
        go_loopg [10] N (fun m p wq => ∃ j : Nat, p = .int .i64 (j : Int) ∧ j + m = N ∧ Sep w wq [RowR g ((ansO l bad i).drop j) (askP names j)])
        case atStart => exact ⟨0, rfl, by omega, B5.out⟩
        case round =>
          obtain ⟨j, rfl, hjm, hS⟩ := hrel
          have AK := Aside0.mk hjm
          have AS2 := Aside0.mk hS
          clear hS
          by_cases hj : j < N
          · have hj0 : (j : Int) < (n2 : Int) := by omega
            have hj0' : decide ((j : Int) < (n2 : Int)) = true := decide_eq_true hj0
            have hj1 : (j : Int) < 40 := by omega
            obtain ⟨hx, adn, rfl, e0⟩ := int_at H2.out (i := j) (by omega)
            have hxv : names.getD j 0 = names[j] := by rw [List.getD_eq_getElem?_getD, List.getElem?_eq_getElem hx]; rfl
            obtain ⟨x, hxx⟩ : ∃ x, names[j] = x := ⟨_, rfl⟩
            rw [hxx] at e0 hxv
            have HX := Aside0.mk hxv
            have HZ := Aside0.mk e0
            have z0 := cell_later AS2.out.toBelow e0
            have HAS := Aside0.mk (askP_snoc names j)
            clear hjm e0 hxx hxv
            go_wp2_with fail
            refine (ask_ AS2.out x (j : Int) (by rw [askP_len]; omega)).mono ?_
            rintro e w6 ⟨rfl, hS6⟩
            have B6 : Aside0 (Sep w w6 [RowR g ((ansO l bad i).drop (j + 1)) (askP names (j + 1))]) := ⟨by
              rw [HAS.out, HX.out, ← List.tail_drop]
              exact hS6⟩
            clear hS6 z0
            by_cases hji : j < i
            · have hjl : (j : Int) < (i : Int) := by omega
              have hjn0 : (j : Int) < (n0 : Int) := by omega
              rw [head_in l bad hji]
              obtain ⟨hu, adl, rfl, f0⟩ := int_at H0.out (i := j) (by omega)
              have huv : l.getD j 0 = l[j] := by rw [List.getD_eq_getElem?_getD, List.getElem?_eq_getElem hu]; rfl
              obtain ⟨u, huu⟩ : ∃ u, l[j] = u := ⟨_, rfl⟩
              rw [huu] at f0 huv
              have y0 := fun q => cell_later (pw_below_drewN B6.out.toBelow q) f0
              clear f0 huu
              by_cases hjb : j < n1
              · obtain ⟨hv, adb, rfl, f1⟩ := bool_at H1.out hjb
                have y1 := fun q => cell_later (pw_below_drewN B6.out.toBelow q) f1
                have hbl : ¬ (n1 : Int) ≤ (j : Int) := by omega
                have hjn1 : (j : Int) < (n1 : Int) := by omega
                have hbn : ¬ n1 ≤ j := by omega
                have hbn' : decide (n1 ≤ j) = false := decide_eq_false hbn
                have hbl' : decide ((n1 : Int) ≤ (j : Int)) = false := decide_eq_false hbl
                have hvv : bad.getD j false = bad[j] := by rw [List.getD_eq_getElem?_getD, List.getElem?_eq_getElem hv]; rfl
                obtain ⟨y, hyy⟩ : ∃ y, bad[j] = y := ⟨_, rfl⟩
                rw [hyy] at y1 hvv
                clear f1 hyy
                cases y
                · rw [show itemO l bad j = some u by unfold itemO; rw [hvv, huv]; rfl]
                  rw [show (some u).getD 0 = u from rfl, show (some u).isSome = true from rfl]
                  clear hvv huv
                  go_wp2_with fail
                  go_quiet (fail)
                  have B6q := Aside0.mk (B6.out.drewN nq)
                  obtain ⟨wz, hwz⟩ : ∃ wz, w6.drewN nq = wz := ⟨_, rfl⟩
                  rw [hwz] at B6q ⊢
                  clear hwz y0
                  go_wp2_with fail
                  refine (asks_ B6q.out (by rw [askP_len]; omega)).mono ?_
                  rintro e w7 ⟨v7, rfl, hS7⟩
                  obtain ⟨A7, c7, rfl⟩ := hS7.rowFN (n := j + 1) (askP_len _ _)
                  obtain ⟨hk, ad7, rfl, k0, k1⟩ := ask_at1 hS7.rowFC.2.2 (i := j) (by omega)
                  rw [askP_at, HX.out] at k0
                  rw [askP_at] at k1
                  have B7 := Aside0.mk hS7.tail
                  have t0 := fun q => cell_later (pw_below_drewN (Below.refl _ _) q) k0
                  have t1 := fun q => cell_later (pw_below_drewN (Below.refl _ _) q) k1
                  have t2 := fun q => cell_later (pw_below_drewN B7.out.toBelow q) HZ.out
                  have hw1 : wrap64 ((j : Int) + 1) = (j : Int) + 1 := IntWalk.wrap64_in _ (by omega)
                  clear hS7 k0 k1 hk
                  go_wp2_with fail
                  go_quiet (fail)
                  go_wp2_with fail
                  go_roundg (gk - 1)
                  case measure => have := AK.out; omega
                  case rel => exact ⟨j + 1, by go_num, by have := AK.out; omega, B7.out.drewN _⟩
                · rw [show itemO l bad j = none by unfold itemO; rw [hvv]; rfl]
                  rw [show (none : Option Int).getD 0 = 0 from rfl, show (none : Option Int).isSome = false from rfl]
                  clear hvv huv
                  go_wp2_with fail
                  go_quiet (fail)
                  have B6q := Aside0.mk (B6.out.drewN nq)
                  obtain ⟨wz, hwz⟩ : ∃ wz, w6.drewN nq = wz := ⟨_, rfl⟩
                  rw [hwz] at B6q ⊢
                  clear hwz y0
                  go_wp2_with fail
                  refine (asks_ B6q.out (by rw [askP_len]; omega)).mono ?_
                  rintro e w7 ⟨v7, rfl, hS7⟩
                  obtain ⟨A7, c7, rfl⟩ := hS7.rowFN (n := j + 1) (askP_len _ _)
                  obtain ⟨hk, ad7, rfl, k0, k1⟩ := ask_at1 hS7.rowFC.2.2 (i := j) (by omega)
                  rw [askP_at, HX.out] at k0
                  rw [askP_at] at k1
                  have B7 := Aside0.mk hS7.tail
                  have t0 := fun q => cell_later (pw_below_drewN (Below.refl _ _) q) k0
                  have t1 := fun q => cell_later (pw_below_drewN (Below.refl _ _) q) k1
                  have t2 := fun q => cell_later (pw_below_drewN B7.out.toBelow q) HZ.out
                  have hw1 : wrap64 ((j : Int) + 1) = (j : Int) + 1 := IntWalk.wrap64_in _ (by omega)
                  clear hS7 k0 k1 hk
                  go_wp2_with fail
                  go_quiet (fail)
                  go_wp2_with fail
                  go_roundg (gk - 1)
                  case measure => have := AK.out; omega
                  case rel => exact ⟨j + 1, by go_num, by have := AK.out; omega, B7.out.drewN _⟩
              · have hbl : (n1 : Int) ≤ (j : Int) := by omega
                have hbl' : decide ((n1 : Int) ≤ (j : Int)) = true := decide_eq_true hbl
                have hvv : bad.getD j false = false := by rw [List.getD_eq_getElem?_getD, List.getElem?_eq_none (by have := H1.out.1; omega)]; rfl
                rw [show itemO l bad j = some u by unfold itemO; rw [hvv, huv]; rfl]
                rw [show (some u).getD 0 = u from rfl, show (some u).isSome = true from rfl]
                clear hvv huv
                go_wp2_with fail
                go_quiet (fail)
                have B6q := Aside0.mk (B6.out.drewN nq)
                obtain ⟨wz, hwz⟩ : ∃ wz, w6.drewN nq = wz := ⟨_, rfl⟩
                rw [hwz] at B6q ⊢
                clear hwz y0
                go_wp2_with fail
                refine (asks_ B6q.out (by rw [askP_len]; omega)).mono ?_
                rintro e w7 ⟨v7, rfl, hS7⟩
                obtain ⟨A7, c7, rfl⟩ := hS7.rowFN (n := j + 1) (askP_len _ _)
                obtain ⟨hk, ad7, rfl, k0, k1⟩ := ask_at1 hS7.rowFC.2.2 (i := j) (by omega)
                rw [askP_at, HX.out] at k0
                rw [askP_at] at k1
                have B7 := Aside0.mk hS7.tail
                have t0 := fun q => cell_later (pw_below_drewN (Below.refl _ _) q) k0
                have t1 := fun q => cell_later (pw_below_drewN (Below.refl _ _) q) k1
                have t2 := fun q => cell_later (pw_below_drewN B7.out.toBelow q) HZ.out
                have hw1 : wrap64 ((j : Int) + 1) = (j : Int) + 1 := IntWalk.wrap64_in _ (by omega)
                clear hS7 k0 k1 hk
                go_wp2_with fail
                go_quiet (fail)
                go_wp2_with fail
                go_roundg (gk - 1)
                case measure => have := AK.out; omega
                case rel => exact ⟨j + 1, by go_num, by have := AK.out; omega, B7.out.drewN _⟩
            · have hjl : ¬ (j : Int) < (i : Int) := by omega
              rw [head_out l bad (by omega)]
              have B6q := B6
              obtain ⟨wz, hwz⟩ : ∃ wz, w6 = wz := ⟨_, rfl⟩
              rw [hwz] at B6q ⊢
              clear hwz
              go_wp2_with fail
              refine (asks_ B6q.out (by rw [askP_len]; omega)).mono ?_
              rintro e w7 ⟨v7, rfl, hS7⟩
              obtain ⟨A7, c7, rfl⟩ := hS7.rowFN (n := j + 1) (askP_len _ _)
              obtain ⟨hk, ad7, rfl, k0, k1⟩ := ask_at1 hS7.rowFC.2.2 (i := j) (by omega)
              rw [askP_at, HX.out] at k0
              rw [askP_at] at k1
              have B7 := Aside0.mk hS7.tail
              have t0 := fun q => cell_later (pw_below_drewN (Below.refl _ _) q) k0
              have t1 := fun q => cell_later (pw_below_drewN (Below.refl _ _) q) k1
              have t2 := fun q => cell_later (pw_below_drewN B7.out.toBelow q) HZ.out
              have hw1 : wrap64 ((j : Int) + 1) = (j : Int) + 1 := IntWalk.wrap64_in _ (by omega)
              clear hS7 k0 k1 hk
              go_wp2_with fail
              go_quiet (fail)
              go_wp2_with fail
              go_roundg (gk - 1)
              case measure => have := AK.out; omega
              case rel => exact ⟨j + 1, by go_num, by have := AK.out; omega, B7.out.drewN _⟩
          · obtain rfl : j = N := by omega
            have hcond : ¬ (j < n2 ∧ j < 40) := by omega
            have hex : ((j : Int) < (n2 : Int)) = False ∨ (((j : Int) < (n2 : Int)) = True ∧ ((j : Int) < 40) = False) := by
              by_cases h : j < n2
              · exact .inr ⟨eq_true (by omega), eq_false (by omega)⟩
              · exact .inl (eq_false (by omega))
            have HEX := Aside0.mk hex
            clear hex hcond hjm AK
            rcases HEX.out with hb3 | ⟨hb3, hb4⟩
            · clear HEX
              go_wp2_with fail
              refine (known_ _).mono ?_
              rintro e w8 ⟨rfl, hb8⟩
              go_wp2_with fail
              go_ret
              exact ⟨by first | rfl | (simp; done), (AS2.out.below hb8).toBelow⟩
            · clear HEX
              go_wp2_with fail
              refine (known_ _).mono ?_
              rintro e w8 ⟨rfl, hb8⟩
              go_wp2_with fail
              go_ret
              exact ⟨by first | rfl | (simp; done), (AS2.out.below hb8).toBelow⟩
end Go.Proofs.Ytfpkhlhojjmgiaa.Reply
