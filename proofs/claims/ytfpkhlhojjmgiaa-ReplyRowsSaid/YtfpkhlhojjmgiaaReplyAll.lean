/- ReplyAll: the walk. -/
import Derived.Test.YtfpkhlhojjmgiaaReply8
import Derived.Test.YtfpkhlhojjmgiaaBook
import Derived.Deep.Cut
import Derived.Deep.CutRange
namespace Go.Proofs.Ytfpkhlhojjmgiaa.Reply
set_option linter.unusedVariables false
set_option linter.unusedSimpArgs false
open Go.RowKit Go.Proofs.YtfpkhlhojjmgiaaW.PrintWords Go.Proofs.YtfpkhlhojjmgiaaW.PrintLast Go.Proofs.YtfpkhlhojjmgiaaW.PrintMore Go.Proofs.Ytfpkhlhojjmgiaa.Kit
theorem infoA : (Try.prog.info? 20).map (fun i => (i.zero, i.size, i.bytes)) = some (some .nilIface, 1, 16) := by kernel_rfl
def vals (s : ByteArray) (l : List Int) : List OV := vStr s :: vBool true :: l.map vInt64
def nums (s : ByteArray) (l : List Int) : List Int := runesF s :: 1 :: l
def outs (s : ByteArray) (l : List Int) : List (Option Int) := (nums s l).map some
theorem ofs_vals (s : ByteArray) (l : List Int) : OfsAll (vals s l) (outs s l) := by
  refine .cons (of_string s) (.cons (of_bool true) ?_)
  induction l with
  | nil => exact .nil
  | cons x r ih => exact .cons (of_int64 x) ih
theorem allF_some (l : List Int) : allF (l.map some) = some l := by
  unfold allF
  rw [if_pos (by rw [List.all_map]; exact List.all_eq_true.2 (fun _ _ => rfl)), List.map_map]
  congr 1
  exact List.map_id' l
theorem allF_none {rs : List (Option Int)} {k : Nat} (hk : k < rs.length) : allF (rs.set k none) = none := by
  unfold allF
  rw [if_neg]
  intro h
  have := List.all_eq_true.1 h none (List.mem_of_getElem? (List.getElem?_set_self hk))
  cases this
theorem vals_len (s : ByteArray) (l : List Int) : (vals s l).length = l.length + 2 := by simp [vals]
theorem nums_len (s : ByteArray) (l : List Int) : (nums s l).length = l.length + 2 := by simp [nums]
theorem int_at {e : IntKind} {W : World} {A : Option Addr} {n : Nat} {l : List Int} (h : (Kd.int e).C W A n l) {i : Nat} (hi : i < n) : ∃ (hx : i < l.length) (ad : Addr), A = some ad ∧ W.cell? (ad.add i) = some (.int e l[i]) := by
  obtain ⟨hx, a, cs, he, hk, hc0, _⟩ := elem_ h hi
  have hk : cs = [.int e l[i]] := hk
  subst hk
  have := hc0 _ rfl
  rw [show i * (Kd.int e).sz = i from Nat.mul_one i] at this
  exact ⟨hx, a, he, this⟩
set_option maxHeartbeats 3200000 in
set_option maxRecDepth 100000 in
theorem replyAll_ {A0 : Option Addr} {n0 c0 : Nat} {l0 : List Int} {s : ByteArray} {at_ : Int} {w : World} (h0 : L64.C w A0 n0 l0) (hc0 : n0 ≤ c0) :
    Calls Try.prog 8 #[.slice A0 n0 c0, .string s, .int .i64 at_] w fun e w' => e = .returned (.bool true) ∧ Below w.heap.size w w' := by
  have H0 := Aside0.mk (And.intro h0 hc0)
  have hm := h0.2.1
  clear h0
  go_enter Try.func8, Try.ntmps8
  go_upto_if 19 with fail
  go_cut [0] from 17 to 112 (fun v wx => wx = w ∧ ∃ n c l, v = .slice A0 n c ∧ n ≤ 20 ∧ L64.C w A0 n l)
  case first =>
    by_cases h3 : 20 < n0
    · have h3' : 20 < (n0 : Int) := by omega
      have hcut := cutHi (z := .int .i64 0) (bytes := 8) Try.underlying44 infoL A0 n0 c0 20 (K := 20) rfl (by omega) hc0
      have HT := Aside0.mk (C_hi (b := 20) H0.out.1 (by omega) hc0)
      go_wp2_with fail
      go_meet
      case rel => exact ⟨rfl, 20, c0, _, rfl, Nat.le_refl _, HT.out⟩
    · have h3' : ¬ 20 < (n0 : Int) := by omega
      go_wp2_with fail
      go_meet
      case rel => exact ⟨rfl, n0, c0, l0, rfl, by omega, H0.out.1⟩
  case rest =>
    obtain ⟨rfl, n, c, l, rfl, hn20, hC⟩ := hcut
    obtain rfl : l.length = n := hC.1
    have H1 := Aside0.mk hC
    have A1 : Aside0 (Sep wc _ [Row KV 20 _ (vals s [])]) := ⟨(Sep.start wc).litRow (enc := fun x : OV => x.1) (h1 := fun x => x.2) (e := 20) (vals s []) (by simp [vals])⟩
    clear hC
    go_wp2_with fail
    go_loopg [7, 28] l.length (fun m v p wr => ∃ j : Nat, p = .int .i64 (j : Int) ∧ j + m = l.length ∧ Sep wc wr [Row KV 20 v (vals s (l.take j))])
    case atStart => exact ⟨0, rfl, by omega, A1.out⟩
    case round =>
      obtain ⟨j, rfl, hjm, hS⟩ := hrel
      have AK := Aside0.mk hjm
      by_cases hj : j < l.length
      · obtain ⟨A3, c3, rfl⟩ := hS.rowN (n := j + 2) (by rw [vals_len, List.length_take]; omega)
        obtain ⟨hx, ad, rfl, e0⟩ := int_at H1.out hj
        have z0 := cell_later hS.toBelow e0
        have HT : Aside0 (vals s (l.take (j + 1)) = vals s (l.take j) ++ [vInt64 l[j]]) := ⟨by
          rw [show l.take (j + 1) = l.take j ++ [l[j]] by rw [List.take_add_one, List.getElem?_eq_getElem hx]; rfl]
          simp only [vals, List.map_append, List.map_cons, List.map_nil, List.cons_append]⟩
        have HVL : Aside0 ((vals s (l.take j)).length = j + 2) := ⟨by rw [vals_len, List.length_take]; omega⟩
        generalize l[j] = x at *
        have L2 := Aside0.mk (hS.litRow (enc := fun x : OV => x.1) (h1 := fun x => x.2) (e := 20) [vInt64 x] (by simp)).at2
        have hjl : (j : Int) < (l.length : Int) := by omega
        clear hS e0 hjm
        go_wp2_with (first | (refine gate_builtin (b := .append) (xs := #[.tmp 31, .tmp 37]) rfl ?_; go_loud (refine L2.out.appendRow rfl (.tmp 31) (.tmp 37) 46 .nilIface 16 rfl Try.underlying46 infoA rfl (by decide) (some ⟨wr.heap.size, 0, none⟩) 1 1 rfl rfl L2.out.at2.rowC' (by rw [HVL.out]; simp; omega) ?_; intro v4 w4 hS4; have A4 := Aside0.mk hS4.drop2; clear hS4)))
        go_roundg (gk - 1)
        case measure => have := AK.out; omega
        case rel => exact ⟨j + 1, by go_num, by have := AK.out; omega, by rw [HT.out]; exact A4.out⟩
      · have hjn : j = l.length := by omega
        rw [hjn, List.take_length] at hS
        obtain ⟨A3, c3, rfl⟩ := hS.rowN (n := l.length + 2) (vals_len s l)
        have AS := Aside0.mk hS
        subst hjn
        clear hS hjm AK hj
        go_wp2_with fail
        refine (all_ (rs := outs s l) AS.out.rowC' (ofs_vals s l) (by omega)).mono ?_
        rintro e w5 ⟨v5, rfl, hS5⟩
        rw [show allF (outs s l) = some (nums s l) from allF_some _] at hS5 ⊢
        obtain ⟨A5, c5, rfl⟩ := hS5.rowN (n := l.length + 2) (nums_len s l)
        have B5 : Aside0 (Sep wc w5 [Row L64 2 (.slice A5 (l.length + 2) c5) (nums s l), Row KV 20 (.slice A3 (l.length + 2) c3) (vals s l)]) := ⟨AS.out.lift1 hS5⟩
        clear hS5 AS
        rw [show (some (nums s l)).isSome = true from rfl]
        obtain ⟨N, hN⟩ : ∃ N, l.length + 2 = N := ⟨_, rfl⟩
        have hN2 : 2 ≤ N ∧ N ≤ 22 := by omega
        have HVL : Aside0 ((vals s l).length = N ∧ (nums s l).length = N) := ⟨by rw [vals_len, nums_len]; exact ⟨hN, hN⟩⟩
        rw [hN] at B5 ⊢
        clear hN
        go_wp2_with fail
        go_loopg [56] N (fun m p wr => ∃ j : Nat, p = .int .i64 (j : Int) ∧ j + m = N ∧ Sep wc wr [Row L64 2 (.slice A5 N c5) (nums s l), Row KV 20 (.slice A3 N c3) (vals s l)])
        case atStart => exact ⟨0, rfl, by omega, B5.out⟩
        case round =>
          obtain ⟨j, rfl, hjm, hS⟩ := hrel
          have AK := Aside0.mk hjm
          by_cases hj : j < N
          · obtain ⟨hx, ad, hA, e0⟩ := elemV hS.at2.rowC' hj
            obtain ⟨hy, bd, hB, e1⟩ := int_at hS.rowC' hj
            subst hA hB
            have hof := (ofs_vals s l).2 j _ _ (List.getElem?_eq_getElem hx) (by unfold outs; rw [List.getElem?_map, List.getElem?_eq_getElem hy]; rfl)
            have AS := Aside0.mk hS
            generalize (nums s l)[j] = y at *
            obtain ⟨x, hxv⟩ : ∃ x, ((vals s l)[j]).1 = x := ⟨_, rfl⟩
            rw [hxv] at e0 hof
            have HF := Aside0.mk hof
            have hjl : (j : Int) < (N : Int) := by omega
            clear hS hof hxv hjm
            go_wp2_with fail
            refine (HF.out _).mono ?_
            rintro e w6 ⟨rfl, hb⟩
            rw [show (some y).getD 0 = y from rfl, show (some y).isSome = true from rfl]
            have B6 := Aside0.mk (AS.out.below hb)
            have e2 := cell_later hb e0
            have e3 := cell_later hb e1
            have hyy : (y != y) = false := by simp
            clear hb e0 e1
            go_wp2_with fail
            refine (must_ HF.out _).mono ?_
            rintro e w7 ⟨rfl, hb⟩
            rw [show (some y).getD (-1) = y from rfl]
            have B7 := Aside0.mk (B6.out.below hb)
            clear hb
            go_wp2_with fail
            go_roundg (gk - 1)
            case measure => have := AK.out; omega
            case rel => exact ⟨j + 1, by go_num, by have := AK.out; omega, B7.out⟩
          · have AS := Aside0.mk hS.at2
            have hjN : ¬ (j : Int) < (N : Int) := by omega
            clear hS hjm AK hj
            have hin := Book.withinF_in (n := at_) (lo := 0) (hi := (N : Int) - 1) (by omega)
            obtain ⟨k, hk⟩ := Int.eq_ofNat_of_zero_le hin.1
            have hkN : k < N := by omega
            have HK := Aside0.mk hk
            have hws : wrap64 ((N : Int) - 1) = (N : Int) - 1 := IntWalk.wrap64_in _ (by omega)
            clear hin hk
            go_wp2_with fail
            refine (Book.within_ at_ 0 ((N : Int) - 1) _ (by decide) (by omega) (by omega)).mono ?_
            rintro e w6 ⟨rfl, rfl⟩
            rw [HK.out]
            obtain ⟨g, cg, hgv⟩ := AS.out.rowFormN HVL.out.1 (by omega)
            cases hgv
            obtain ⟨f1, f2⟩ := AS.out.rowCell (enc := fun x : OV => x.1) vNil k hkN
            have A7 := Aside0.mk (AS.out.putRow (enc := fun x : OV => x.1) k ⟨.iface 56 (.agg #[.int .i64 (k : Int)]), rfl⟩)
            have hkl : (k : Int) < (N : Int) := by omega
            obtain ⟨u, hu⟩ : ∃ u, ((vals s l).getD k vNil).1 = u := ⟨_, rfl⟩
            rw [hu] at f1
            clear hu
            go_wp2_with fail
            refine (all_ (rs := (outs s l).set k none) A7.out.rowC' ((ofs_vals s l).set k (of_type (by decide))) (by omega)).mono ?_
            rintro e w8 ⟨v8, rfl, hS8⟩
            rw [allF_none (by unfold outs; rw [List.length_map, HVL.out.2]; exact hkN)] at hS8 ⊢
            obtain ⟨A8, c8, rfl⟩ := hS8.rowN (n := 0) rfl
            have B8 := Aside0.mk (A7.out.lift1 hS8)
            clear hS8
            go_wp2_with fail
            refine (known_ _).mono ?_
            rintro e w9 ⟨rfl, hb9⟩
            go_wp2_with fail
            go_ret
            exact ⟨by first | rfl | (simp; done), (B8.out.below hb9).toBelow⟩
end Go.Proofs.Ytfpkhlhojjmgiaa.Reply
