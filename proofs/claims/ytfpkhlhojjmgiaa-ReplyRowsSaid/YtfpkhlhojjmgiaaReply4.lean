/- Package reply: the numbers of many values. -/
import Derived.Test.YtfpkhlhojjmgiaaReply3
import Derived.Test.YtfpkhlhojjmgiaaRowV
import Derived.Test.YtfpkhlhojjmgiaaDeep
import Derived.Test.YtfpkhlhojjmgiaaCutsAny
import Derived.Test.YtfpkhlhojjmgiaaElem
namespace Go.Proofs.Ytfpkhlhojjmgiaa.Reply
set_option linter.unusedVariables false
set_option linter.unusedSimpArgs false
open Go.RowKit Go.Proofs.YtfpkhlhojjmgiaaW.PrintWords Go.Proofs.YtfpkhlhojjmgiaaW.PrintLast Go.Proofs.YtfpkhlhojjmgiaaW.PrintMore Go.Proofs.Ytfpkhlhojjmgiaa.Kit
abbrev L64 : Kd Int := Kd.int .i64
theorem infoL : (Try.prog.info? 2).map (fun i => (i.zero, i.size, i.bytes)) = some (some (.int .i64 0), 1, 8) := by kernel_rfl
/-- The values of a row, and what Of says of each. -/
def OfsAll (cs : List OV) (rs : List (Option Int)) : Prop := cs.length = rs.length ∧ ∀ (i : Nat) (c : OV) (r : Option Int), cs[i]? = some c → rs[i]? = some r → Ofs c.1 r
theorem OfsAll.nil : OfsAll [] [] := ⟨rfl, fun i c r h => by simp at h⟩
theorem OfsAll.cons {c : OV} {r : Option Int} {cs : List OV} {rs : List (Option Int)} (h1 : Ofs c.1 r) (h : OfsAll cs rs) : OfsAll (c :: cs) (r :: rs) := by
  refine ⟨by simp [h.1], fun i x y hx hy => ?_⟩
  cases i with
  | zero => simp at hx hy; subst hx hy; exact h1
  | succ i => simp at hx hy; exact h.2 i x y hx hy
theorem OfsAll.snoc {c : OV} {r : Option Int} {cs : List OV} {rs : List (Option Int)} (h : OfsAll cs rs) (h1 : Ofs c.1 r) : OfsAll (cs ++ [c]) (rs ++ [r]) := by
  refine ⟨by simp [h.1], fun i x y hx hy => ?_⟩
  by_cases hi : i < cs.length
  · rw [List.getElem?_append_left hi] at hx
    rw [List.getElem?_append_left (by rw [← h.1]; exact hi)] at hy
    exact h.2 i x y hx hy
  · rw [List.getElem?_append_right (by omega)] at hx
    rw [List.getElem?_append_right (by have := h.1; omega)] at hy
    have h0 : i - cs.length = 0 := by
      rcases Nat.eq_zero_or_pos (i - cs.length) with h0 | h0
      · exact h0
      · rw [List.getElem?_eq_none (by simp; omega)] at hx; cases hx
    rw [h0] at hx
    rw [show i - rs.length = 0 by have := h.1; omega] at hy
    simp at hx hy
    subst hx hy
    exact h1
theorem OfsAll.set {c : OV} {r : Option Int} {cs : List OV} {rs : List (Option Int)} (h : OfsAll cs rs) (k : Nat) (h1 : Ofs c.1 r) : OfsAll (cs.set k c) (rs.set k r) := by
  refine ⟨by simp [h.1], fun i x y hx hy => ?_⟩
  by_cases hi : k = i
  · subst hi
    rw [List.getElem?_set] at hx hy
    simp only [if_true] at hx hy
    split at hx
    · split at hy
      · cases hx; cases hy; exact h1
      · cases hy
    · cases hx
  · rw [List.getElem?_set_ne hi] at hx hy
    exact h.2 i x y hx hy
theorem OfsAll.take {cs : List OV} {rs : List (Option Int)} (h : OfsAll cs rs) (k : Nat) : OfsAll (cs.take k) (rs.take k) := by
  refine ⟨by simp [h.1], fun i x y hx hy => ?_⟩
  rw [List.getElem?_take] at hx hy
  split at hx
  · rename_i hi
    rw [if_pos hi] at hy
    exact h.2 i x y hx hy
  · cases hx
def allF (rs : List (Option Int)) : Option (List Int) := if rs.all Option.isSome then some (rs.map (·.getD 0)) else none
theorem elemV {W : World} {A : Option Addr} {n : Nat} {cs : List OV} (h : KV.C W A n cs) {i : Nat} (hi : i < n) :
    ∃ (hx : i < cs.length) (a : Addr), A = some a ∧ W.cell? (a.add i) = some (cs[i]).1 := by
  obtain ⟨hx, a, l, e, hk, hc0, _⟩ := elem_ h hi
  have hk : l = [(cs[i]).1] := hk
  subst hk
  have := hc0 _ rfl
  rw [show i * KV.sz = i from Nat.mul_one i] at this
  exact ⟨hx, a, e, this⟩
set_option maxHeartbeats 1600000 in
set_option maxRecDepth 100000 in
theorem all_ {A : Option Addr} {n c : Nat} {cs : List OV} {rs : List (Option Int)} {w : World} (hr : KV.C w A n cs) (hO : OfsAll cs rs) (hn : n ≤ 100000) :
    Calls Try.prog 26 #[.slice A n c] w fun e w' => ∃ v, e = .returned (.tuple #[v, .bool (allF rs).isSome]) ∧ Sep w w' [Row L64 2 v ((allF rs).getD [])] := by
  obtain rfl : cs.length = n := hr.1
  have HR := Aside0.mk hr
  have HO := Aside0.mk hO
  have A0 := Aside0.mk ((Sep.start w).nilRow L64 2)
  clear hr hO
  go_enter Try.func26, Try.ntmps26
  go_wp2_with fail
  go_loopg [4, 11] cs.length (fun m v s wr => ∃ j : Nat, s = .int .i64 (j : Int) ∧ j + m = cs.length ∧ (rs.take j).all Option.isSome = true ∧ Sep w wr [Row L64 2 v ((rs.take j).map (·.getD 0))])
  case atStart => exact ⟨0, rfl, by omega, rfl, A0.out⟩
  case round =>
    obtain ⟨j, rfl, hjm, hall, hS⟩ := hrel
    have AK := Aside0.mk hjm
    have HA := Aside0.mk hall
    have hrl := HO.out.1
    by_cases hj : j < cs.length
    · obtain ⟨A3, c3, rfl⟩ := hS.rowN (n := j) (by rw [List.length_map, List.length_take]; omega)
      obtain ⟨hx, ad, rfl, e0⟩ := elemV HR.out hj
      have hjr : j < rs.length := by omega
      have hof := HO.out.2 j _ _ (List.getElem?_eq_getElem hx) (List.getElem?_eq_getElem hjr)
      have htk : rs.take (j + 1) = rs.take j ++ [rs[j]] := by rw [List.take_add_one, List.getElem?_eq_getElem hjr]; rfl
      obtain ⟨r, hr2⟩ : ∃ r, rs[j] = r := ⟨_, rfl⟩
      rw [hr2] at hof htk
      have HT := Aside0.mk htk
      have HR2 : Aside0 (rs[j]? = some r) := ⟨by rw [List.getElem?_eq_getElem hjr, hr2]⟩
      have AS := Aside0.mk hS
      have z0 := cell_later hS.toBelow e0
      obtain ⟨x, hxv⟩ : ∃ x, (cs[j]).1 = x := ⟨_, rfl⟩
      rw [hxv] at z0 hof
      have HF := Aside0.mk hof
      have hjl : (j : Int) < (cs.length : Int) := by omega
      clear hS e0 hof htk hxv hjm hall hrl hr2
      go_wp2_with fail
      refine (HF.out _).mono ?_
      rintro e w2 ⟨rfl, hb⟩
      cases r with
      | none =>
        have HN : Aside0 (allF rs = none) := ⟨by
          unfold allF
          rw [if_neg]
          intro h
          have := List.all_eq_true.1 h none (List.mem_of_getElem? HR2.out)
          cases this⟩
        have B2 := Aside0.mk ((AS.out.below hb).tail.nilRow L64 2)
        clear hb
        go_wp2_with fail
        go_ret2
        exact ⟨_, by rw [HN.out]; first | rfl | (simp; done), by rw [HN.out]; exact B2.out⟩
      | some k =>
        have L2 := Aside0.mk ((AS.out.below hb).litRow (enc := Value.int .i64) (h1 := fun _ => rfl) (e := 2) [k] (by simp)).at2
        have hkk : (some k).getD 0 = k := rfl
        clear hb
        go_wp2_with (first | (refine gate_builtin (b := .append) (xs := #[.tmp 22, .tmp 24]) rfl ?_; go_loud (refine L2.out.appendRow rfl (.tmp 22) (.tmp 24) 44 (.int .i64 0) 8 rfl Try.underlying44 infoL rfl (by decide) (some ⟨w2.heap.size, 0, none⟩) 1 1 rfl rfl L2.out.at2.rowC' (by rw [List.length_map, List.length_take]; simp; omega) ?_; intro v3 w3 hS3; have A3' := Aside0.mk hS3.drop2; clear hS3)))
        go_roundg (gk - 1)
        case measure => have := AK.out; omega
        case rel => exact ⟨j + 1, by go_num, by have := AK.out; omega, by rw [HT.out, List.all_append, HA.out]; rfl, by rw [HT.out, List.map_append]; exact A3'.out⟩
    · obtain rfl : cs.length = j := by omega
      have HN : Aside0 (allF rs = some (rs.map (·.getD 0))) := ⟨by
        unfold allF
        rw [hrl, List.take_length] at hall
        rw [if_pos hall]⟩
      rw [hrl, List.take_length] at hS
      have AS := Aside0.mk hS
      clear hS hall HA hrl hjm AK
      go_wp2_with fail
      go_ret2
      exact ⟨_, by rw [HN.out]; first | rfl | (simp; done), by rw [HN.out]; exact AS.out⟩
end Go.Proofs.Ytfpkhlhojjmgiaa.Reply
