/- ShadeBack: the plain law. -/
import Derived.Test.YtfpkhlhojjmgiaaShade5
import Derived.Test.YtfpkhlhojjmgiaaShadeNone
namespace Go.Proofs.Ytfpkhlhojjmgiaa.Shade
set_option linter.unusedVariables false
set_option linter.unusedSimpArgs false
open Go.RowKit Go.Proofs.YtfpkhlhojjmgiaaW.PrintWords Go.Proofs.YtfpkhlhojjmgiaaW.PrintLast Go.Proofs.YtfpkhlhojjmgiaaW.PrintMore Go.Proofs.Ytfpkhlhojjmgiaa.Kit Go.Proofs.Ytfpkhlhojjmgiaa.Base Go.Proofs.Ytfpkhlhojjmgiaa.Plain Go.Proofs.Ytfpkhlhojjmgiaa.Cells
def pg (b : List Int) (i : Nat) : List Int := (b.drop (64 * i)).take 64
def pagesOf (b : List Int) (m : Nat) : List (List Int) := (List.range m).map (pg b)
theorem pagesOf_snoc (b : List Int) (m : Nat) : pagesOf b (m + 1) = pagesOf b m ++ [pg b m] := by unfold pagesOf; rw [List.range_succ, List.map_append]; rfl
def endF (b q : List Int) (n i : Nat) : List Int := if i < n then pageF q i else pg b i
theorem pageF_pg {q : List Int} {i : Nat} (h : 64 * (i + 1) ≤ q.length) : pageF q i = pg q i := by
  rw [pageF_in h]
  unfold pg
  rw [List.drop_take]
  congr 1
  omega
theorem pg_app {q r : List Int} {i : Nat} (h : 64 * (i + 1) ≤ q.length) : pg (q ++ r) i = pg q i := by
  unfold pg
  rw [List.drop_append_of_le_length (by omega), List.take_append_of_le_length (by rw [List.length_drop]; omega)]
theorem applyF_app (ps : List (List Int)) (l m : List Chg) : applyF ps (l ++ m) = applyF (applyF ps l) m := by unfold applyF; rw [List.foldl_append]
theorem back_law {q1 q2 : List Int} {n2 : Nat} (h1 : q1.length = 256) (h2 : q2.length = 64 * n2) (h8 : n2 ≤ 8) :
    ∀ n, n ≤ n2 → applyF (pagesOf (q1 ++ List.replicate 256 0) 8) (changesF q1 q2 4 n 0) = (List.range 8).map (endF (q1 ++ List.replicate 256 0) q2 n)
  | 0, _ => by
    show pagesOf _ 8 = _
    unfold pagesOf
    apply List.map_congr_left
    intro i _
    unfold endF
    rw [if_neg (by omega)]
  | n + 1, hn => by
    rw [changesF_snoc, applyF_app, back_law h1 h2 h8 n (by omega)]
    unfold turnF
    by_cases hc : 4 ≤ n ∨ pageF q2 n ≠ pageF q1 n
    · rw [if_pos hc]
      show applyOne _ _ = _
      unfold applyOne
      rw [if_pos ⟨by show (0 : Int) ≤ 0 + (n : Int); omega, by rw [List.length_map, List.length_range]; show (0 : Int) + (n : Int) < ((8 : Nat) : Int); omega⟩]
      show ((List.range 8).map _).set ((0 : Int) + (n : Int)).toNat (pageF q2 n) = _
      rw [show ((0 : Int) + (n : Int)).toNat = n by omega]
      apply List.ext_getElem (by rw [List.length_set, List.length_map, List.length_map])
      intro i g1 g2
      rw [List.getElem_set]
      simp only [List.getElem_map, List.getElem_range]
      unfold endF
      by_cases hi : n = i
      · subst hi; rw [if_pos rfl, if_pos (by omega)]
      · rw [if_neg hi]
        by_cases h3 : i < n
        · rw [if_pos h3, if_pos (by omega)]
        · rw [if_neg h3, if_neg (by omega)]
    · rw [if_neg hc]
      show (List.range 8).map _ = _
      apply List.map_congr_left
      intro i _
      unfold endF
      by_cases hi : i = n
      · subst hi
        have h4 : ¬ 4 ≤ i := fun h => hc (.inl h)
        have h5 : pageF q2 i = pageF q1 i := Decidable.byContradiction (fun h => hc (.inr h))
        rw [if_neg (by omega), if_pos (by omega), h5, pageF_pg (by omega), pg_app (by omega)]
      · by_cases h3 : i < n
        · rw [if_pos h3, if_pos (by omega)]
        · rw [if_neg h3, if_neg (by omega)]
theorem endF_len {q1 q2 : List Int} {n2 i : Nat} (h1 : q1.length = 256) (h2 : q2.length = 64 * n2) (h8 : n2 ≤ 8) (hi : i < 8) : (endF (q1 ++ List.replicate 256 0) q2 n2 i).length = 64 := by
  unfold endF
  split
  · exact pageF_len (by omega)
  · unfold pg
    rw [List.length_take, List.length_drop, List.length_append, List.length_replicate, h1]
    omega
theorem flat_len {q1 q2 : List Int} {n2 : Nat} (h1 : q1.length = 256) (h2 : q2.length = 64 * n2) (h8 : n2 ≤ 8) : ∀ m, m ≤ 8 → ((List.range m).flatMap (endF (q1 ++ List.replicate 256 0) q2 n2)).length = 64 * m
  | 0, _ => rfl
  | m + 1, hm => by
    rw [List.range_succ, List.flatMap_append, List.length_append, flat_len h1 h2 h8 m (by omega), List.flatMap_cons, List.flatMap_nil, List.append_nil, endF_len h1 h2 h8 (by omega)]
    omega
theorem flat_take {b q2 : List Int} {n2 : Nat} (h2 : q2.length = 64 * n2) : ∀ m, m ≤ n2 → (List.range m).flatMap (endF b q2 n2) = q2.take (64 * m)
  | 0, _ => by simp
  | m + 1, hm => by
    rw [List.range_succ, List.flatMap_append, flat_take h2 m (by omega), List.flatMap_cons, List.flatMap_nil, List.append_nil]
    unfold endF
    rw [if_pos (by omega), pageF_pg (by omega)]
    unfold pg
    rw [show 64 * (m + 1) = 64 * m + 64 by omega, List.take_add]
theorem flat_all {q1 q2 : List Int} {n2 : Nat} (h1 : q1.length = 256) (h2 : q2.length = 64 * n2) (h8 : n2 ≤ 8) : ((List.range 8).flatMap (endF (q1 ++ List.replicate 256 0) q2 n2)).take (64 * n2) = q2 := by
  have e : (8 : Nat) = n2 + (8 - n2) := by omega
  have hl := flat_len h1 h2 h8 n2 (by omega)
  rw [e, List.range_add, List.flatMap_append, ← hl, List.take_left, flat_take h2 n2 (Nat.le_refl _), ← h2, List.take_length]
theorem str_app (a b : List Int) : strOfNums a ++ strOfNums b = strOfNums (a ++ b) := by
  apply ByteArray.ext
  simp [strOfNums, ByteArray.data_append]
theorem beq_self (s : ByteArray) : (s.toList == s.toList) = true := by simp
theorem changes_len {b1 b2 : List Int} {n1 : Nat} {first : Int} : ∀ {n2 : Nat}, 64 * n2 ≤ b2.length → ∀ x ∈ changesF b1 b2 n1 n2 first, x.2.length ≤ 1000000
  | 0, _, x, hx => by cases hx
  | n + 1, h, x, hx => by
    rw [changesF_snoc] at hx
    rcases List.mem_append.1 hx with h1 | h1
    · exact changes_len (by omega) x h1
    · unfold turnF at h1
      split at h1
      · obtain rfl := List.mem_singleton.1 h1
        show (pageF b2 n).length ≤ 1000000
        rw [pageF_len (by omega)]
        decide
      · cases h1
theorem pages_len {b : List Int} {m : Nat} : ∀ p ∈ pagesOf b m, p.length ≤ 1000000 := by
  intro p hp
  obtain ⟨i, _, rfl⟩ := List.mem_map.1 hp
  unfold pg
  rw [List.length_take]
  omega
theorem str_cut (l : List Int) (n : Nat) : (strOfNums l).extract 0 n = strOfNums (l.take n) := by
  apply ByteArray.ext
  simp [strOfNums, ByteArray.data_extract, List.map_take]
end Go.Proofs.Ytfpkhlhojjmgiaa.Shade
