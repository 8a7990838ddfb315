/- Which sectors wait, in their order; what a crash keeps: plain lists. -/
import Derived.Test.YtjngnigelkgekaaSecs
namespace Go.Proofs.Ytjngnigelkgekaa.Kit
set_option linter.unusedVariables false
abbrev Wt := Nat → Option (List Int)
/-- The sectors that wait. -/
def keysOf (n : Nat) (wt : Wt) : List Nat := (List.range n).filter (fun i => (wt i).isSome)
def rank (wt : Wt) (i : Nat) : Nat := (keysOf i wt).length
theorem keysOf_succ (n : Nat) (wt : Wt) : keysOf (n + 1) wt = keysOf n wt ++ if (wt n).isSome then [n] else [] := by
  unfold keysOf
  rw [List.range_succ, List.filter_append]
  congr 1
  by_cases h : (wt n).isSome = true
  · simp [h]
  · simp [h]
theorem rank_succ (n : Nat) (wt : Wt) : rank wt (n + 1) = rank wt n + if (wt n).isSome then 1 else 0 := by
  unfold rank
  rw [keysOf_succ, List.length_append]
  split <;> rfl
theorem rank_mono (wt : Wt) {i j : Nat} (h : i ≤ j) : rank wt i ≤ rank wt j := by
  induction j with
  | zero => rw [show i = 0 by omega]; exact Nat.le_refl _
  | succ j ih =>
    by_cases hi : i = j + 1
    · rw [hi]; exact Nat.le_refl _
    · have := ih (by omega); rw [rank_succ]; omega
theorem rank_lt {wt : Wt} {i j : Nat} (h : i < j) (hi : (wt i).isSome = true) : rank wt i < rank wt j := by
  have := rank_mono wt (show i + 1 ≤ j by omega)
  rw [rank_succ, if_pos hi] at this
  omega
theorem keys_at (wt : Wt) : ∀ (n j i : Nat), (keysOf n wt)[j]? = some i ↔ i < n ∧ (wt i).isSome = true ∧ rank wt i = j
  | 0, j, i => by simp [keysOf]
  | n + 1, j, i => by
    rw [keysOf_succ]
    by_cases hj : j < (keysOf n wt).length
    · rw [List.getElem?_append_left hj, keys_at wt n j i]
      constructor
      · rintro ⟨h1, h2, h3⟩; exact ⟨by omega, h2, h3⟩
      · rintro ⟨h1, h2, h3⟩
        refine ⟨?_, h2, h3⟩
        rcases Nat.lt_or_ge i n with h | h
        · exact h
        · have : i = n := by omega
          subst this
          unfold rank at h3; omega
    · rw [List.getElem?_append_right (by omega)]
      by_cases hn : (wt n).isSome = true
      · rw [if_pos hn]
        constructor
        · intro h
          have hj0 : j - (keysOf n wt).length = 0 := by
            rcases Nat.eq_zero_or_pos (j - (keysOf n wt).length) with h0 | h0
            · exact h0
            · rw [List.getElem?_eq_none (by simp; omega)] at h; cases h
          rw [hj0] at h
          simp at h
          subst h
          exact ⟨by omega, hn, by unfold rank; omega⟩
        · rintro ⟨h1, h2, h3⟩
          rcases Nat.lt_or_ge i n with h | h
          · have := rank_lt h h2
            unfold rank at this h3; omega
          · have : i = n := by omega
            subst this
            unfold rank at h3
            rw [h3, Nat.sub_self]; rfl
      · rw [if_neg hn]
        constructor
        · intro h; simp at h
        · rintro ⟨h1, h2, h3⟩
          rcases Nat.lt_or_ge i n with h | h
          · have := rank_lt h h2
            unfold rank at this h3; omega
          · have : i = n := by omega
            subst this
            exact absurd h2 hn
theorem keys_len_le (wt : Wt) (n : Nat) : (keysOf n wt).length ≤ n := by
  have := List.length_filter_le (fun i => (wt i).isSome) (List.range n)
  rwa [List.length_range] at this
theorem keys_none (n : Nat) : keysOf n (fun _ => none) = [] := by
  simp [keysOf]
/-- How many bytes of the j-th sector that waits are kept. -/
def cutN (cuts : List Int) (j : Nat) : Nat := if j < cuts.length then (max 0 (min (cuts.getD j 0) 64)).toNat else 0
theorem cutN_le (cuts : List Int) (j : Nat) : cutN cuts j ≤ 64 := by unfold cutN; split <;> omega
def cutS (las : List Int) (wt : Wt) (cuts : List Int) (i : Nat) : List Int :=
  match wt i with
  | none => sec las i
  | some b => b.take (cutN cuts (rank wt i)) ++ (sec las i).drop (cutN cuts (rank wt i))
def crashTo (las : List Int) (wt : Wt) (cuts : List Int) (j : Nat) : List Int := secs (las.length / 64) (fun i => if rank wt i < j then cutS las wt cuts i else sec las i)
def crashed (las : List Int) (wt : Wt) (cuts : List Int) : List Int := secs (las.length / 64) (cutS las wt cuts)
section
variable {las : List Int} {wt : Wt} {cuts : List Int} {n : Nat}
theorem cutS_len (hn : las.length = 64 * n) (hw : ∀ i b, wt i = some b → b.length = 64) : ∀ i, i < n → (cutS las wt cuts i).length = 64 := fun i hi => by
  have hs := sec_len (l := las) (i := i) (by omega)
  unfold cutS
  cases h : wt i with
  | none => exact hs
  | some b =>
    have := hw i b h; have := cutN_le cuts (rank wt i)
    simp only [List.length_append, List.length_take, List.length_drop]; omega
theorem crashTo_zero (hn : las.length = 64 * n) : crashTo las wt cuts 0 = las := by
  unfold crashTo
  rw [show las.length / 64 = n by omega, ← secs_self hn]
  refine secs_congr fun i hi => ?_
  rw [if_neg (by omega), secs_self hn]
theorem crashTo_all (hn : las.length = 64 * n) : crashTo las wt cuts (keysOf n wt).length = crashed las wt cuts := by
  unfold crashTo crashed
  refine secs_congr fun i hi => ?_
  by_cases h : rank wt i < (keysOf n wt).length
  · rw [if_pos h]
  · rw [if_neg h]
    unfold cutS
    cases hw : wt i with
    | none => rfl
    | some b =>
      have := rank_lt (wt := wt) (i := i) (j := n) (by omega) (by rw [hw]; rfl)
      unfold rank at this h; omega
theorem crashTo_skip {j : Nat} (hj : cuts.length ≤ j) (hn : las.length = 64 * n) (hw : ∀ i b, wt i = some b → b.length = 64) : crashTo las wt cuts (j + 1) = crashTo las wt cuts j := by
  unfold crashTo
  refine secs_congr fun i hi => ?_
  by_cases h : rank wt i < j
  · rw [if_pos (by omega), if_pos h]
  · by_cases h2 : rank wt i < j + 1
    · rw [if_pos h2, if_neg h]
      unfold cutS
      cases hb : wt i with
      | none => rfl
      | some b => have : cutN cuts (rank wt i) = 0 := by unfold cutN; rw [if_neg (by omega)]
                  simp [this]
    · rw [if_neg h2, if_neg h]
theorem crashTo_step {j i : Nat} {b : List Int} (hn : las.length = 64 * n) (hw : ∀ i b, wt i = some b → b.length = 64) (hk : (keysOf n wt)[j]? = some i) (hb : wt i = some b) :
    over (crashTo las wt cuts j) (64 * i) (b.take (cutN cuts j)) = crashTo las wt cuts (j + 1) := by
  obtain ⟨h1, h2, h3⟩ := (keys_at wt n j i).1 hk
  have hbl := hw i b hb
  have hc := cutN_le cuts j
  have hlen : ∀ k, k < las.length / 64 → ((fun i => if rank wt i < j then cutS las wt cuts i else sec las i) k).length = 64 := fun k hk => by
    dsimp only
    split
    · exact cutS_len hn hw k (by omega)
    · exact sec_len (by omega)
  unfold crashTo
  rw [over_secs hlen (by omega) (by rw [List.length_take]; omega)]
  refine secs_congr fun k hk => ?_
  by_cases hki : k = i
  · subst hki
    rw [if_pos rfl, if_neg (show ¬ rank wt k < j by omega), if_pos (show rank wt k < j + 1 by omega)]
    unfold cutS
    rw [hb, h3]
    dsimp only
    rw [List.length_take, Nat.min_eq_left (by omega)]
  · rw [if_neg hki]
    by_cases h : rank wt k < j
    · rw [if_pos h, if_pos (by omega)]
    · rw [if_neg h]
      by_cases h4 : rank wt k < j + 1
      · rw [if_pos h4]
        unfold cutS
        cases hwk : wt k with
        | none => rfl
        | some c =>
          exfalso
          have hkk : (wt k).isSome = true := by rw [hwk]; rfl
          rcases Nat.lt_or_ge k i with h5 | h5
          · have := rank_lt h5 hkk; omega
          · have := rank_lt (show i < k by omega) h2; omega
      · rw [if_neg h4]
end
end Go.Proofs.Ytjngnigelkgekaa.Kit
