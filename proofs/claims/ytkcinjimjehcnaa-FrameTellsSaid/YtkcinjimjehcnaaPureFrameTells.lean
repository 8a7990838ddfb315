/- FrameTells: what the frames' functions compute is what the document's compute. No condition. -/
import Derived.Test.YtkcinjimjehcnaaOFrameTellsx5
import Derived.Test.YtkcinjimjehcnaaOFrameTellsx4
import Derived.Test.YtkcinjimjehcnaaTurns
import Derived.Test.YtkcinjimjehcnaaWSized
import Derived.KernelRfl
namespace Go.Proofs.Ytkcinjimjehcnaa.Pure
open Go.RowKit Go.Proofs.Ytkcinjimjehcnaa.OFrameTells Go.Proofs.YtkcinjimjehcnaaW.PrintWords Go.Proofs.YtkcinjimjehcnaaW.PrintLast Go.Proofs.YtkcinjimjehcnaaW.PrintMore
namespace FrameTellsL
theorem step_is (h b : Int) : sum_Step.f h b = some (Plain.stepF h b) := rfl
theorem rd_drop (l : List Int) (i : Nat) (h : i < l.length) : l.drop i = rd l (i : Int) :: l.drop (i + 1) := by
  rw [List.drop_eq_getElem_cons h]
  unfold rd
  rw [Int.toNat_natCast, List.getD_eq_getElem?_getD, List.getElem?_eq_getElem h]; rfl
theorem of_loop (l : List Int) (hl : l.length ≤ 140737488355328) : ∀ (d k i : Nat) (h : Int), i + d = l.length → d < k → sum_Of.l0 k h l (l.length : Int) (i : Int) = some ((l.drop i).foldl Plain.stepF h) := by
  intro d
  induction d with
  | zero =>
    intro k i h hi hk
    obtain ⟨k, rfl⟩ : ∃ m, k = m + 1 := ⟨k - 1, by omega⟩
    simp only [sum_Of.l0]
    rw [if_neg (by omega), List.drop_of_length_le (by omega)]; rfl
  | succ d ih =>
    intro k i h hi hk
    obtain ⟨k, rfl⟩ : ∃ m, k = m + 1 := ⟨k - 1, by omega⟩
    simp only [sum_Of.l0]
    rw [if_pos (by omega), if_pos (by omega), if_pos (by omega), step_is, Option.bind_some, Plain.wrap64_id (by omega) (by omega), rd_drop l i (by omega), List.foldl_cons]
    exact ih k (i + 1) _ (by omega) (by omega)
theorem of_is (k : Nat) (l : List Int) (hl : l.length ≤ 140737488355328) (hk : l.length < k) : sum_Of.f k l = some (Plain.sumF l) := by
  have := of_loop l hl l.length k 0 2166136261 (by omega) hk
  exact this
theorem put_is (k : Nat) (l : List Int) (n : Int) (hl : l.length ≤ 140737488355000) (hk : 5 ≤ k) : sum_Put.f k l n = some (l ++ Plain.put4 n) := by
  obtain ⟨k, rfl⟩ : ∃ m, k = m + 5 := ⟨k - 5, by omega⟩
  unfold sum_Put.f
  rw [Option.bind_some, if_pos (by simp; omega), List.nil_append]
  have w (x : Int) (h0 : -9223372036854775808 ≤ x) (h1 : x ≤ 9223372036854775807) := Plain.wrap64_id h0 h1
  have s3 := Plain.shr32 n 24 (by decide)
  have s2 := Plain.shr32 n 16 (by decide)
  have s1 := Plain.shr32 n 8 (by decide)
  have s0 := Plain.shr32 n 0 (by decide)
  simp only [sum_Put.l0]
  rw [w (8 * 3) (by decide) (by decide), w (3 - 1) (by decide) (by decide), w (8 * (3 - 1)) (by decide) (by decide), w (3 - 1 - 1) (by decide) (by decide), w (8 * (3 - 1 - 1)) (by decide) (by decide), w (3 - 1 - 1 - 1) (by decide) (by decide), w (8 * (3 - 1 - 1 - 1)) (by decide) (by decide), w (3 - 1 - 1 - 1 - 1) (by decide) (by decide)]
  simp only [List.length_append, List.length_cons, List.length_nil]
  rw [if_pos (by decide), if_pos (by decide), if_pos (by omega), if_pos (by decide), if_pos (by decide), if_pos (by omega), if_pos (by decide), if_pos (by decide), if_pos (by omega), if_pos (by decide), if_pos (by decide), if_pos (by omega), if_neg (by decide)]
  rw [show (8 * 3 : Int) = ((24 : Nat) : Int) from rfl, show (8 * (3 - 1) : Int) = ((16 : Nat) : Int) from rfl, show (8 * (3 - 1 - 1) : Int) = ((8 : Nat) : Int) from rfl, show (8 * (3 - 1 - 1 - 1) : Int) = ((0 : Nat) : Int) from rfl, s3, s2, s1, s0]
  simp [Plain.put4]
theorem get_is (k : Nat) (l : List Int) (a : Int) (hl : l.length ≤ 140737488355328) (hb : Plain.Bytes l) (h0 : -9223372036854775808 ≤ a) (h1 : a ≤ 9223372036854775807) (hk : 6 ≤ k) : sum_Get.f k l a = some (Plain.getF l a) := by
  obtain ⟨k, rfl⟩ : ∃ m, k = m + 6 := ⟨k - 6, by omega⟩
  unfold sum_Get.f Plain.getF
  rw [Plain.wrap64_id (x := (l.length : Int) - 4) (by omega) (by omega)]
  by_cases ha : a < 0
  · rw [if_pos ha, if_pos (.inl ha)]
    simp only [sum_Get.j0, if_true]
  rw [if_neg ha]
  by_cases hb' : (l.length : Int) - 4 < a
  · rw [if_pos (.inr hb'), decide_eq_true (show a > (l.length : Int) - 4 from hb')]
    simp only [sum_Get.j0, if_true]
  rw [if_neg (by omega), decide_eq_false (show ¬ a > (l.length : Int) - 4 from hb')]
  simp only [sum_Get.j0, Bool.false_eq_true, if_false]
  rw [Plain.wrap64_id (x := a + 4) (by omega) (by omega), if_pos (by omega), if_pos (by omega), if_pos (by omega)]
  obtain ⟨m, rfl⟩ := Int.eq_ofNat_of_zero_le (show 0 ≤ a by omega)
  have hlen : ((l.take ((m : Int) + 4).toNat).drop (m : Int).toNat).length = 4 := by
    rw [List.length_drop, List.length_take]; omega
  have hrd : ∀ j : Nat, j < 4 → rd ((l.take ((m : Int) + 4).toNat).drop (m : Int).toNat) (j : Int) = rd l ((m : Int) + j) := by
    intro j hj
    unfold rd
    rw [List.getD_eq_getElem?_getD, List.getD_eq_getElem?_getD, List.getElem?_drop, List.getElem?_take]
    rw [if_pos (by omega)]
    congr 2
  have q0 := hrd 0 (by decide); have q1 := hrd 1 (by decide); have q2 := hrd 2 (by decide); have q3 := hrd 3 (by decide)
  generalize (l.take ((m : Int) + 4).toNat).drop (m : Int).toNat = xs at *
  rw [hlen]
  have w (x : Int) (h0 : -9223372036854775808 ≤ x) (h1 : x ≤ 9223372036854775807) := Plain.wrap64_id h0 h1
  simp only [sum_Get.l0]
  rw [w (0 + 1) (by decide) (by decide), w (0 + 1 + 1) (by decide) (by decide), w (0 + 1 + 1 + 1) (by decide) (by decide), w (0 + 1 + 1 + 1 + 1) (by decide) (by decide)]
  rw [hlen]
  rw [if_pos (by decide), if_pos (by decide), if_pos (by decide), if_pos (by decide), if_pos (by decide), if_pos (by decide), if_pos (by decide), if_pos (by decide), if_pos (by decide), if_pos (by decide), if_pos (by decide), if_pos (by decide), if_neg (by decide)]
  rw [show ((0 : Int)) + 1 = ((1 : Nat) : Int) from rfl, show ((1 : Nat) : Int) + 1 = ((2 : Nat) : Int) from rfl, show ((2 : Nat) : Int) + 1 = ((3 : Nat) : Int) from rfl]
  rw [show rd xs 0 = rd l (m : Int) from by rw [show (0 : Int) = ((0 : Nat) : Int) from rfl, q0]; simp, q1, q2, q3]
  have r0 := hb.at (m : Int); have r1 := hb.at ((m : Int) + 1); have r2 := hb.at ((m : Int) + 2); have r3 := hb.at ((m : Int) + 3)
  rw [show ((1 : Nat) : Int) = 1 from rfl, show ((2 : Nat) : Int) = 2 from rfl, show ((3 : Nat) : Int) = 3 from rfl]
  rw [Plain.shift_in (x := 0) (by decide) (by decide) r0.1 r0.2, Plain.shift_in (x := 0 * 256 + rd l m) (by omega) (by omega) r1.1 r1.2, Plain.shift_in (x := (0 * 256 + rd l m) * 256 + rd l (m + 1)) (by omega) (by omega) r2.1 r2.2, Plain.shift_in (x := ((0 * 256 + rd l m) * 256 + rd l (m + 1)) * 256 + rd l (m + 2)) (by omega) (by omega) r3.1 r3.2]
  congr 1; omega
theorem clone_is (l : List Int) (h : l.length < 140737488355328) : slices_Clone_byte_byte.f l = some l := by
  unfold slices_Clone_byte_byte.f; rw [if_pos h]
theorem bytes_is (k : Nat) (ep sq : Int) (b : List Int) (hb : b.length < 4294967296) (hk : b.length + 20 ≤ k) : frame_Bytes.f k ep sq b = some (Plain.frameF ep sq b) := by
  unfold frame_Bytes.f
  have hm : (b.length : Int) % 4294967296 = b.length := by omega
  rw [put_is k _ _ (by simp) (by omega), Option.bind_some, put_is k _ _ (by simp [Plain.put4]) (by omega), Option.bind_some, hm, put_is k _ _ (by simp [Plain.put4]) (by omega), Option.bind_some]
  have h0 : ([] ++ Plain.put4 ep ++ Plain.put4 sq ++ Plain.put4 (b.length : Int)) = Plain.headF ep sq b.length := rfl
  rw [h0, Plain.headF_length, if_pos (by omega), Option.bind_some]
  show (sum_Of.f k (Plain.bodyF ep sq b)).bind _ = _
  rw [of_is k _ (by rw [Plain.bodyF_length]; omega) (by rw [Plain.bodyF_length]; omega), Option.bind_some]
  show (sum_Put.f k (Plain.bodyF ep sq b) _).bind _ = _
  rw [put_is k _ _ (by rw [Plain.bodyF_length]; omega) (by omega), Option.bind_some]
  rfl
theorem read_j0 (k : Nat) (l : List Int) (ep sq : Int) (hb : Plain.Bytes l) (hl : l.length ≤ 140737488355000) (hk : l.length + 20 ≤ k) (h16 : ¬ (l.length : Int) < 16) (h0 : Plain.getF l 0 = ep) (h4 : Plain.getF l 4 = sq) :
    frame_Read.j0 (k + 1) l false = some (Plain.readF l ep sq) := by
  simp only [frame_Read.j0, Bool.false_eq_true, if_false]
  have g := Plain.getF_rng hb 8
  rw [get_is k l 8 (by omega) hb (by decide) (by decide) (by omega), Option.bind_some]
  have u1 : IntKind.u64.wrap (Plain.getF l 8) = Plain.getF l 8 := by rw [Plain.wrap_u64]; omega
  have w1 : wrap64 ((l.length : Int) - 16) = l.length - 16 := Plain.wrap64_id (by omega) (by omega)
  have u2 : IntKind.u64.wrap ((l.length : Int) - 16) = l.length - 16 := by rw [Plain.wrap_u64]; omega
  have w2 : wrap64 (Plain.getF l 8) = Plain.getF l 8 := Plain.wrap64_id (by omega) (by omega)
  have w3 : wrap64 (12 + Plain.getF l 8) = 12 + Plain.getF l 8 := Plain.wrap64_id (by omega) (by omega)
  rw [u1, w1, u2, w2, w3]
  unfold Plain.readF
  by_cases h : Plain.getF l 8 > (l.length : Int) - 16
  · have hs : (l.length : Int) < 16 ∨ Plain.getF l 0 ≠ ep ∨ Plain.getF l 4 ≠ sq ∨ (l.length : Int) - 16 < Plain.getF l 8 := .inr (.inr (.inr h))
    rw [if_pos h, if_pos hs]
  · have hs : ¬ ((l.length : Int) < 16 ∨ Plain.getF l 0 ≠ ep ∨ Plain.getF l 4 ≠ sq ∨ (l.length : Int) - 16 < Plain.getF l 8) := by
      rintro (z | z | z | z)
      · exact h16 z
      · exact z h0
      · exact z h4
      · exact h z
    rw [if_neg h, if_neg hs, get_is k l _ (by omega) hb (by omega) (by omega) (by omega), Option.bind_some, if_pos (by omega), if_pos (by omega)]
    rw [of_is k _ (by rw [List.length_take]; omega) (by rw [List.length_take]; omega), Option.bind_some]
    by_cases e : Plain.getF l (12 + Plain.getF l 8) = Plain.sumF (l.take (12 + Plain.getF l 8).toNat)
    · rw [if_pos e, if_pos e, if_pos (by omega), clone_is _ (by rw [List.length_drop, List.length_take]; omega), Option.bind_some, Plain.wrap64_id (x := 12 + Plain.getF l 8 + 4) (by omega) (by omega)]
    · rw [if_neg e, if_neg e]
theorem read_is (k : Nat) (l : List Int) (ep sq : Int) (hb : Plain.Bytes l) (hl : l.length ≤ 140737488355000) (hk : l.length + 21 ≤ k) :
    frame_Read.f k l ep sq = some (Plain.readF l ep sq) := by
  obtain ⟨k, rfl⟩ : ∃ m, k = m + 1 := ⟨k - 1, by omega⟩
  unfold frame_Read.f
  have no : ∀ h : ((l.length : Int) < 16 ∨ Plain.getF l 0 ≠ ep ∨ Plain.getF l 4 ≠ sq ∨ (l.length : Int) - 16 < Plain.getF l 8), frame_Read.j0 (k + 1) l true = some (Plain.readF l ep sq) := by
    intro h
    simp only [frame_Read.j0, if_true]
    unfold Plain.readF
    rw [if_pos h]
  by_cases h16 : (l.length : Int) < 16
  · rw [if_pos h16]; exact no (.inl h16)
  rw [if_neg h16, get_is _ l 0 (by omega) hb (by decide) (by decide) (by omega), Option.bind_some]
  by_cases h0 : Plain.getF l 0 = ep
  · rw [if_pos h0, get_is _ l 4 (by omega) hb (by decide) (by decide) (by omega), Option.bind_some]
    by_cases h4 : Plain.getF l 4 = sq
    · rw [show (Plain.getF l 4 != sq) = false from bne_eq_false_iff_eq.mpr h4]
      exact read_j0 k l ep sq hb hl (by omega) h16 h0 h4
    · rw [show (Plain.getF l 4 != sq) = true from bne_iff_ne.mpr h4]
      exact no (.inr (.inr (.inl h4)))
  · rw [if_neg h0]; exact no (.inr (.inl h0))
theorem within_is (k : Nat) (n lo hi : Int) (h0 : -1000000 ≤ lo) (h1 : lo ≤ hi) (h2 : hi ≤ 1000000) : ∃ r, engrambook_Within.f (k + 1) n lo hi = some r ∧ lo ≤ r ∧ r ≤ hi ∧ (lo ≤ n → n ≤ hi → r = n) := by
  have hj : ∀ b : Bool, b = decide (lo ≤ n ∧ n ≤ hi) → ∃ r, engrambook_Within.j0 (k + 1) n lo hi b = some r ∧ lo ≤ r ∧ r ≤ hi ∧ (lo ≤ n → n ≤ hi → r = n) := by
    intro b hb
    simp only [engrambook_Within.j0]
    by_cases h : lo ≤ n ∧ n ≤ hi
    · rw [if_pos (by rw [hb]; exact decide_eq_true h)]
      exact ⟨n, rfl, h.1, h.2, fun _ _ => rfl⟩
    · rw [if_neg (by rw [hb]; simpa using h)]
      have e : wrap64 (wrap64 (hi - lo) + 1) = hi - lo + 1 := by
        rw [Plain.wrap64_id (x := hi - lo) (by omega) (by omega), Plain.wrap64_id (by omega) (by omega)]
      rw [e, if_neg (by omega)]
      have m1 := Int.tmod_lt_of_pos n (b := hi - lo + 1) (by omega)
      have m2 := Int.lt_tmod_of_pos n (b := hi - lo + 1) (by omega)
      generalize Int.tmod n (hi - lo + 1) = m at *
      by_cases hm : m < 0
      · rw [if_pos hm]
        refine ⟨lo + (m + hi - lo + 1), ?_, by omega, by omega, fun a b => absurd ⟨a, b⟩ h⟩
        rw [Plain.wrap64_id (x := m + hi) (by omega) (by omega), Plain.wrap64_id (x := m + hi - lo) (by omega) (by omega), Plain.wrap64_id (x := m + hi - lo + 1) (by omega) (by omega), Plain.wrap64_id (by omega) (by omega)]
      · rw [if_neg hm]
        refine ⟨lo + m, ?_, by omega, by omega, fun a b => absurd ⟨a, b⟩ h⟩
        rw [Plain.wrap64_id (by omega) (by omega)]
  unfold engrambook_Within.f
  by_cases h : n ≥ lo
  · rw [if_pos h]
    exact hj _ (by rw [Bool.eq_iff_iff]; simp; omega)
  · rw [if_neg h]
    exact hj _ (by rw [Bool.eq_iff_iff]; simp; omega)
theorem rstep_is (h b : Int) : engramref3_Step.f h b = some (Plain.stepF h b) := rfl
theorem rsum_loop (l : List Int) (hl : l.length ≤ 140737488355328) : ∀ (d k i : Nat) (h : Int), i + d = l.length → d < k → engramref3_Sum.l0 k l h (i : Int) = some ((l.drop i).foldl Plain.stepF h) := by
  intro d
  induction d with
  | zero =>
    intro k i h hi hk
    obtain ⟨k, rfl⟩ : ∃ m, k = m + 1 := ⟨k - 1, by omega⟩
    simp only [engramref3_Sum.l0]
    rw [if_neg (by omega), List.drop_of_length_le (by omega)]; rfl
  | succ d ih =>
    intro k i h hi hk
    obtain ⟨k, rfl⟩ : ∃ m, k = m + 1 := ⟨k - 1, by omega⟩
    simp only [engramref3_Sum.l0]
    rw [if_pos (by omega), if_pos (by omega), rstep_is, Option.bind_some, Plain.wrap64_id (by omega) (by omega), rd_drop l i (by omega), List.foldl_cons]
    exact ih k (i + 1) _ (by omega) (by omega)
theorem rsum_is (k : Nat) (l : List Int) (hl : l.length ≤ 140737488355328) (hk : l.length < k) : engramref3_Sum.f k l = some (Plain.sumF l) := by
  have := rsum_loop l hl l.length k 0 2166136261 (by omega) hk
  exact this
theorem rput_is (l : List Int) (n : Int) (hl : l.length ≤ 140737488355000) : engramref3_Put.f l n = some (l ++ Plain.put4 n) := by
  unfold engramref3_Put.f
  simp only [Option.bind_some, List.length_append, List.length_cons, List.length_nil]
  rw [if_pos (by omega), if_pos (by omega)]
  rfl
theorem rget_is (l : List Int) (a : Int) (hl : l.length ≤ 140737488355328) (hb : Plain.Bytes l) (h0 : -9223372036854775808 ≤ a) (h1 : a ≤ 9223372036854775807) : engramref3_Get.f l a = some (Plain.getF l a) := by
  unfold engramref3_Get.f Plain.getF
  rw [Plain.wrap64_id (x := (l.length : Int) - 4) (by omega) (by omega)]
  by_cases ha : a < 0
  · rw [if_pos ha, if_pos (.inl ha)]
  rw [if_neg ha]
  by_cases hb' : (l.length : Int) - 4 < a
  · rw [if_pos (show a > (l.length : Int) - 4 from hb'), if_pos (.inr hb')]
  have hs : ¬ (a < 0 ∨ (l.length : Int) - 4 < a) := by omega
  rw [if_neg hs, if_neg (show ¬ a > (l.length : Int) - 4 from hb'), Plain.wrap64_id (x := a + 1) (by omega) (by omega), Plain.wrap64_id (x := a + 2) (by omega) (by omega), Plain.wrap64_id (x := a + 3) (by omega) (by omega)]
  rw [if_pos (by omega), if_pos (by omega), if_pos (by omega), if_pos (by omega), if_pos (by omega), if_pos (by omega), if_pos (by omega), if_pos (by omega)]
  have r0 := hb.at a; have r1 := hb.at (a + 1); have r2 := hb.at (a + 2); have r3 := hb.at (a + 3)
  rw [Plain.four_or r0.1 r0.2 r1.1 r1.2 r2.1 r2.2 r3.1 r3.2]

theorem rread_j0 (k : Nat) (l : List Int) (ep sq : Int) (hb : Plain.Bytes l) (hl : l.length ≤ 140737488355000) (hk : l.length + 20 ≤ k) (h16 : ¬ (l.length : Int) < 16) (h0 : Plain.getF l 0 = ep) (h4 : Plain.getF l 4 = sq) (h : ¬ Plain.getF l 8 > (l.length : Int) - 16) :
    engramref3_Read.j0 (k + 1) l false = some (Plain.readF l ep sq) := by
  simp only [engramref3_Read.j0, Bool.false_eq_true, if_false]
  have g := Plain.getF_rng hb 8
  rw [rget_is l 8 (by omega) hb (by decide) (by decide), Option.bind_some]
  have w2 : wrap64 (Plain.getF l 8) = Plain.getF l 8 := Plain.wrap64_id (by omega) (by omega)
  have w3 : wrap64 (12 + Plain.getF l 8) = 12 + Plain.getF l 8 := Plain.wrap64_id (by omega) (by omega)
  have w4 : wrap64 (16 + Plain.getF l 8) = 12 + Plain.getF l 8 + 4 := by rw [Plain.wrap64_id (by omega) (by omega)]; omega
  rw [w2, w3, w4]
  unfold Plain.readF
  have hs : ¬ ((l.length : Int) < 16 ∨ Plain.getF l 0 ≠ ep ∨ Plain.getF l 4 ≠ sq ∨ (l.length : Int) - 16 < Plain.getF l 8) := by
    rintro (z | z | z | z)
    · exact h16 z
    · exact z h0
    · exact z h4
    · exact h z
  rw [if_neg hs, rget_is l _ (by omega) hb (by omega) (by omega), Option.bind_some, if_pos (by omega), if_pos (by omega)]
  rw [rsum_is k _ (by rw [List.length_take]; omega) (by rw [List.length_take]; omega), Option.bind_some]
  by_cases e : Plain.getF l (12 + Plain.getF l 8) = Plain.sumF (l.take (12 + Plain.getF l 8).toNat)
  · rw [if_pos e, if_pos e, Option.bind_some, if_pos (by omega), if_pos (by rw [List.length_nil, List.length_drop, List.length_take]; omega), List.nil_append]
  · rw [if_neg e, if_neg e]
theorem rread_is (k : Nat) (l : List Int) (ep sq : Int) (hb : Plain.Bytes l) (hl : l.length ≤ 140737488355000) (hk : l.length + 21 ≤ k) :
    engramref3_Read.f k l ep sq = some (Plain.readF l ep sq) := by
  obtain ⟨k, rfl⟩ : ∃ m, k = m + 1 := ⟨k - 1, by omega⟩
  unfold engramref3_Read.f
  have no : ∀ h : ((l.length : Int) < 16 ∨ Plain.getF l 0 ≠ ep ∨ Plain.getF l 4 ≠ sq ∨ (l.length : Int) - 16 < Plain.getF l 8), engramref3_Read.j0 (k + 1) l true = some (Plain.readF l ep sq) := by
    intro h
    simp only [engramref3_Read.j0, if_true]
    unfold Plain.readF
    rw [if_pos h]
  have g := Plain.getF_rng hb 8
  have u1 : IntKind.u64.wrap (Plain.getF l 8) = Plain.getF l 8 := by rw [Plain.wrap_u64]; omega
  by_cases h16 : (l.length : Int) < 16
  · rw [if_pos h16]; exact no (.inl h16)
  have w1 : wrap64 ((l.length : Int) - 16) = l.length - 16 := Plain.wrap64_id (by omega) (by omega)
  have u2 : IntKind.u64.wrap ((l.length : Int) - 16) = l.length - 16 := by rw [Plain.wrap_u64]; omega
  rw [if_neg h16, rget_is l 0 (by omega) hb (by decide) (by decide), Option.bind_some]
  by_cases h0 : Plain.getF l 0 = ep
  · rw [if_pos h0, rget_is l 4 (by omega) hb (by decide) (by decide), Option.bind_some]
    by_cases h4 : Plain.getF l 4 = sq
    · rw [if_pos h4, rget_is l 8 (by omega) hb (by decide) (by decide), Option.bind_some, u1, w1, u2]
      by_cases h : Plain.getF l 8 > (l.length : Int) - 16
      · rw [decide_eq_true h]
        exact no (.inr (.inr (.inr h)))
      · rw [decide_eq_false h]
        exact rread_j0 k l ep sq hb hl (by omega) h16 h0 h4 h
    · rw [if_neg h4]
      exact no (.inr (.inr (.inl h4)))
  · rw [if_neg h0]; exact no (.inr (.inl h0))
theorem rframe_is (k : Nat) (ep sq : Int) (b : List Int) (hb : b.length < 4294967296) (hk : b.length + 20 ≤ k) : engramref3_Frame.f k ep sq b = some (Plain.frameF ep sq b) := by
  unfold engramref3_Frame.f
  have hm : (b.length : Int) % 4294967296 = b.length := by omega
  rw [rput_is _ _ (by simp), Option.bind_some, rput_is _ _ (by simp [Plain.put4]), Option.bind_some, hm, rput_is _ _ (by simp [Plain.put4]), Option.bind_some]
  have h0 : ([] ++ Plain.put4 ep ++ Plain.put4 sq ++ Plain.put4 (b.length : Int)) = Plain.headF ep sq b.length := rfl
  rw [h0, Plain.headF_length, if_pos (by omega), Option.bind_some]
  show (engramref3_Sum.f k (Plain.bodyF ep sq b)).bind _ = _
  rw [rsum_is k _ (by rw [Plain.bodyF_length]; omega) (by rw [Plain.bodyF_length]; omega), Option.bind_some]
  show (engramref3_Put.f (Plain.bodyF ep sq b) _).bind _ = _
  rw [rput_is _ _ (by rw [Plain.bodyF_length]; omega), Option.bind_some]
  rfl
/-- both scans go on alike -/
theorem scans (l : List Int) (ep : Int) (hb : Plain.Bytes l) (hl : l.length ≤ 1000000) : ∀ (d k pos : Nat) (recs : List (List Int)), l.length ≤ pos + d → pos ≤ l.length → recs.length ≤ pos → d + l.length + 30 ≤ k →
    ∃ out q, frame_Scan.l0 k l ep recs (pos : Int) = some (out, q) ∧ engramref3_Scan.l0 k l ep recs (pos : Int) = some (out, q) ∧ out.length ≤ l.length := by
  intro d
  induction d with
  | zero =>
    intro k pos recs hd hp hr hk
    obtain ⟨k, rfl⟩ : ∃ m, k = m + 1 := ⟨k - 1, by omega⟩
    simp only [frame_Scan.l0, engramref3_Scan.l0]
    have hn : l.drop pos = [] := List.drop_of_length_le (by omega)
    rw [if_pos (by omega), if_pos (by omega), if_pos (by omega), if_pos (by omega), Int.toNat_natCast, hn, read_is k [] _ _ Plain.Bytes.nil (by simp) (by simp; omega), rread_is k [] _ _ Plain.Bytes.nil (by simp) (by simp; omega), Option.bind_some, Option.bind_some]
    have : Plain.readF [] ep ((recs.length : Int) % 4294967296) = ([], 0, false) := by unfold Plain.readF; rw [if_pos (.inl (by decide))]
    rw [this]
    exact ⟨recs, _, by rfl, by rfl, by omega⟩
  | succ d ih =>
    intro k pos recs hd hp hr hk
    obtain ⟨k, rfl⟩ : ∃ m, k = m + 1 := ⟨k - 1, by omega⟩
    simp only [frame_Scan.l0, engramref3_Scan.l0]
    have hbd := hb.drop pos
    have hld : (l.drop pos).length = l.length - pos := List.length_drop
    rw [if_pos (by omega), if_pos (by omega), if_pos (by omega), if_pos (by omega), Int.toNat_natCast, read_is k _ _ _ hbd (by omega) (by omega), rread_is k _ _ _ hbd (by omega) (by omega), Option.bind_some, Option.bind_some]
    generalize hq : Plain.readF (l.drop pos) ep ((recs.length : Int) % 4294967296) = t
    obtain ⟨x, n, b⟩ := t
    cases b with
    | false => exact ⟨recs, _, rfl, rfl, by omega⟩
    | true =>
      obtain ⟨e1, e2, -⟩ := Plain.readF_some hbd hq
      dsimp only
      rw [if_pos rfl, if_pos (by omega), if_pos rfl, if_pos (by omega)]
      have e3 : wrap64 ((pos : Int) + n) = ((pos + 16 + x.length : Nat) : Int) := by rw [Plain.wrap64_id (by omega) (by omega)]; omega
      rw [e3]
      exact ih k (pos + 16 + x.length) (recs ++ [x]) (by omega) (by omega) (by rw [List.length_append, List.length_singleton]; omega) (by omega)
theorem same_loop (l : List Int) (ep sq : Int) (rs : List (List Int)) (hb : l.length < 4294967296) (hrl : rs.length ≤ 1000000) : ∀ (d k i : Nat), i + d = rs.length → d + l.length + 30 ≤ k → engramlaw3_same.l0 k l ep sq rs rs (rs.length : Int) (i : Int) = some true := by
  intro d
  induction d with
  | zero =>
    intro k i hi hk
    obtain ⟨k, rfl⟩ : ∃ m, k = m + 1 := ⟨k - 1, by omega⟩
    simp only [engramlaw3_same.l0]
    rw [if_neg (by omega), bytes_is k _ _ _ hb (by omega), Option.bind_some, rframe_is k _ _ _ hb (by omega), Option.bind_some]
    simp
  | succ d ih =>
    intro k i hi hk
    obtain ⟨k, rfl⟩ : ∃ m, k = m + 1 := ⟨k - 1, by omega⟩
    simp only [engramlaw3_same.l0]
    rw [if_pos (by omega), if_pos (by omega), if_pos (by omega), if_pos (by omega), if_pos trivial, Plain.wrap64_id (by omega) (by omega)]
    exact ih k (i + 1) (by omega) (by omega)
theorem same_is (k : Nat) (l : List Int) (ep sq : Int) (hb : Plain.Bytes l) (hl : l.length ≤ 1000000) (hk : 2 * l.length + 100 ≤ k) : engramlaw3_same.f k l ep sq = some true := by
  obtain ⟨out, q, s1, s2, s3⟩ := scans l ep hb hl l.length k 0 [] (by omega) (by omega) (by simp) (by omega)
  have t1 : frame_Scan.f k l ep = some (out, q) := s1
  have t2 : engramref3_Scan.f k l ep = some (out, q) := s2
  obtain ⟨k, rfl⟩ : ∃ m, k = m + 1 := ⟨k - 1, by omega⟩
  unfold engramlaw3_same.f
  rw [read_is _ l ep sq hb (by omega) (by omega), Option.bind_some, rread_is _ l ep sq hb (by omega) (by omega), Option.bind_some, t1, Option.bind_some, t2, Option.bind_some, if_pos rfl, if_pos rfl]
  rw [show ((Plain.readF l ep sq).2.2 != (Plain.readF l ep sq).2.2) = false from bne_self_eq_false _, if_neg (by decide), if_pos rfl, bne_self_eq_false]
  simp only [engramlaw3_same.j0, Bool.false_eq_true, if_false]
  exact same_loop l ep sq out (by omega) (by omega) out.length k 0 (by omega) (by omega)
theorem row_loop (ep : Int) (l : List (List Int)) (h0 : ∀ x ∈ l, Plain.Bytes x) : ∀ (d k i : Nat) (acc : List Int), i + d = 6 → 100 + 10 * d < k → Plain.Bytes acc → acc.length ≤ 56 * i →
    ∃ b, engramlaw3_row.l0 k ep l acc (i : Int) = some b ∧ Plain.Bytes b ∧ b.length ≤ 400 := by
  intro d
  induction d with
  | zero =>
    intro k i acc hi hk ha hl
    obtain ⟨k, rfl⟩ : ∃ m, k = m + 2 := ⟨k - 2, by omega⟩
    obtain rfl : i = 6 := by omega
    refine ⟨acc, ?_, ha, by omega⟩
    simp only [engramlaw3_row.l0, engramlaw3_row.j1]
    by_cases h : ((6 : Nat) : Int) < (l.length : Int)
    · rw [if_pos h, if_neg (by decide)]
    · rw [if_neg h, if_neg (by decide)]
  | succ d ih =>
    intro k i acc hi hk ha hl
    obtain ⟨k, rfl⟩ : ∃ m, k = m + 2 := ⟨k - 2, by omega⟩
    simp only [engramlaw3_row.l0, engramlaw3_row.j1]
    by_cases h : (i : Int) < (l.length : Int)
    · rw [if_pos h, if_pos (decide_eq_true (show (i : Int) < 6 by omega)), if_pos (by omega), if_pos h]
      have hx : Plain.Bytes (rd_L1 l (i : Int)) := by
        unfold rd_L1
        rw [Int.toNat_natCast, List.getD_eq_getElem?_getD, List.getElem?_eq_getElem (by omega)]
        exact h0 _ (List.getElem_mem _)
      have hw : wrap64 ((i : Int) + 1) = ((i + 1 : Nat) : Int) := by rw [Plain.wrap64_id (by omega) (by omega)]; omega
      by_cases h40 : ((rd_L1 l (i : Int)).length : Int) > 40
      · have ht : ((rd_L1 l (i : Int)).take 40).length = 40 := by rw [List.length_take]; omega
        rw [if_pos h40, if_pos (by omega), rframe_is k _ _ _ (by omega) (by omega), Option.bind_some, if_pos (by rw [Plain.frameF_length]; omega), hw]
        exact ih k (i + 1) _ (by omega) (by omega) (ha.app (Plain.frameF_bytes _ _ (hx.take 40))) (by rw [List.length_append, Plain.frameF_length]; omega)
      · rw [if_neg h40, rframe_is k _ _ _ (by omega) (by omega), Option.bind_some, if_pos (by rw [Plain.frameF_length]; omega), hw]
        exact ih k (i + 1) _ (by omega) (by omega) (ha.app (Plain.frameF_bytes _ _ hx)) (by rw [List.length_append, Plain.frameF_length]; omega)
    · rw [if_neg h, if_neg (by decide)]
      exact ⟨acc, rfl, ha, by omega⟩
theorem row_is (k : Nat) (ep : Int) (l : List (List Int)) (h0 : ∀ x ∈ l, Plain.Bytes x) (hk : 1000 ≤ k) : ∃ b, engramlaw3_row.f k ep l = some b ∧ Plain.Bytes b ∧ b.length ≤ 400 :=
  row_loop ep l h0 6 k 0 [] (by omega) (by omega) Plain.Bytes.nil (by simp)
end FrameTellsL

end Go.Proofs.Ytkcinjimjehcnaa.Pure
