/- SumNumbers: the closed sentence of chapter 2 answers true. No condition. -/
import Derived.Test.YtfigfdggieenbaaOSumNumbersx3
import Derived.Test.YtfigfdggieenbaaBytes
import Derived.Test.YtfigfdggieenbaaWSized
import Derived.KernelRfl
namespace Go.Proofs.Ytfigfdggieenbaa.Pure
open Go.RowKit Go.Proofs.Ytfigfdggieenbaa.OSumNumbers Go.Proofs.YtfigfdggieenbaaW.PrintWords Go.Proofs.YtfigfdggieenbaaW.PrintLast Go.Proofs.YtfigfdggieenbaaW.PrintMore
namespace SumNumbersL
theorem step_is (h b : Int) : sum_Step.f h b = some (Plain.stepF h b) := rfl
theorem rstep_is (h b : Int) : engramref3_Step.f h b = some (Plain.stepF h b) := rfl
theorem rd_drop (l : List Int) (i : Nat) (h : i < l.length) : l.drop i = rd l (i : Int) :: l.drop (i + 1) := by
  rw [List.drop_eq_getElem_cons h]
  unfold rd
  rw [Int.toNat_natCast, List.getD_eq_getElem?_getD, List.getElem?_eq_getElem h]; rfl
theorem of_loop (l : List Int) (hl : l.length ≤ 140737488355328) : ∀ (d k i : Nat) (h : Int), i + d = l.length → d < k → sum_Of.l0 k h l (l.length : Int) (i : Int) = some ((l.drop i).foldl Plain.stepF h) := by
  intro d
  induction d with
  | zero =>
    intro k i h hi hk
    obtain ⟨k, rfl⟩ : ∃ m, k = m + 1 := ⟨k - 1, by omega⟩
    simp only [sum_Of.l0]
    rw [if_neg (by omega), List.drop_of_length_le (by omega)]; rfl
  | succ d ih =>
    intro k i h hi hk
    obtain ⟨k, rfl⟩ : ∃ m, k = m + 1 := ⟨k - 1, by omega⟩
    simp only [sum_Of.l0]
    rw [if_pos (by omega), if_pos (by omega), if_pos (by omega), step_is, Option.bind_some, Plain.wrap64_id (by omega) (by omega), rd_drop l i (by omega), List.foldl_cons]
    exact ih k (i + 1) _ (by omega) (by omega)
theorem of_is (k : Nat) (l : List Int) (hl : l.length ≤ 140737488355328) (hk : l.length < k) : sum_Of.f k l = some (Plain.sumF l) := by
  have := of_loop l hl l.length k 0 2166136261 (by omega) hk
  exact this
theorem rsum_loop (l : List Int) (hl : l.length ≤ 140737488355328) : ∀ (d k i : Nat) (h : Int), i + d = l.length → d < k → engramref3_Sum.l0 k l h (i : Int) = some ((l.drop i).foldl Plain.stepF h) := by
  intro d
  induction d with
  | zero =>
    intro k i h hi hk
    obtain ⟨k, rfl⟩ : ∃ m, k = m + 1 := ⟨k - 1, by omega⟩
    simp only [engramref3_Sum.l0]
    rw [if_neg (by omega), List.drop_of_length_le (by omega)]; rfl
  | succ d ih =>
    intro k i h hi hk
    obtain ⟨k, rfl⟩ : ∃ m, k = m + 1 := ⟨k - 1, by omega⟩
    simp only [engramref3_Sum.l0]
    rw [if_pos (by omega), if_pos (by omega), rstep_is, Option.bind_some, Plain.wrap64_id (by omega) (by omega), rd_drop l i (by omega), List.foldl_cons]
    exact ih k (i + 1) _ (by omega) (by omega)
theorem rsum_is (k : Nat) (l : List Int) (hl : l.length ≤ 140737488355328) (hk : l.length < k) : engramref3_Sum.f k l = some (Plain.sumF l) := by
  have := rsum_loop l hl l.length k 0 2166136261 (by omega) hk
  exact this
theorem put_is (k : Nat) (l : List Int) (n : Int) (hl : l.length ≤ 140737488355000) (hk : 5 ≤ k) : sum_Put.f k l n = some (l ++ Plain.put4 n) := by
  obtain ⟨k, rfl⟩ : ∃ m, k = m + 5 := ⟨k - 5, by omega⟩
  unfold sum_Put.f
  rw [Option.bind_some, if_pos (by simp; omega), List.nil_append]
  have w (x : Int) (h0 : -9223372036854775808 ≤ x) (h1 : x ≤ 9223372036854775807) := Plain.wrap64_id h0 h1
  have s3 := Plain.shr32 n 24 (by decide)
  have s2 := Plain.shr32 n 16 (by decide)
  have s1 := Plain.shr32 n 8 (by decide)
  have s0 := Plain.shr32 n 0 (by decide)
  simp only [sum_Put.l0]
  rw [w (8 * 3) (by decide) (by decide), w (3 - 1) (by decide) (by decide), w (8 * (3 - 1)) (by decide) (by decide), w (3 - 1 - 1) (by decide) (by decide), w (8 * (3 - 1 - 1)) (by decide) (by decide), w (3 - 1 - 1 - 1) (by decide) (by decide), w (8 * (3 - 1 - 1 - 1)) (by decide) (by decide), w (3 - 1 - 1 - 1 - 1) (by decide) (by decide)]
  simp only [List.length_append, List.length_cons, List.length_nil]
  rw [if_pos (by decide), if_pos (by decide), if_pos (by omega), if_pos (by decide), if_pos (by decide), if_pos (by omega), if_pos (by decide), if_pos (by decide), if_pos (by omega), if_pos (by decide), if_pos (by decide), if_pos (by omega), if_neg (by decide)]
  rw [show (8 * 3 : Int) = ((24 : Nat) : Int) from rfl, show (8 * (3 - 1) : Int) = ((16 : Nat) : Int) from rfl, show (8 * (3 - 1 - 1) : Int) = ((8 : Nat) : Int) from rfl, show (8 * (3 - 1 - 1 - 1) : Int) = ((0 : Nat) : Int) from rfl, s3, s2, s1, s0]
  simp [Plain.put4]
theorem rput_is (l : List Int) (n : Int) (hl : l.length ≤ 140737488355000) : engramref3_Put.f l n = some (l ++ Plain.put4 n) := by
  unfold engramref3_Put.f
  simp only [Option.bind_some, List.length_append, List.length_cons, List.length_nil]
  rw [if_pos (by omega), if_pos (by omega)]
  rfl
theorem get_is (k : Nat) (l : List Int) (a : Int) (hl : l.length ≤ 140737488355328) (hb : Plain.Bytes l) (h0 : -9223372036854775808 ≤ a) (h1 : a ≤ 9223372036854775807) (hk : 6 ≤ k) : sum_Get.f k l a = some (Plain.getF l a) := by
  obtain ⟨k, rfl⟩ : ∃ m, k = m + 6 := ⟨k - 6, by omega⟩
  unfold sum_Get.f Plain.getF
  rw [Plain.wrap64_id (x := (l.length : Int) - 4) (by omega) (by omega)]
  by_cases ha : a < 0
  · rw [if_pos ha, if_pos (.inl ha)]
    simp only [sum_Get.j0, if_true]
  rw [if_neg ha]
  by_cases hb' : (l.length : Int) - 4 < a
  · rw [if_pos (.inr hb'), decide_eq_true (show a > (l.length : Int) - 4 from hb')]
    simp only [sum_Get.j0, if_true]
  rw [if_neg (by omega), decide_eq_false (show ¬ a > (l.length : Int) - 4 from hb')]
  simp only [sum_Get.j0, Bool.false_eq_true, if_false]
  rw [Plain.wrap64_id (x := a + 4) (by omega) (by omega), if_pos (by omega), if_pos (by omega), if_pos (by omega)]
  obtain ⟨m, rfl⟩ := Int.eq_ofNat_of_zero_le (show 0 ≤ a by omega)
  have hlen : ((l.take ((m : Int) + 4).toNat).drop (m : Int).toNat).length = 4 := by
    rw [List.length_drop, List.length_take]; omega
  have hrd : ∀ j : Nat, j < 4 → rd ((l.take ((m : Int) + 4).toNat).drop (m : Int).toNat) (j : Int) = rd l ((m : Int) + j) := by
    intro j hj
    unfold rd
    rw [List.getD_eq_getElem?_getD, List.getD_eq_getElem?_getD, List.getElem?_drop, List.getElem?_take]
    rw [if_pos (by omega)]
    congr 2
  have q0 := hrd 0 (by decide); have q1 := hrd 1 (by decide); have q2 := hrd 2 (by decide); have q3 := hrd 3 (by decide)
  generalize (l.take ((m : Int) + 4).toNat).drop (m : Int).toNat = xs at *
  rw [hlen]
  have w (x : Int) (h0 : -9223372036854775808 ≤ x) (h1 : x ≤ 9223372036854775807) := Plain.wrap64_id h0 h1
  simp only [sum_Get.l0]
  rw [w (0 + 1) (by decide) (by decide), w (0 + 1 + 1) (by decide) (by decide), w (0 + 1 + 1 + 1) (by decide) (by decide), w (0 + 1 + 1 + 1 + 1) (by decide) (by decide)]
  rw [hlen]
  rw [if_pos (by decide), if_pos (by decide), if_pos (by decide), if_pos (by decide), if_pos (by decide), if_pos (by decide), if_pos (by decide), if_pos (by decide), if_pos (by decide), if_pos (by decide), if_pos (by decide), if_pos (by decide), if_neg (by decide)]
  rw [show ((0 : Int)) + 1 = ((1 : Nat) : Int) from rfl, show ((1 : Nat) : Int) + 1 = ((2 : Nat) : Int) from rfl, show ((2 : Nat) : Int) + 1 = ((3 : Nat) : Int) from rfl]
  rw [show rd xs 0 = rd l (m : Int) from by rw [show (0 : Int) = ((0 : Nat) : Int) from rfl, q0]; simp, q1, q2, q3]
  have r0 := hb.at (m : Int); have r1 := hb.at ((m : Int) + 1); have r2 := hb.at ((m : Int) + 2); have r3 := hb.at ((m : Int) + 3)
  rw [show ((1 : Nat) : Int) = 1 from rfl, show ((2 : Nat) : Int) = 2 from rfl, show ((3 : Nat) : Int) = 3 from rfl]
  rw [Plain.shift_in (x := 0) (by decide) (by decide) r0.1 r0.2, Plain.shift_in (x := 0 * 256 + rd l m) (by omega) (by omega) r1.1 r1.2, Plain.shift_in (x := (0 * 256 + rd l m) * 256 + rd l (m + 1)) (by omega) (by omega) r2.1 r2.2, Plain.shift_in (x := ((0 * 256 + rd l m) * 256 + rd l (m + 1)) * 256 + rd l (m + 2)) (by omega) (by omega) r3.1 r3.2]
  congr 1; omega
theorem rget_is (l : List Int) (a : Int) (hl : l.length ≤ 140737488355328) (hb : Plain.Bytes l) (h0 : -9223372036854775808 ≤ a) (h1 : a ≤ 9223372036854775807) : engramref3_Get.f l a = some (Plain.getF l a) := by
  unfold engramref3_Get.f Plain.getF
  rw [Plain.wrap64_id (x := (l.length : Int) - 4) (by omega) (by omega)]
  by_cases ha : a < 0
  · rw [if_pos ha, if_pos (.inl ha)]
  rw [if_neg ha]
  by_cases hb' : (l.length : Int) - 4 < a
  · rw [if_pos (show a > (l.length : Int) - 4 from hb'), if_pos (.inr hb')]
  have hs : ¬ (a < 0 ∨ (l.length : Int) - 4 < a) := by omega
  rw [if_neg hs, if_neg (show ¬ a > (l.length : Int) - 4 from hb'), Plain.wrap64_id (x := a + 1) (by omega) (by omega), Plain.wrap64_id (x := a + 2) (by omega) (by omega), Plain.wrap64_id (x := a + 3) (by omega) (by omega)]
  rw [if_pos (by omega), if_pos (by omega), if_pos (by omega), if_pos (by omega), if_pos (by omega), if_pos (by omega), if_pos (by omega), if_pos (by omega)]
  have r0 := hb.at a; have r1 := hb.at (a + 1); have r2 := hb.at (a + 2); have r3 := hb.at (a + 3)
  rw [Plain.four_or r0.1 r0.2 r1.1 r1.2 r2.1 r2.2 r3.1 r3.2]

theorem same_is (k : Nat) (l : List Int) (n a x : Int) (hl : l.length ≤ 140737488355000) (hb : Plain.Bytes l) (h0 : -9223372036854775808 ≤ a) (h1 : a ≤ 9223372036854775807) (hk : l.length + 6 ≤ k) : engramlaw2_same.f k l n a x = some true := by
  unfold engramlaw2_same.f
  rw [of_is k l (by omega) (by omega), rsum_is k l (by omega) (by omega), put_is k l n hl (by omega), rput_is l n hl, get_is k l a (by omega) hb h0 h1 (by omega), rget_is l a (by omega) hb h0 h1]
  simp [step_is, rstep_is]
theorem known_is {k : Nat} (h : 20 ≤ k) : engramlaw2_known.f k = some true :=
  at_rounds (g := fun k => engramlaw2_known.f k) (fun k => engramlaw2_known.mono k) h (by kernel_rfl)

theorem ev_same (l : List Int) (n a x : Int) (hl : l.length ≤ 1000) (hb : Plain.Bytes l) (h0 : -9223372036854775808 ≤ a) (h1 : a ≤ 9223372036854775807) : Ev (fun k => engramlaw2_same.f k l n a x) true :=
  ⟨1006, fun k hk => same_is k l n a x (by omega) hb h0 h1 (by omega)⟩
theorem ev_known : Ev (fun k => engramlaw2_known.f k) true := ⟨20, fun _ hk => known_is hk⟩
theorem ev_l1 (l : List Int) (x2 : Int) (hl : l.length ≤ 200) (hb : Plain.Bytes l)
    (next : Ev (fun k => engramlaw2_SumNumbers.l0 k (l ++ [(wrap64 (x2 * 37)) % 256]) (wrap64 (x2 + 1))) true) : ∀ (d : Nat) (i : Int), -2 ≤ i → i ≤ 9 → 9 - i = d → Ev (fun k => engramlaw2_SumNumbers.l1 k l x2 i) true := by
  intro d
  induction d with
  | zero =>
    intro i h0 h1 hd
    refine Ev.step (f := fun k => engramlaw2_SumNumbers.l0 k (l ++ [(wrap64 (x2 * 37)) % 256]) (wrap64 (x2 + 1))) (fun k => ?_) next
    simp only [engramlaw2_SumNumbers.l1]
    rw [if_neg (by omega), if_pos (by omega)]
  | succ d ih =>
    intro i h0 h1 hd
    refine Ev.step (f := fun k => (engramlaw2_same.f k l ((((wrap64 (x2 * x2)) % 4294967296) * 1048576) % 4294967296) (wrap64 ((wrap64 (x2 + i)) - 6)) ((x2) % 256)).bind fun t159 => (if t159 = true then ((engramlaw2_same.f k l 4294967295 i 255).bind fun t160 => (if t160 = true then (engramlaw2_SumNumbers.l1 k l x2 (wrap64 (i + 1))) else (some false))) else (some false))) (fun k => ?_) ?_
    · simp only [engramlaw2_SumNumbers.l1]
      rw [if_pos (by omega)]
    · have hw : ∀ y, -9223372036854775808 ≤ wrap64 y ∧ wrap64 y ≤ 9223372036854775807 := fun y => by unfold wrap64; omega
      refine Ev.bind (ev_same _ _ _ _ (by omega) hb (hw _).1 (hw _).2) ?_
      simp only [if_true]
      refine Ev.bind (ev_same _ _ _ _ (by omega) hb (by omega) (by omega)) ?_
      simp only [if_true]
      rw [Plain.wrap64_id (x := i + 1) (by omega) (by omega)]
      exact ih (i + 1) (by omega) (by omega) (by omega)
theorem ev_l0 : ∀ (d : Nat) (l : List Int) (x : Int), l.length = x → Plain.Bytes l → 0 ≤ x → x ≤ 200 → 200 - x = d → Ev (fun k => engramlaw2_SumNumbers.l0 k l x) true := by
  intro d
  induction d with
  | zero =>
    intro l x hl hb h0 h1 hd
    refine Ev.step (f := fun k => (engramlaw2_same.f k l 0 4611686018427387904 0).bind fun t153 => (if t153 = true then ((engramlaw2_same.f k l 0 (-9223372036854775808) 0).bind fun t154 => (if t154 = true then ((engramlaw2_known.f k).bind fun t155 => (some t155)) else (some false))) else (some false))) (fun k => ?_) ?_
    · simp only [engramlaw2_SumNumbers.l0]
      rw [if_neg (by omega)]
    · refine Ev.bind (ev_same _ _ _ _ (by omega) hb (by decide) (by decide)) ?_
      simp only [if_true]
      refine Ev.bind (ev_same _ _ _ _ (by omega) hb (by decide) (by decide)) ?_
      simp only [if_true]
      exact Ev.bind ev_known (Ev.now true)
  | succ d ih =>
    intro l x hl hb h0 h1 hd
    refine Ev.step (f := fun k => engramlaw2_SumNumbers.l1 k l x (-2)) (fun k => ?_) ?_
    · simp only [engramlaw2_SumNumbers.l0]
      rw [if_pos (by omega)]
    · refine ev_l1 l x (by omega) hb ?_ 11 (-2) (by decide) (by decide) (by decide)
      rw [Plain.wrap64_id (x := x + 1) (by omega) (by omega)]
      refine ih _ (x + 1) (by simp; omega) (hb.app (Plain.Bytes.cons (by omega) (by omega) Plain.Bytes.nil)) (by omega) (by omega) (by omega)

end SumNumbersL
open SumNumbersL in
theorem SumNumbers : engramlaw2_SumNumbers.Pure := Ev.rounds (ev_l0 200 [] 0 rfl Plain.Bytes.nil (by decide) (by decide) rfl)

end Go.Proofs.Ytfigfdggieenbaa.Pure
