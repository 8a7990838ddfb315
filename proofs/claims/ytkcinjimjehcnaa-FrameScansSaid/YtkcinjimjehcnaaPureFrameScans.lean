/- FrameScans: as many records are scanned as there are in a row from 0 on; a gap, a frame of another epoch, ends it. No condition. -/
import Derived.Test.YtkcinjimjehcnaaOFrameScansx2
import Derived.Test.YtkcinjimjehcnaaTurns
import Derived.Test.YtkcinjimjehcnaaWSized
import Derived.KernelRfl
namespace Go.Proofs.Ytkcinjimjehcnaa.Pure
open Go.RowKit Go.Proofs.Ytkcinjimjehcnaa.OFrameScans Go.Proofs.YtkcinjimjehcnaaW.PrintWords Go.Proofs.YtkcinjimjehcnaaW.PrintLast Go.Proofs.YtkcinjimjehcnaaW.PrintMore
namespace FrameScansL
theorem step_is (h b : Int) : sum_Step.f h b = some (Plain.stepF h b) := rfl
theorem rd_drop (l : List Int) (i : Nat) (h : i < l.length) : l.drop i = rd l (i : Int) :: l.drop (i + 1) := by
  rw [List.drop_eq_getElem_cons h]
  unfold rd
  rw [Int.toNat_natCast, List.getD_eq_getElem?_getD, List.getElem?_eq_getElem h]; rfl
theorem of_loop (l : List Int) (hl : l.length ≤ 140737488355328) : ∀ (d k i : Nat) (h : Int), i + d = l.length → d < k → sum_Of.l0 k h l (l.length : Int) (i : Int) = some ((l.drop i).foldl Plain.stepF h) := by
  intro d
  induction d with
  | zero =>
    intro k i h hi hk
    obtain ⟨k, rfl⟩ : ∃ m, k = m + 1 := ⟨k - 1, by omega⟩
    simp only [sum_Of.l0]
    rw [if_neg (by omega), List.drop_of_length_le (by omega)]; rfl
  | succ d ih =>
    intro k i h hi hk
    obtain ⟨k, rfl⟩ : ∃ m, k = m + 1 := ⟨k - 1, by omega⟩
    simp only [sum_Of.l0]
    rw [if_pos (by omega), if_pos (by omega), if_pos (by omega), step_is, Option.bind_some, Plain.wrap64_id (by omega) (by omega), rd_drop l i (by omega), List.foldl_cons]
    exact ih k (i + 1) _ (by omega) (by omega)
theorem of_is (k : Nat) (l : List Int) (hl : l.length ≤ 140737488355328) (hk : l.length < k) : sum_Of.f k l = some (Plain.sumF l) := by
  have := of_loop l hl l.length k 0 2166136261 (by omega) hk
  exact this
theorem put_is (k : Nat) (l : List Int) (n : Int) (hl : l.length ≤ 140737488355000) (hk : 5 ≤ k) : sum_Put.f k l n = some (l ++ Plain.put4 n) := by
  obtain ⟨k, rfl⟩ : ∃ m, k = m + 5 := ⟨k - 5, by omega⟩
  unfold sum_Put.f
  rw [Option.bind_some, if_pos (by simp; omega), List.nil_append]
  have w (x : Int) (h0 : -9223372036854775808 ≤ x) (h1 : x ≤ 9223372036854775807) := Plain.wrap64_id h0 h1
  have s3 := Plain.shr32 n 24 (by decide)
  have s2 := Plain.shr32 n 16 (by decide)
  have s1 := Plain.shr32 n 8 (by decide)
  have s0 := Plain.shr32 n 0 (by decide)
  simp only [sum_Put.l0]
  rw [w (8 * 3) (by decide) (by decide), w (3 - 1) (by decide) (by decide), w (8 * (3 - 1)) (by decide) (by decide), w (3 - 1 - 1) (by decide) (by decide), w (8 * (3 - 1 - 1)) (by decide) (by decide), w (3 - 1 - 1 - 1) (by decide) (by decide), w (8 * (3 - 1 - 1 - 1)) (by decide) (by decide), w (3 - 1 - 1 - 1 - 1) (by decide) (by decide)]
  simp only [List.length_append, List.length_cons, List.length_nil]
  rw [if_pos (by decide), if_pos (by decide), if_pos (by omega), if_pos (by decide), if_pos (by decide), if_pos (by omega), if_pos (by decide), if_pos (by decide), if_pos (by omega), if_pos (by decide), if_pos (by decide), if_pos (by omega), if_neg (by decide)]
  rw [show (8 * 3 : Int) = ((24 : Nat) : Int) from rfl, show (8 * (3 - 1) : Int) = ((16 : Nat) : Int) from rfl, show (8 * (3 - 1 - 1) : Int) = ((8 : Nat) : Int) from rfl, show (8 * (3 - 1 - 1 - 1) : Int) = ((0 : Nat) : Int) from rfl, s3, s2, s1, s0]
  simp [Plain.put4]
theorem get_is (k : Nat) (l : List Int) (a : Int) (hl : l.length ≤ 140737488355328) (hb : Plain.Bytes l) (h0 : -9223372036854775808 ≤ a) (h1 : a ≤ 9223372036854775807) (hk : 6 ≤ k) : sum_Get.f k l a = some (Plain.getF l a) := by
  obtain ⟨k, rfl⟩ : ∃ m, k = m + 6 := ⟨k - 6, by omega⟩
  unfold sum_Get.f Plain.getF
  rw [Plain.wrap64_id (x := (l.length : Int) - 4) (by omega) (by omega)]
  by_cases ha : a < 0
  · rw [if_pos ha, if_pos (.inl ha)]
    simp only [sum_Get.j0, if_true]
  rw [if_neg ha]
  by_cases hb' : (l.length : Int) - 4 < a
  · rw [if_pos (.inr hb'), decide_eq_true (show a > (l.length : Int) - 4 from hb')]
    simp only [sum_Get.j0, if_true]
  rw [if_neg (by omega), decide_eq_false (show ¬ a > (l.length : Int) - 4 from hb')]
  simp only [sum_Get.j0, Bool.false_eq_true, if_false]
  rw [Plain.wrap64_id (x := a + 4) (by omega) (by omega), if_pos (by omega), if_pos (by omega), if_pos (by omega)]
  obtain ⟨m, rfl⟩ := Int.eq_ofNat_of_zero_le (show 0 ≤ a by omega)
  have hlen : ((l.take ((m : Int) + 4).toNat).drop (m : Int).toNat).length = 4 := by
    rw [List.length_drop, List.length_take]; omega
  have hrd : ∀ j : Nat, j < 4 → rd ((l.take ((m : Int) + 4).toNat).drop (m : Int).toNat) (j : Int) = rd l ((m : Int) + j) := by
    intro j hj
    unfold rd
    rw [List.getD_eq_getElem?_getD, List.getD_eq_getElem?_getD, List.getElem?_drop, List.getElem?_take]
    rw [if_pos (by omega)]
    congr 2
  have q0 := hrd 0 (by decide); have q1 := hrd 1 (by decide); have q2 := hrd 2 (by decide); have q3 := hrd 3 (by decide)
  generalize (l.take ((m : Int) + 4).toNat).drop (m : Int).toNat = xs at *
  rw [hlen]
  have w (x : Int) (h0 : -9223372036854775808 ≤ x) (h1 : x ≤ 9223372036854775807) := Plain.wrap64_id h0 h1
  simp only [sum_Get.l0]
  rw [w (0 + 1) (by decide) (by decide), w (0 + 1 + 1) (by decide) (by decide), w (0 + 1 + 1 + 1) (by decide) (by decide), w (0 + 1 + 1 + 1 + 1) (by decide) (by decide)]
  rw [hlen]
  rw [if_pos (by decide), if_pos (by decide), if_pos (by decide), if_pos (by decide), if_pos (by decide), if_pos (by decide), if_pos (by decide), if_pos (by decide), if_pos (by decide), if_pos (by decide), if_pos (by decide), if_pos (by decide), if_neg (by decide)]
  rw [show ((0 : Int)) + 1 = ((1 : Nat) : Int) from rfl, show ((1 : Nat) : Int) + 1 = ((2 : Nat) : Int) from rfl, show ((2 : Nat) : Int) + 1 = ((3 : Nat) : Int) from rfl]
  rw [show rd xs 0 = rd l (m : Int) from by rw [show (0 : Int) = ((0 : Nat) : Int) from rfl, q0]; simp, q1, q2, q3]
  have r0 := hb.at (m : Int); have r1 := hb.at ((m : Int) + 1); have r2 := hb.at ((m : Int) + 2); have r3 := hb.at ((m : Int) + 3)
  rw [show ((1 : Nat) : Int) = 1 from rfl, show ((2 : Nat) : Int) = 2 from rfl, show ((3 : Nat) : Int) = 3 from rfl]
  rw [Plain.shift_in (x := 0) (by decide) (by decide) r0.1 r0.2, Plain.shift_in (x := 0 * 256 + rd l m) (by omega) (by omega) r1.1 r1.2, Plain.shift_in (x := (0 * 256 + rd l m) * 256 + rd l (m + 1)) (by omega) (by omega) r2.1 r2.2, Plain.shift_in (x := ((0 * 256 + rd l m) * 256 + rd l (m + 1)) * 256 + rd l (m + 2)) (by omega) (by omega) r3.1 r3.2]
  congr 1; omega
theorem clone_is (l : List Int) (h : l.length < 140737488355328) : slices_Clone_byte_byte.f l = some l := by
  unfold slices_Clone_byte_byte.f; rw [if_pos h]
theorem bytes_is (k : Nat) (ep sq : Int) (b : List Int) (hb : b.length < 4294967296) (hk : b.length + 20 ≤ k) : frame_Bytes.f k ep sq b = some (Plain.frameF ep sq b) := by
  unfold frame_Bytes.f
  have hm : (b.length : Int) % 4294967296 = b.length := by omega
  rw [put_is k _ _ (by simp) (by omega), Option.bind_some, put_is k _ _ (by simp [Plain.put4]) (by omega), Option.bind_some, hm, put_is k _ _ (by simp [Plain.put4]) (by omega), Option.bind_some]
  have h0 : ([] ++ Plain.put4 ep ++ Plain.put4 sq ++ Plain.put4 (b.length : Int)) = Plain.headF ep sq b.length := rfl
  rw [h0, Plain.headF_length, if_pos (by omega), Option.bind_some]
  show (sum_Of.f k (Plain.bodyF ep sq b)).bind _ = _
  rw [of_is k _ (by rw [Plain.bodyF_length]; omega) (by rw [Plain.bodyF_length]; omega), Option.bind_some]
  show (sum_Put.f k (Plain.bodyF ep sq b) _).bind _ = _
  rw [put_is k _ _ (by rw [Plain.bodyF_length]; omega) (by omega), Option.bind_some]
  rfl
theorem read_j0 (k : Nat) (l : List Int) (ep sq : Int) (hb : Plain.Bytes l) (hl : l.length ≤ 140737488355000) (hk : l.length + 20 ≤ k) (h16 : ¬ (l.length : Int) < 16) (h0 : Plain.getF l 0 = ep) (h4 : Plain.getF l 4 = sq) :
    frame_Read.j0 (k + 1) l false = some (Plain.readF l ep sq) := by
  simp only [frame_Read.j0, Bool.false_eq_true, if_false]
  have g := Plain.getF_rng hb 8
  rw [get_is k l 8 (by omega) hb (by decide) (by decide) (by omega), Option.bind_some]
  have u1 : IntKind.u64.wrap (Plain.getF l 8) = Plain.getF l 8 := by rw [Plain.wrap_u64]; omega
  have w1 : wrap64 ((l.length : Int) - 16) = l.length - 16 := Plain.wrap64_id (by omega) (by omega)
  have u2 : IntKind.u64.wrap ((l.length : Int) - 16) = l.length - 16 := by rw [Plain.wrap_u64]; omega
  have w2 : wrap64 (Plain.getF l 8) = Plain.getF l 8 := Plain.wrap64_id (by omega) (by omega)
  have w3 : wrap64 (12 + Plain.getF l 8) = 12 + Plain.getF l 8 := Plain.wrap64_id (by omega) (by omega)
  rw [u1, w1, u2, w2, w3]
  unfold Plain.readF
  by_cases h : Plain.getF l 8 > (l.length : Int) - 16
  · have hs : (l.length : Int) < 16 ∨ Plain.getF l 0 ≠ ep ∨ Plain.getF l 4 ≠ sq ∨ (l.length : Int) - 16 < Plain.getF l 8 := .inr (.inr (.inr h))
    rw [if_pos h, if_pos hs]
  · have hs : ¬ ((l.length : Int) < 16 ∨ Plain.getF l 0 ≠ ep ∨ Plain.getF l 4 ≠ sq ∨ (l.length : Int) - 16 < Plain.getF l 8) := by
      rintro (z | z | z | z)
      · exact h16 z
      · exact z h0
      · exact z h4
      · exact h z
    rw [if_neg h, if_neg hs, get_is k l _ (by omega) hb (by omega) (by omega) (by omega), Option.bind_some, if_pos (by omega), if_pos (by omega)]
    rw [of_is k _ (by rw [List.length_take]; omega) (by rw [List.length_take]; omega), Option.bind_some]
    by_cases e : Plain.getF l (12 + Plain.getF l 8) = Plain.sumF (l.take (12 + Plain.getF l 8).toNat)
    · rw [if_pos e, if_pos e, if_pos (by omega), clone_is _ (by rw [List.length_drop, List.length_take]; omega), Option.bind_some, Plain.wrap64_id (x := 12 + Plain.getF l 8 + 4) (by omega) (by omega)]
    · rw [if_neg e, if_neg e]
theorem read_is (k : Nat) (l : List Int) (ep sq : Int) (hb : Plain.Bytes l) (hl : l.length ≤ 140737488355000) (hk : l.length + 21 ≤ k) :
    frame_Read.f k l ep sq = some (Plain.readF l ep sq) := by
  obtain ⟨k, rfl⟩ : ∃ m, k = m + 1 := ⟨k - 1, by omega⟩
  unfold frame_Read.f
  have no : ∀ h : ((l.length : Int) < 16 ∨ Plain.getF l 0 ≠ ep ∨ Plain.getF l 4 ≠ sq ∨ (l.length : Int) - 16 < Plain.getF l 8), frame_Read.j0 (k + 1) l true = some (Plain.readF l ep sq) := by
    intro h
    simp only [frame_Read.j0, if_true]
    unfold Plain.readF
    rw [if_pos h]
  by_cases h16 : (l.length : Int) < 16
  · rw [if_pos h16]; exact no (.inl h16)
  rw [if_neg h16, get_is _ l 0 (by omega) hb (by decide) (by decide) (by omega), Option.bind_some]
  by_cases h0 : Plain.getF l 0 = ep
  · rw [if_pos h0, get_is _ l 4 (by omega) hb (by decide) (by decide) (by omega), Option.bind_some]
    by_cases h4 : Plain.getF l 4 = sq
    · rw [show (Plain.getF l 4 != sq) = false from bne_eq_false_iff_eq.mpr h4]
      exact read_j0 k l ep sq hb hl (by omega) h16 h0 h4
    · rw [show (Plain.getF l 4 != sq) = true from bne_iff_ne.mpr h4]
      exact no (.inr (.inr (.inl h4)))
  · rw [if_neg h0]; exact no (.inr (.inl h0))
theorem within_is (k : Nat) (n lo hi : Int) (h0 : -1000000 ≤ lo) (h1 : lo ≤ hi) (h2 : hi ≤ 1000000) : ∃ r, engrambook_Within.f (k + 1) n lo hi = some r ∧ lo ≤ r ∧ r ≤ hi ∧ (lo ≤ n → n ≤ hi → r = n) := by
  have hj : ∀ b : Bool, b = decide (lo ≤ n ∧ n ≤ hi) → ∃ r, engrambook_Within.j0 (k + 1) n lo hi b = some r ∧ lo ≤ r ∧ r ≤ hi ∧ (lo ≤ n → n ≤ hi → r = n) := by
    intro b hb
    simp only [engrambook_Within.j0]
    by_cases h : lo ≤ n ∧ n ≤ hi
    · rw [if_pos (by rw [hb]; exact decide_eq_true h)]
      exact ⟨n, rfl, h.1, h.2, fun _ _ => rfl⟩
    · rw [if_neg (by rw [hb]; simpa using h)]
      have e : wrap64 (wrap64 (hi - lo) + 1) = hi - lo + 1 := by
        rw [Plain.wrap64_id (x := hi - lo) (by omega) (by omega), Plain.wrap64_id (by omega) (by omega)]
      rw [e, if_neg (by omega)]
      have m1 := Int.tmod_lt_of_pos n (b := hi - lo + 1) (by omega)
      have m2 := Int.lt_tmod_of_pos n (b := hi - lo + 1) (by omega)
      generalize Int.tmod n (hi - lo + 1) = m at *
      by_cases hm : m < 0
      · rw [if_pos hm]
        refine ⟨lo + (m + hi - lo + 1), ?_, by omega, by omega, fun a b => absurd ⟨a, b⟩ h⟩
        rw [Plain.wrap64_id (x := m + hi) (by omega) (by omega), Plain.wrap64_id (x := m + hi - lo) (by omega) (by omega), Plain.wrap64_id (x := m + hi - lo + 1) (by omega) (by omega), Plain.wrap64_id (by omega) (by omega)]
      · rw [if_neg hm]
        refine ⟨lo + m, ?_, by omega, by omega, fun a b => absurd ⟨a, b⟩ h⟩
        rw [Plain.wrap64_id (by omega) (by omega)]
  unfold engrambook_Within.f
  by_cases h : n ≥ lo
  · rw [if_pos h]
    exact hj _ (by rw [Bool.eq_iff_iff]; simp; omega)
  · rw [if_neg h]
    exact hj _ (by rw [Bool.eq_iff_iff]; simp; omega)

/-- frame j of the row; the one at the gap is of another epoch -/
def seg (ep : Int) (g : Int) (j : Nat) : List Int := if (j : Int) = g then Plain.frameF ((ep + 1) % 4294967296) (j : Int) [(j : Int)] else Plain.frameF ep (j : Int) [(j : Int)]
def cat (ep g : Int) : Nat → List Int
  | 0 => []
  | j + 1 => cat ep g j ++ seg ep g j
def tl (ep g : Int) : Nat → Nat → List Int
  | _, 0 => []
  | j, d + 1 => seg ep g j ++ tl ep g (j + 1) d
theorem seg_length (ep g : Int) (j : Nat) : (seg ep g j).length = 17 := by unfold seg; split <;> rw [Plain.frameF_length] <;> rfl
theorem cat_length (ep g : Int) : ∀ j, (cat ep g j).length = 17 * j
  | 0 => rfl
  | j + 1 => by rw [cat, List.length_append, cat_length ep g j, seg_length]; omega
theorem cat_tl (ep g : Int) : ∀ d j, cat ep g (j + d) = cat ep g j ++ tl ep g j d := by
  intro d
  induction d with
  | zero => intro j; simp [tl]
  | succ d ih =>
    intro j
    have := ih (j + 1)
    rw [show j + 1 + d = j + (d + 1) from by omega] at this
    rw [this, cat, tl, List.append_assoc]
theorem one_bytes (j : Nat) (h : j < 10) : Plain.Bytes [(j : Int)] := Plain.Bytes.cons (by omega) (by omega) Plain.Bytes.nil
theorem seg_bytes (ep g : Int) (j : Nat) (h : j < 10) : Plain.Bytes (seg ep g j) := by
  unfold seg; split
  · exact Plain.frameF_bytes _ _ (one_bytes j h)
  · exact Plain.frameF_bytes _ _ (one_bytes j h)
theorem tl_bytes (ep g : Int) : ∀ d j, j + d ≤ 10 → Plain.Bytes (tl ep g j d) := by
  intro d
  induction d with
  | zero => intro j _; exact Plain.Bytes.nil
  | succ d ih => intro j h; exact (seg_bytes ep g j (by omega)).app (ih (j + 1) (by omega))
theorem tl_length (ep g : Int) : ∀ d j, (tl ep g j d).length = 17 * d := by
  intro d
  induction d with
  | zero => intro j; rfl
  | succ d ih => intro j; rw [tl, List.length_append, seg_length, ih]; omega
def recs (j : Nat) : List (List Int) := (List.range j).map fun i : Nat => [(i : Int)]
theorem recs_succ (j : Nat) : recs j ++ [[(j : Int)]] = recs (j + 1) := by unfold recs; rw [List.range_succ, List.map_append]; rfl
theorem recs_length (j : Nat) : (recs j).length = j := by simp [recs]
theorem drop_cat (ep g : Int) (n j : Nat) (h : j ≤ n) : (cat ep g n).drop (17 * j) = tl ep g j (n - j) := by
  have := cat_tl ep g (n - j) j
  rw [show j + (n - j) = n from by omega] at this
  rw [this, List.drop_append_of_le_length (by rw [cat_length]; omega), List.drop_of_length_le (by rw [cat_length]; omega), List.nil_append]
/-- the row is scanned up to the gap -/
theorem scan (ep g : Int) (n : Nat) (hn : n ≤ 9) (e0 : 0 ≤ ep) (e1 : ep ≤ 4294967295) (w : Nat) (hw : (w : Int) = if g < n then g else n) (_g0 : 0 ≤ g) : ∀ (d k j : Nat), j + d = w → d + 300 < k →
    frame_Scan.l0 k (cat ep g n) ep (recs j) ((17 * j : Nat) : Int) = some (recs w, ((17 * w : Nat) : Int)) := by
  have hwn : w ≤ n := by split at hw <;> omega
  have hlen := cat_length ep g n
  intro d
  induction d with
  | zero =>
    intro k j hj hk
    obtain ⟨k, rfl⟩ : ∃ m, k = m + 1 := ⟨k - 1, by omega⟩
    obtain rfl : j = w := by omega
    simp only [frame_Scan.l0]
    rw [if_pos (by omega), if_pos (by omega), Int.toNat_natCast, drop_cat ep g n j hwn, recs_length, show ((j : Int) % 4294967296) = j from by omega]
    have hr : (Plain.readF (tl ep g j (n - j)) ep (j : Int)).2.2 = false := by
      by_cases hjn : j = n
      · rw [hjn, Nat.sub_self]; unfold Plain.readF tl; rw [if_pos (.inl (by decide))]
      · have hg : (j : Int) = g := by split at hw <;> omega
        obtain ⟨d, hd⟩ : ∃ d, n - j = d + 1 := ⟨n - j - 1, by omega⟩
        rw [hd, tl]
        unfold seg
        rw [if_pos hg]
        have := Plain.readF_other ((ep + 1) % 4294967296) (j : Int) ep (j : Int) [(j : Int)] (by omega) (by omega) (by omega) (by omega) (.inl (by omega)) (tl ep g (j + 1) d)
        rw [this]
    rw [read_is k _ ep _ (tl_bytes ep g _ j (by omega)) (by rw [tl_length]; omega) (by rw [tl_length]; omega), Option.bind_some, if_neg (by rw [hr]; decide)]
  | succ d ih =>
    intro k j hj hk
    obtain ⟨k, rfl⟩ : ∃ m, k = m + 1 := ⟨k - 1, by omega⟩
    simp only [frame_Scan.l0]
    rw [if_pos (by omega), if_pos (by omega), Int.toNat_natCast, drop_cat ep g n j (by omega), recs_length, show ((j : Int) % 4294967296) = j from by omega]
    have hg : (j : Int) ≠ g := by split at hw <;> omega
    obtain ⟨q, hq⟩ : ∃ q, n - j = q + 1 := ⟨n - j - 1, by omega⟩
    have hr : Plain.readF (tl ep g j (n - j)) ep (j : Int) = ([(j : Int)], 17, true) := by
      rw [hq, tl]
      unfold seg
      rw [if_neg hg]
      have := Plain.readF_frame ep (j : Int) [(j : Int)] (tl ep g (j + 1) q) e0 (by omega) (by omega) (by omega) (by simp)
      rw [this]; rfl
    rw [read_is k _ ep _ (tl_bytes ep g _ j (by omega)) (by rw [tl_length]; omega) (by rw [tl_length]; omega), hr, Option.bind_some]
    dsimp only
    rw [if_pos rfl, if_pos (by omega), recs_succ]
    rw [Plain.wrap64_id (by omega) (by omega), show (((17 * j : Nat) : Int) + 17) = ((17 * (j + 1) : Nat) : Int) from by omega]
    exact ih k (j + 1) (by omega) (by omega)
theorem rd_recs (w : Nat) (i : Nat) (h : i < w) : rd_L1 (recs w) (i : Int) = [(i : Int)] := by
  unfold rd_L1 recs
  rw [Int.toNat_natCast, List.getD_eq_getElem?_getD, List.getElem?_map, List.getElem?_range h]; rfl
theorem looks (w : Nat) (hw : w ≤ 9) : ∀ (d k i : Nat), i + d = w → d < k → engramlaw3_FrameScans.l1 k (recs w) ((recs w).length : Int) (i : Int) = some true := by
  intro d
  induction d with
  | zero =>
    intro k i hi hk
    obtain ⟨k, rfl⟩ : ∃ m, k = m + 1 := ⟨k - 1, by omega⟩
    simp only [engramlaw3_FrameScans.l1]
    rw [recs_length, if_neg (by omega)]; rfl
  | succ d ih =>
    intro k i hi hk
    obtain ⟨k, rfl⟩ : ∃ m, k = m + 1 := ⟨k - 1, by omega⟩
    simp only [engramlaw3_FrameScans.l1]
    have h1 := ih k (i + 1) (by omega) (by omega)
    rw [recs_length] at h1 ⊢
    rw [if_pos (by omega), if_pos (by omega), if_pos (by omega), rd_recs w i (by omega)]
    rw [if_pos (show (([(i : Int)] : List Int).length : Int) = 1 from rfl), if_pos (show (0 : Int) < (([(i : Int)] : List Int).length : Int) from by simp), if_pos (show rd [(i : Int)] 0 = (i : Int) % 256 by show (i : Int) = _; omega), Plain.wrap64_id (by omega) (by omega)]
    exact h1
theorem one_small (c : Int) : ([c] : List Int).length < 4294967296 := by rw [List.length_singleton]; omega
theorem one_fuel (k : Nat) (c : Int) (h : 21 ≤ k) : ([c] : List Int).length + 20 ≤ k := by rw [List.length_singleton]; omega
theorem cat_small (ep g : Int) (i : Nat) (hi : i ≤ 9) (a b c : Int) : (cat ep g i).length + (Plain.frameF a b [c]).length < 140737488355328 := by
  rw [cat_length, Plain.frameF_length, List.length_singleton]; omega
theorem builds (ep g : Int) (n : Nat) (hn : n ≤ 9) (e0 : 0 ≤ ep) (e1 : ep ≤ 4294967295) (g0 : 0 ≤ g) (g1 : g ≤ 9) : ∀ (d k i : Nat) (x : Int), i + d = n → d + 600 < k → x = (if g < i then g else i) →
    engramlaw3_FrameScans.l0 k ep n g (cat ep g i) x i = some true := by
  intro d
  induction d with
  | zero =>
    intro k i x hi hk hx
    obtain ⟨k, rfl⟩ : ∃ m, k = m + 1 := ⟨k - 1, by omega⟩
    obtain rfl : i = n := by omega
    obtain ⟨w, rfl⟩ : ∃ w : Nat, x = w := ⟨x.toNat, by split at hx <;> omega⟩
    have hw9 : w ≤ 9 := by split at hx <;> omega
    have hs := scan ep g i hn e0 e1 w hx g0 w k 0 (by omega) (by omega)
    simp only [engramlaw3_FrameScans.l0]
    rw [if_neg (by omega)]
    have hs0 : frame_Scan.f k (cat ep g i) ep = some (recs w, ((17 * w : Nat) : Int)) := hs
    clear hs
    obtain ⟨k, rfl⟩ : ∃ m, k = m + 1 := ⟨k - 1, by omega⟩
    rw [hs0, Option.bind_some, recs_length, if_pos rfl, Plain.wrap64_id (x := (w : Int) * 17) (by omega) (by omega), show ((((17 * w : Nat) : Int)) != (w : Int) * 17) = false from bne_eq_false_iff_eq.mpr (by omega)]
    show (if false = true then some false else engramlaw3_FrameScans.l1 k (recs w) ((recs w).length : Int) 0) = some true
    rw [if_neg (by decide)]
    exact looks w hw9 w k 0 (by omega) (by omega)
  | succ d ih =>
    intro k i x hi hk hx
    obtain ⟨k, rfl⟩ : ∃ m, k = m + 1 := ⟨k - 1, by omega⟩
    have hi9 : i ≤ 9 := by omega
    have hk20 : 21 ≤ k := by omega
    simp only [engramlaw3_FrameScans.l0]
    have m1 : (i : Int) % 4294967296 = i := by omega
    have m2 : (i : Int) % 256 = i := by omega
    have m3 : wrap64 ((i : Int) + 1) = ((i + 1 : Nat) : Int) := by rw [Plain.wrap64_id (by omega) (by omega)]; omega
    rw [if_pos (by omega), m1, m2, m3]
    clear m1 m2 m3
    by_cases h : (i : Int) = g
    · rw [if_pos h, bytes_is k ((ep + 1) % 4294967296) (i : Int) [(i : Int)] (one_small _) (one_fuel k _ hk20), Option.bind_some, if_pos (cat_small ep g i hi9 _ _ _)]
      have : cat ep g i ++ Plain.frameF ((ep + 1) % 4294967296) (i : Int) [(i : Int)] = cat ep g (i + 1) := by rw [cat]; unfold seg; rw [if_pos h]
      rw [this]
      exact ih k (i + 1) x (by omega) (by omega) (by rw [hx]; split <;> split <;> omega)
    · rw [if_neg h, bytes_is k ep (i : Int) [(i : Int)] (one_small _) (one_fuel k _ hk20), Option.bind_some, if_pos (cat_small ep g i hi9 _ _ _), Option.bind_some]
      have : cat ep g i ++ Plain.frameF ep (i : Int) [(i : Int)] = cat ep g (i + 1) := by rw [cat]; unfold seg; rw [if_neg h]
      rw [this]
      by_cases hlt : (i : Int) < g
      · rw [if_pos hlt, Plain.wrap64_id (x := x + 1) (by split at hx <;> omega) (by split at hx <;> omega)]
        exact ih k (i + 1) (x + 1) (by omega) (by omega) (by rw [hx]; split <;> split <;> omega)
      · rw [if_neg hlt]
        exact ih k (i + 1) x (by omega) (by omega) (by rw [hx]; split <;> split <;> omega)
end FrameScansL
open FrameScansL in
theorem FrameScans : engramlaw3_FrameScans.Pure := by
  intro a0 a1 a2 _ _ w2
  have ⟨e0, e1⟩ := Plain.u32_wf w2
  refine ⟨799 + 1, ?_⟩
  unfold engramlaw3_FrameScans.f
  obtain ⟨n, en, n0, n1, -⟩ := within_is 799 a0 0 9 (by decide) (by decide) (by decide)
  obtain ⟨g, eg, g0, g1, -⟩ := within_is 799 a1 0 9 (by decide) (by decide) (by decide)
  rw [en, Option.bind_some, eg, Option.bind_some]
  obtain ⟨n, rfl⟩ := Int.eq_ofNat_of_zero_le n0
  exact builds a2 g n (by omega) e0 e1 g0 g1 n 800 0 0 (by omega) (by omega) (by split <;> omega)

end Go.Proofs.Ytkcinjimjehcnaa.Pure
