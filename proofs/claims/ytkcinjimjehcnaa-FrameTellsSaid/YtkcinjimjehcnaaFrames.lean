/- Plain laws on frames: a record, its head of three numbers, its sum; what is read of it. No condition. -/
import Derived.Test.YtkcinjimjehcnaaBytes
namespace Go.Proofs.Ytkcinjimjehcnaa.Plain
open Go Go.RowKit Go.Proofs.YtkcinjimjehcnaaW.PrintWords Go.Proofs.YtkcinjimjehcnaaW.PrintLast Go.Proofs.YtkcinjimjehcnaaW.PrintMore

theorem stepF_rng (h b : Int) : 0 ≤ stepF h b ∧ stepF h b < 4294967296 := by unfold stepF; omega
theorem fold_rng (l : List Int) : ∀ h, 0 ≤ h → h < 4294967296 → 0 ≤ l.foldl stepF h ∧ l.foldl stepF h < 4294967296 := by
  induction l with
  | nil => intro h a b; exact ⟨a, b⟩
  | cons x l ih => intro h _ _; exact ih _ (stepF_rng h x).1 (stepF_rng h x).2
theorem sumF_rng (l : List Int) : 0 ≤ sumF l ∧ sumF l < 4294967296 := fold_rng l _ (by decide) (by decide)

theorem rd_app (a b : List Int) (i : Nat) : rd (a ++ b) ((a.length + i : Nat) : Int) = rd b (i : Int) := by
  unfold rd
  rw [Int.toNat_natCast, Int.toNat_natCast, List.getD_eq_getElem?_getD, List.getD_eq_getElem?_getD, List.getElem?_append_right (by omega)]
  congr 2; omega
theorem rd_left (a b : List Int) (i : Int) (h0 : 0 ≤ i) (h : i < a.length) : rd (a ++ b) i = rd a i := by
  unfold rd
  rw [List.getD_eq_getElem?_getD, List.getD_eq_getElem?_getD, List.getElem?_append_left (by omega)]
/-- a number that was laid is got -/
theorem getF_put (a c : List Int) (n : Int) (n0 : 0 ≤ n) (n1 : n < 4294967296) : getF (a ++ put4 n ++ c) (a.length : Int) = n := by
  unfold getF
  have hl : (a ++ put4 n ++ c).length = a.length + 4 + c.length := by simp [put4]; omega
  rw [if_neg (by rw [hl]; omega), List.append_assoc]
  have e : ∀ i : Nat, i < 4 → rd (a ++ (put4 n ++ c)) ((a.length : Int) + i) = rd (put4 n) i := by
    intro i hi
    rw [show (a.length : Int) + (i : Int) = ((a.length + i : Nat) : Int) from by omega, rd_app, rd_left _ _ _ (by omega) (by rw [put4_length]; omega)]
  have e0 := e 0 (by decide); have e1 := e 1 (by decide); have e2 := e 2 (by decide); have e3 := e 3 (by decide)
  rw [show (a.length : Int) + ((0 : Nat) : Int) = a.length from by omega] at e0
  rw [show ((1 : Nat) : Int) = 1 from rfl] at e1
  rw [show ((2 : Nat) : Int) = 2 from rfl] at e2
  rw [show ((3 : Nat) : Int) = 3 from rfl] at e3
  rw [e0, e1, e2, e3]
  have r0 : rd (put4 n) ((0 : Nat) : Int) = n / 16777216 % 256 := rfl
  have r1 : rd (put4 n) 1 = n / 65536 % 256 := rfl
  have r2 : rd (put4 n) 2 = n / 256 % 256 := rfl
  have r3 : rd (put4 n) 3 = n % 256 := rfl
  rw [r0, r1, r2, r3]
  omega
theorem getF_rng {l : List Int} (hb : Bytes l) (a : Int) : 0 ≤ getF l a ∧ getF l a < 4294967296 := by
  unfold getF
  have r0 := hb.at a; have r1 := hb.at (a + 1); have r2 := hb.at (a + 2); have r3 := hb.at (a + 3)
  split <;> omega
/-- numbers are laid anew what they were -/
theorem put_getF {l : List Int} (hb : Bytes l) (m : Nat) (h : m + 4 ≤ l.length) : put4 (getF l m) = (l.drop m).take 4 := by
  unfold getF
  rw [if_neg (by omega)]
  have r0 := hb.at (m : Int); have r1 := hb.at ((m : Int) + 1); have r2 := hb.at ((m : Int) + 2); have r3 := hb.at ((m : Int) + 3)
  have e : (l.drop m).take 4 = [rd l m, rd l ((m : Int) + 1), rd l ((m : Int) + 2), rd l ((m : Int) + 3)] := by
    apply List.ext_getElem?
    intro i
    rw [List.getElem?_take]
    by_cases hi : i < 4
    · rw [if_pos hi, List.getElem?_drop]
      have hr : ∀ j : Nat, j < 4 → l[m + j]? = some (rd l ((m : Int) + j)) := by
        intro j hj
        unfold rd
        rw [List.getD_eq_getElem?_getD, show ((m : Int) + j).toNat = m + j from by omega, List.getElem?_eq_getElem (by omega)]; rfl
      rw [hr i hi]
      match i, hi with
      | 0, _ => simp
      | 1, _ => rfl
      | 2, _ => rfl
      | 3, _ => rfl
    · rw [if_neg hi, List.getElem?_eq_none (by simp; omega)]
  rw [e]
  unfold put4
  congr 1
  · omega
  · congr 1
    · omega
    · congr 1
      · omega
      · congr 1
        omega

def headF (ep sq n : Int) : List Int := put4 ep ++ put4 sq ++ put4 n
theorem headF_length (ep sq n : Int) : (headF ep sq n).length = 12 := rfl
/-- a frame without its sum -/
def bodyF (ep sq : Int) (b : List Int) : List Int := headF ep sq b.length ++ b
def frameF (ep sq : Int) (b : List Int) : List Int := bodyF ep sq b ++ put4 (sumF (bodyF ep sq b))
theorem bodyF_length (ep sq : Int) (b : List Int) : (bodyF ep sq b).length = 12 + b.length := by simp [bodyF, headF_length]
theorem frameF_length (ep sq : Int) (b : List Int) : (frameF ep sq b).length = 16 + b.length := by simp [frameF, bodyF_length, put4]; omega
theorem headF_bytes (ep sq n : Int) : Bytes (headF ep sq n) := ((put4_bytes _).app (put4_bytes _)).app (put4_bytes _)
theorem bodyF_bytes (ep sq : Int) {b : List Int} (h : Bytes b) : Bytes (bodyF ep sq b) := (headF_bytes _ _ _).app h
theorem frameF_bytes (ep sq : Int) {b : List Int} (h : Bytes b) : Bytes (frameF ep sq b) := (bodyF_bytes _ _ h).app (put4_bytes _)

/-- what is read: no record, or a record and how long its frame is -/
def readF (l : List Int) (ep sq : Int) : List Int × Int × Bool :=
  if (l.length : Int) < 16 ∨ getF l 0 ≠ ep ∨ getF l 4 ≠ sq ∨ (l.length : Int) - 16 < getF l 8 then ([], 0, false)
  else if getF l (12 + getF l 8) = sumF (l.take (12 + getF l 8).toNat) then ((l.take (12 + getF l 8).toNat).drop 12, 12 + getF l 8 + 4, true)
  else ([], 0, false)

theorem getF_head0 (ep sq n : Int) (c : List Int) (h0 : 0 ≤ ep) (h1 : ep < 4294967296) : getF (headF ep sq n ++ c) 0 = ep := by
  have := getF_put [] (put4 sq ++ put4 n ++ c) ep h0 h1
  simpa [headF] using this
theorem getF_head4 (ep sq n : Int) (c : List Int) (h0 : 0 ≤ sq) (h1 : sq < 4294967296) : getF (headF ep sq n ++ c) 4 = sq := by
  have := getF_put (put4 ep) (put4 n ++ c) sq h0 h1
  rw [show ((put4 ep).length : Int) = 4 from rfl] at this
  simpa [headF] using this
theorem getF_head8 (ep sq n : Int) (c : List Int) (h0 : 0 ≤ n) (h1 : n < 4294967296) : getF (headF ep sq n ++ c) 8 = n := by
  have := getF_put (put4 ep ++ put4 sq) c n h0 h1
  rw [show ((put4 ep ++ put4 sq).length : Int) = 8 from rfl] at this
  simpa [headF] using this

/-- a frame is read as its record, whatever stands behind it -/
theorem readF_frame (ep sq : Int) (b more : List Int) (e0 : 0 ≤ ep) (e1 : ep < 4294967296) (s0 : 0 ≤ sq) (s1 : sq < 4294967296) (hb : b.length < 4294967296) :
    readF (frameF ep sq b ++ more) ep sq = (b, 16 + (b.length : Int), true) := by
  have hsh : frameF ep sq b ++ more = headF ep sq b.length ++ (b ++ put4 (sumF (bodyF ep sq b)) ++ more) := by simp [frameF, bodyF]
  have hsh2 : frameF ep sq b ++ more = bodyF ep sq b ++ put4 (sumF (bodyF ep sq b)) ++ more := rfl
  have hl : (frameF ep sq b ++ more).length = 16 + b.length + more.length := by rw [List.length_append, frameF_length]
  have g0 : getF (frameF ep sq b ++ more) 0 = ep := by rw [hsh]; exact getF_head0 _ _ _ _ e0 e1
  have g4 : getF (frameF ep sq b ++ more) 4 = sq := by rw [hsh]; exact getF_head4 _ _ _ _ s0 s1
  have g8 : getF (frameF ep sq b ++ more) 8 = b.length := by rw [hsh]; exact getF_head8 _ _ _ _ (by omega) (by omega)
  have gs : getF (frameF ep sq b ++ more) (12 + (b.length : Int)) = sumF (bodyF ep sq b) := by
    rw [hsh2]
    have := getF_put (bodyF ep sq b) more (sumF (bodyF ep sq b)) (sumF_rng _).1 (sumF_rng _).2
    rw [bodyF_length] at this
    rw [show (12 + (b.length : Int)) = ((12 + b.length : Nat) : Int) from by omega]
    exact this
  have gt : (frameF ep sq b ++ more).take (12 + (b.length : Int)).toNat = bodyF ep sq b := by
    rw [hsh2, List.append_assoc, List.take_append_of_le_length (by rw [bodyF_length]; omega), List.take_of_length_le (by rw [bodyF_length]; omega)]
  have gd : (bodyF ep sq b).drop 12 = b := by
    unfold bodyF
    rw [List.drop_append_of_le_length (by rw [headF_length]; omega), List.drop_of_length_le (by rw [headF_length]; omega), List.nil_append]
  unfold readF
  rw [g0, g4, g8, gs, gt, gd, hl, if_neg (by omega), if_pos rfl]
  congr 2; omega

/-- what is read is a frame: its record and its own bytes again -/
theorem readF_some {l : List Int} {ep sq : Int} {x : List Int} {n : Int} (hb : Bytes l) (h : readF l ep sq = (x, n, true)) :
    n = 16 + (x.length : Int) ∧ 16 + x.length ≤ l.length ∧ x = (l.take (12 + x.length)).drop 12 := by
  unfold readF at h
  split at h
  · cases h
  · rename_i hc
    split at h
    · have g := getF_rng hb 8
      obtain ⟨rfl, rfl, -⟩ : _ ∧ _ ∧ _ := by simpa only [Prod.mk.injEq] using h
      have hl : ((l.take (12 + getF l 8).toNat).drop 12).length = (getF l 8).toNat := by
        rw [List.length_drop, List.length_take]; omega
      rw [hl]
      refine ⟨by omega, by omega, ?_⟩
      rw [show (12 + getF l 8).toNat = 12 + (getF l 8).toNat from by omega]
    · cases h
end Go.Proofs.Ytkcinjimjehcnaa.Plain
