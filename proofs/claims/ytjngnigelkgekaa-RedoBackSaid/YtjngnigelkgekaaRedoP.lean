/- Chapter 16's log, plainly. -/
import Derived.Test.YtjngnigelkgekaaHome2
namespace Go.Proofs.Ytjngnigelkgekaa.Redo
set_option linter.unusedVariables false
open Go.RowKit Go.Proofs.YtjngnigelkgekaaW.PrintWords Go.Proofs.YtjngnigelkgekaaW.PrintLast Go.Proofs.YtjngnigelkgekaaW.PrintMore Go.Proofs.Ytjngnigelkgekaa.Kit Go.Proofs.Ytjngnigelkgekaa.Plain Go.Proofs.Ytjngnigelkgekaa.Disk Go.Proofs.Ytjngnigelkgekaa.Root
/-- What waits behind bytes that were written into the log: each sector that they touch. -/
def appW (las : List Int) (wt : Wt) (at_ : Nat) (b : List Int) : Wt := fun j =>
  if b ≠ [] ∧ 64 * j < 128 + at_ + b.length ∧ 128 + at_ < 64 * j + 64 then some (sec (over (flushed las wt) (128 + at_) b) j) else wt j
theorem appW_nil (las : List Int) (wt : Wt) (at_ : Nat) : appW las wt at_ [] = wt := by
  funext j
  unfold appW
  exact if_neg (fun h => h.1 rfl)
theorem over_over {α : Type} {xs ys zs : List α} {o : Nat} (h : o + (ys.length + zs.length) ≤ xs.length) : over (over xs o ys) (o + ys.length) zs = over xs o (ys ++ zs) := by
  apply List.ext_getElem?
  intro j
  rw [over_get (by rw [over_len (by omega)]; omega), over_get (by omega), over_get (by rw [List.length_append]; omega), List.length_append]
  by_cases h1 : o + ys.length ≤ j ∧ j < o + ys.length + zs.length
  · rw [if_pos h1, if_pos (by omega), List.getElem?_append_right (by omega)]
    congr 1
    omega
  · rw [if_neg h1]
    by_cases h2 : o ≤ j ∧ j < o + ys.length
    · rw [if_pos h2, if_pos (by omega), List.getElem?_append_left (by omega)]
    · rw [if_neg h2, if_neg (by omega)]
theorem sec_over_out {xs ys : List Int} {o i : Nat} (h : o + ys.length ≤ xs.length) (ho : 64 * i + 64 ≤ o ∨ o + ys.length ≤ 64 * i) : sec (over xs o ys) i = sec xs i := by
  apply List.ext_getElem?
  intro j
  by_cases hj : j < 64
  · rw [sec_get _ _ _ hj, sec_get _ _ _ hj, over_get h, if_neg (by omega)]
  · have l1 : (sec (over xs o ys) i).length ≤ 64 := by unfold sec; rw [List.length_take]; omega
    have l2 : (sec xs i).length ≤ 64 := by unfold sec; rw [List.length_take]; omega
    rw [List.getElem?_eq_none (by omega), List.getElem?_eq_none (by omega)]
/-- A sector laid anew, of which a part is. -/
theorem over_sec {xs ys : List Int} {i f : Nat} (hl : 64 * (i + 1) ≤ xs.length) (hf : f + ys.length ≤ 64) : over xs (64 * i) (over (sec xs i) f ys) = over xs (64 * i + f) ys := by
  have hs := sec_len hl
  have hol : (over (sec xs i) f ys).length = 64 := by rw [over_len (by omega), hs]
  apply List.ext_getElem?
  intro j
  rw [over_get (xs := xs) (o := 64 * i) (ys := over (sec xs i) f ys) (by omega), over_get (xs := xs) (o := 64 * i + f) (ys := ys) (by omega), hol]
  by_cases h1 : 64 * i ≤ j ∧ j < 64 * i + 64
  · rw [if_pos h1, over_get (by omega)]
    by_cases h2 : f ≤ j - 64 * i ∧ j - 64 * i < f + ys.length
    · rw [if_pos h2, if_pos (by omega)]
      congr 1
      omega
    · rw [if_neg h2, if_neg (by omega), sec_get _ _ _ (by omega)]
      congr 1
      omega
  · rw [if_neg h1, if_neg (by omega)]
/-- One sector of the bytes. -/
theorem appW_step {n at_ : Nat} {las b : List Int} {wt : Wt} (hl : las.length = 64 * n) (hw : ∀ i b, wt i = some b → b.length = 64) (hb : b ≠ []) (hfit : 128 + at_ + b.length ≤ 64 * n) {k : Nat} (hk : k = min (64 - at_ % 64) b.length) :
    appW las (putW n wt (2 + at_ / 64) (over (secF n las wt (2 + at_ / 64)) (at_ % 64) (b.take k))) (at_ + k) (b.drop k) = appW las wt at_ b := by
  have hbl : 0 < b.length := List.length_pos_iff.2 hb
  obtain ⟨i, hi⟩ : ∃ i, 2 + at_ / 64 = i := ⟨_, rfl⟩
  have hin : i < n := by omega
  have hsF : secF n las wt i = sec (flushed las wt) i := by
    unfold secF; rw [if_pos hin, Ref.sec_flushed hl hw hin]
  have hFl := Ref.flushed_len hl hw
  have htk : (b.take k).length = k := by rw [List.length_take]; omega
  have hx : (over (secF n las wt i) (at_ % 64) (b.take k)).length = 64 := by
    rw [hsF, over_len (by rw [sec_len (by omega)]; omega), sec_len (by omega)]
  rw [hi]
  have hp : putW n wt i (over (secF n las wt i) (at_ % 64) (b.take k)) = (fun j => if j = i then some (over (secF n las wt i) (at_ % 64) (b.take k)) else wt j) := if_pos ⟨hin, hx⟩
  have hF1 : flushed las (putW n wt i (over (secF n las wt i) (at_ % 64) (b.take k))) = over (flushed las wt) (128 + at_) (b.take k) := by
    rw [hp, ← Ref.flushed_write hl hw hin hx, hsF, over_sec (by omega) (by omega), show 64 * i + at_ % 64 = 128 + at_ by omega]
  have hG : over (over (flushed las wt) (128 + at_) (b.take k)) (128 + (at_ + k)) (b.drop k) = over (flushed las wt) (128 + at_) b := by
    have h := over_over (xs := flushed las wt) (ys := b.take k) (zs := b.drop k) (o := 128 + at_) (by rw [htk, List.length_drop]; omega)
    rw [htk, List.take_append_drop, show 128 + at_ + k = 128 + (at_ + k) by omega] at h
    exact h
  funext j
  unfold appW
  rw [hF1, hG, List.length_drop]
  have hdk : b.drop k ≠ [] ↔ k < b.length := by
    constructor
    · intro h
      have := List.length_pos_iff.2 h
      rw [List.length_drop] at this
      omega
    · intro h h2
      have := congrArg List.length h2
      rw [List.length_drop, List.length_nil] at this
      omega
  by_cases h2 : b.drop k ≠ [] ∧ 64 * j < 128 + (at_ + k) + (b.length - k) ∧ 128 + (at_ + k) < 64 * j + 64
  · have h3 := hdk.1 h2.1
    rw [if_pos h2, if_pos ⟨hb, by omega, by omega⟩]
  · rw [if_neg h2, hp]
    dsimp only
    by_cases hj : j = i
    · subst hj
      rw [if_pos rfl, if_pos ⟨hb, by omega, by omega⟩]
      congr 1
      have hsec : sec (over (flushed las wt) (128 + at_) (b.take k)) j = over (secF n las wt j) (at_ % 64) (b.take k) := by
        rw [← hF1, Ref.sec_flushed hl (putW_len hw) hin, hp]
        simp
      rw [← hsec, ← hG]
      by_cases hkb : k < b.length
      · exact (sec_over_out (by rw [over_len (by rw [htk]; omega), List.length_drop]; omega) (.inl (by omega))).symm
      · rw [List.drop_of_length_le (by omega), over_nil]
    · rw [if_neg hj]
      by_cases h1 : b ≠ [] ∧ 64 * j < 128 + at_ + b.length ∧ 128 + at_ < 64 * j + 64
      · exfalso
        obtain ⟨-, h1a, h1b⟩ := h1
        refine h2 ⟨hdk.2 ?_, ?_, ?_⟩ <;> omega
      · rw [if_neg h1]
end Go.Proofs.Ytjngnigelkgekaa.Redo
