/- Chapter 16's laws, plainly. -/
import Derived.Test.YtjngnigelkgekaaRedo1
namespace Go.Proofs.Ytjngnigelkgekaa.Redo
set_option linter.unusedVariables false
open Go.RowKit Go.Proofs.YtjngnigelkgekaaW.PrintWords Go.Proofs.YtjngnigelkgekaaW.PrintLast Go.Proofs.YtjngnigelkgekaaW.PrintMore Go.Proofs.Ytjngnigelkgekaa.Kit Go.Proofs.Ytjngnigelkgekaa.Plain Go.Proofs.Ytjngnigelkgekaa.Disk Go.Proofs.Ytjngnigelkgekaa.Root
theorem appW_len {n at_ : Nat} {las b : List Int} {wt : Wt} (hl : las.length = 64 * n) (hw : ∀ i b, wt i = some b → b.length = 64) (hfit : 128 + at_ + b.length ≤ 64 * n) : ∀ i c, appW las wt at_ b i = some c → c.length = 64 := by
  intro i c h
  unfold appW at h
  split at h
  · rename_i ht
    injection h with h
    rw [← h]
    exact sec_len (by rw [over_len (by rw [Ref.flushed_len hl hw]; omega), Ref.flushed_len hl hw]; have := ht.2.1; omega)
  · exact hw i c h
theorem appW_flushed {n at_ : Nat} {las b : List Int} {wt : Wt} (hl : las.length = 64 * n) (hw : ∀ i b, wt i = some b → b.length = 64) (hfit : 128 + at_ + b.length ≤ 64 * n) : flushed las (appW las wt at_ b) = over (flushed las wt) (128 + at_) b := by
  have hF := Ref.flushed_len hl hw
  have hG : (over (flushed las wt) (128 + at_) b).length = 64 * n := by rw [over_len (by omega)]; exact hF
  rw [← secs_self hG]
  unfold flushed
  rw [show las.length / 64 = n by omega]
  refine secs_congr (fun i hi => ?_)
  show (appW las wt at_ b i).getD (sec las i) = sec (over (secs n fun i => (wt i).getD (sec las i)) (128 + at_) b) i
  have hsF := Ref.sec_flushed hl hw hi
  have hfl : flushed las wt = secs n (fun i => (wt i).getD (sec las i)) := by unfold flushed; rw [show las.length / 64 = n by omega]
  rw [hfl] at hsF hF
  unfold appW
  rw [hfl]
  by_cases h : b ≠ [] ∧ 64 * i < 128 + at_ + b.length ∧ 128 + at_ < 64 * i + 64
  · rw [if_pos h]; rfl
  · rw [if_neg h, ← hsF]
    by_cases hb : b = []
    · subst hb; rw [over_nil]
    · refine (sec_over_out (by omega) ?_).symm
      by_cases h1 : 64 * i < 128 + at_ + b.length
      · left
        have : ¬ 128 + at_ < 64 * i + 64 := fun h2 => h ⟨hb, h1, h2⟩
        omega
      · right; omega
theorem secs_shift {G : List Int} (s : Nat) : ∀ m : Nat, 64 * (s + m) ≤ G.length → secs m (fun i => sec G (s + i)) = (G.take (64 * (s + m))).drop (64 * s) := by
  intro m h
  apply List.ext_getElem?
  intro p
  rw [secs_get (fun i hi => sec_len (by omega)), List.getElem?_drop, List.getElem?_take]
  by_cases hp : p < 64 * m
  · rw [if_pos hp, if_pos (by omega), sec_get _ _ _ (by omega), show 64 * (s + p / 64) + p % 64 = 64 * s + p by omega]
  · rw [if_neg hp, if_neg (by omega)]
theorem logF_of {n a : Nat} {las : List Int} {wt : Wt} {b c : Int} (hl : las.length = 64 * n) (hw : ∀ i b, wt i = some b → b.length = 64) (hr : rightR (a : Int) b c n = true) : logF n las wt (a : Int) b c = ((flushed las wt).take (64 * (2 + a))).drop 128 := by
  have h1 := of_decide_eq_true hr
  have hF := Ref.flushed_len hl hw
  rw [← secs_shift 2 a (by omega)]
  unfold logF
  rw [if_pos hr, Int.toNat_natCast]
  refine secs_congr (fun i hi => ?_)
  unfold secF
  rw [if_pos (by omega), Ref.sec_flushed hl hw (by omega)]
theorem keys_mem {n : Nat} {las : List Int} {wt : Wt} (hl : las.length = 64 * n) {x : Int} (h : x ∈ keysI las wt) : ∃ j : Nat, x = (j : Int) ∧ j < n ∧ wt j ≠ none := by
  unfold keysI at h
  obtain ⟨j, hj, rfl⟩ := List.mem_map.1 h
  refine ⟨j, rfl, ?_⟩
  unfold keysOf at hj
  rw [show las.length / 64 = n by omega] at hj
  have := List.mem_filter.1 hj
  refine ⟨List.mem_range.1 this.1, fun h => ?_⟩
  have h2 := this.2
  simp [h] at h2
end Go.Proofs.Ytjngnigelkgekaa.Redo
