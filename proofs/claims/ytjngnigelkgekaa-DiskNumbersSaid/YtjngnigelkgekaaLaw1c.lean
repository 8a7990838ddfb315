/- DiskKeeps: plain lists, and cuts. -/
import Derived.Test.YtjngnigelkgekaaDiskOf
import Derived.RegionCalls
import Derived.Deep.RegionWith
namespace Go.Proofs.Ytjngnigelkgekaa.Disk
set_option linter.unusedVariables false
set_option linter.unusedSimpArgs false
open Go.RowKit Go.Proofs.YtjngnigelkgekaaW.PrintWords Go.Proofs.YtjngnigelkgekaaW.PrintLast Go.Proofs.YtjngnigelkgekaaW.PrintMore Go.Proofs.Ytjngnigelkgekaa.Kit
theorem str_app (a b : List Int) : strOfNums a ++ strOfNums b = strOfNums (a ++ b) := by
  apply ByteArray.ext
  simp [strOfNums, ByteArray.data_append]
def wtA (X : List Int) : Wt := fun j => if j = 1 then some X else if j = 0 then some X else none
def wtB (k : Nat) (Y : List Int) : Wt := fun j => if j = k then some Y else none
def was (X : List Int) (j : Nat) : List Int := if j < 2 then X else List.replicate 64 0
theorem sec_zero {n i : Nat} (h : i < n) : sec (List.replicate (n * 64) 0) i = List.replicate 64 0 := by
  unfold sec
  rw [List.drop_replicate, List.take_replicate, Nat.min_eq_left (by omega)]
theorem was_len {X : List Int} (hX : X.length = 64) (j : Nat) : (was X j).length = 64 := by unfold was; split <;> simp [hX]
theorem lasA {X : List Int} (hX : X.length = 64) : flushed (List.replicate (4 * 64) 0) (wtA X) = secs 4 (was X) := by
  unfold flushed
  rw [List.length_replicate]
  refine secs_congr fun i hi => ?_
  have hi : i < 4 := by omega
  unfold wtA was
  by_cases h1 : i = 1
  · simp only [if_pos h1, Option.getD_some, if_pos (show i < 2 by omega)]
  · by_cases h0 : i = 0
    · simp only [if_neg h1, if_pos h0, Option.getD_some, if_pos (show i < 2 by omega)]
    · simp only [if_neg h1, if_neg h0, Option.getD_none, if_neg (show ¬ i < 2 by omega)]
      exact sec_zero hi
theorem lasB {X Y : List Int} {k : Nat} {cuts : List Int} (hX : X.length = 64) (hY : Y.length = 64) (hk : k < 4) {j : Nat} (hj : j < 4) :
    sec (crashed (secs 4 (was X)) (wtB k Y) cuts) j = if j = k then Y.take (cutN cuts 0) ++ (was X j).drop (cutN cuts 0) else was X j := by
  have hl : (secs 4 (was X)).length = 64 * 4 := secs_len (fun i _ => was_len hX i)
  have hw : ∀ i b, wtB k Y i = some b → b.length = 64 := fun i b h => by
    unfold wtB at h; split at h
    · injection h with h; rw [← h]; exact hY
    · cases h
  unfold crashed
  rw [show (secs 4 (was X)).length / 64 = 4 by omega, sec_secs (cutS_len hl hw) hj]
  have hs : sec (secs 4 (was X)) j = was X j := sec_secs (fun i _ => was_len hX i) hj
  have hr : rank (wtB k Y) k = 0 := by
    unfold rank keysOf
    rw [List.length_eq_zero_iff, List.filter_eq_nil_iff]
    intro i hi
    have := List.mem_range.1 hi
    simp [wtB]; omega
  unfold cutS
  by_cases h : j = k
  · subst h
    have : wtB j Y j = some Y := by simp [wtB]
    rw [this, if_pos rfl, hs, hr]
  · have : wtB k Y j = none := by simp [wtB, h]
    rw [this, if_neg h, hs]
theorem lasB_len {X Y : List Int} {k : Nat} {cuts : List Int} (hX : X.length = 64) (hY : Y.length = 64) : (crashed (secs 4 (was X)) (wtB k Y) cuts).length = 256 := by
  have hl : (secs 4 (was X)).length = 64 * 4 := secs_len (fun i _ => was_len hX i)
  have hw : ∀ i b, wtB k Y i = some b → b.length = 64 := fun i b h => by
    unfold wtB at h; split at h
    · injection h with h; rw [← h]; exact hY
    · cases h
  unfold crashed
  rw [show (secs 4 (was X)).length / 64 = 4 by omega, secs_len (cutS_len hl hw)]
/-- A cut 'x[:m]' of 64 bytes. -/
theorem cutTo_ {A : Option Addr} {c m : Nat} (hm : m ≤ 64) (hc : 64 ≤ c) : ∀ W : World, (Instr.slice 30 (.slice A 64 c) none (some (.int .i64 (m : Int))) none).run Try.prog W = .ok (.slice A m c) W := by
  obtain ⟨i, hi, hsz⟩ := Option.map_eq_some_iff.1 infoB
  have := cut_to (P := Try.prog) 30 5 .i64 Try.underlying30 hi A 64 c (m : Int) (by omega) (by omega) hc
  rw [Int.toNat_natCast] at this
  exact this
/-- A cut 'x[m:]' of 64 bytes. -/
theorem cutFrom_ {A : Option Addr} {c m : Nat} {l : List Int} (hm : m ≤ 64) (hc : 64 ≤ c) (hl : l.length = 64) : ∃ A', (∀ W : World, (Instr.slice 30 (.slice A 64 c) (some (.int .i64 (m : Int))) none none).run Try.prog W = .ok (.slice A' (64 - m) (c - m)) W) ∧
    ∀ W : World, U8.C W A 64 l → U8.C W A' (64 - m) (l.drop m) := by
  obtain ⟨i, hi, hz⟩ := Option.map_eq_some_iff.1 infoB
  simp only [Prod.mk.injEq] at hz
  obtain ⟨A', h1, h2, _⟩ := print_drop_of (P := Try.prog) (Value.int .u8) (0 : Int) 30 5 .i64 Try.underlying30 hi hz.2.1 A c l (m : Int) (by omega) (by omega) (by omega)
  rw [Int.toNat_natCast, List.length_drop, hl] at h1
  rw [Int.toNat_natCast, List.length_drop, hl] at h2
  exact ⟨A', h1, fun W h => Kd.C_of_reads (d := (0 : Int)) (h1 := fun _ => rfl) (h2 W (Kd.reads_of_C (d := (0 : Int)) h))⟩
theorem strC {W : World} {A : Option Addr} {n c : Nat} {xs : List Int} (h : U8.C W A n xs) : (convert 30 9 (.slice A n c)).run Try.prog W = .ok (.string (strOfNums xs)) W := by
  obtain rfl : xs.length = n := h.1
  exact Kd.C_string (P := Try.prog) (c := c) Try.underlying30 Try.underlying5 Try.underlying9 h
theorem keysI_none (l : List Int) : keysI l (fun _ => none) = [] := by unfold keysI; rw [keys_none]; rfl
end Go.Proofs.Ytjngnigelkgekaa.Disk
