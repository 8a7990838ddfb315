/- The disk: all that waits is let last; all bytes as they are read. -/
import Derived.Test.YtjngnigelkgekaaDisk4
import Derived.Test.YtjngnigelkgekaaIter
import Derived.Deep.LoopGhost
namespace Go.Proofs.Ytjngnigelkgekaa.Disk
set_option linter.unusedVariables false
set_option linter.unusedSimpArgs false
open Go.RowKit Go.Proofs.YtjngnigelkgekaaW.PrintWords Go.Proofs.YtjngnigelkgekaaW.PrintLast Go.Proofs.YtjngnigelkgekaaW.PrintMore Go.Proofs.Ytjngnigelkgekaa.Kit
/-- The sectors with some laid over them. -/
def laid (las : List Int) (done : List Ent) : List Int := secs (las.length / 64) (fun i => ((done.find? (fun e => e.k == i)).map (·.b)).getD (sec las i))
def flushed (las : List Int) (wt : Nat → Option (List Int)) : List Int := secs (las.length / 64) (fun i => (wt i).getD (sec las i))
def leftN (ents : List Ent) (seen : List Nat) : Nat := (ents.filter (fun e => !seen.contains e.born)).length
theorem left_le (seen : List Nat) (s : Nat) : ∀ ents : List Ent, leftN ents (seen ++ [s]) ≤ leftN ents seen
  | [] => Nat.le_refl _
  | x :: l => by
    have := left_le seen s l
    unfold leftN at *
    simp only [List.filter_cons]
    by_cases h1 : x.born ∈ seen
    · have h2 : x.born ∈ seen ++ [s] := by simp [h1]
      simp [h1]; simpa using this
    · by_cases h2 : x.born = s
      · have h3 : s ∉ seen := h2 ▸ h1
        simp [h3, h2]; simp at this; omega
      · simp [h1, h2]; simpa using this
theorem left_lt {seen : List Nat} {e : Ent} (hs : e.born ∉ seen) : ∀ {ents : List Ent}, e ∈ ents → leftN ents (seen ++ [e.born]) < leftN ents seen
  | x :: l, h => by
    have hle := left_le seen e.born l
    unfold leftN at *
    simp only [List.filter_cons]
    rcases List.mem_cons.1 h with rfl | h
    · simp [hs]; simp at hle; omega
    · have ih := left_lt hs h
      unfold leftN at ih
      by_cases h1 : x.born ∈ seen
      · simp [h1]; simpa using ih
      · by_cases h2 : x.born = e.born
        · simp [hs, h2]; simp at ih; omega
        · simp [h1, h2]; simpa using ih
theorem nodup_key {ents : List Ent} (h : (ents.map (·.k)).Nodup) {a b : Ent} (ha : a ∈ ents) (hb : b ∈ ents) (hk : a.k = b.k) : a = b := by
  induction ents with
  | nil => cases ha
  | cons x l ih =>
    rw [List.map_cons, List.nodup_cons] at h
    rcases List.mem_cons.1 ha with h1 | h1
    · rcases List.mem_cons.1 hb with h2 | h2
      · rw [h1, h2]
      · exact absurd (List.mem_map.2 ⟨b, h2, by rw [← hk, h1]⟩) h.1
    · rcases List.mem_cons.1 hb with h2 | h2
      · exact absurd (List.mem_map.2 ⟨a, h1, by rw [hk, h2]⟩) h.1
      · exact ih h.2 h1 h2
theorem nodup_born {ents : List Ent} (h : (ents.map (·.born)).Nodup) {a b : Ent} (ha : a ∈ ents) (hb : b ∈ ents) (hk : a.born = b.born) : a = b := by
  induction ents with
  | nil => cases ha
  | cons x l ih =>
    rw [List.map_cons, List.nodup_cons] at h
    rcases List.mem_cons.1 ha with h1 | h1
    · rcases List.mem_cons.1 hb with h2 | h2
      · rw [h1, h2]
      · exact absurd (List.mem_map.2 ⟨b, h2, by rw [← hk, h1]⟩) h.1
    · rcases List.mem_cons.1 hb with h2 | h2
      · exact absurd (List.mem_map.2 ⟨a, h1, by rw [hk, h2]⟩) h.1
      · exact ih h.2 h1 h2
theorem find_mem {l : List Ent} (h : (l.map (·.k)).Nodup) {e : Ent} (he : e ∈ l) : l.find? (fun x => x.k == e.k) = some e := by
  cases hf : l.find? (fun x => x.k == e.k) with
  | none => exact absurd rfl (find_not hf e he)
  | some x =>
    obtain ⟨pre, post, hl, hk, _⟩ := find_split hf
    rw [nodup_key h (by rw [hl]; simp) he hk]
theorem laid_nil {las : List Int} {n : Nat} (h : las.length = 64 * n) : laid las [] = las := by
  unfold laid
  rw [show las.length / 64 = n by omega]
  exact secs_self h
theorem laid_len {las : List Int} {ents : List Ent} {clock : Nat} {wt : Nat → Option (List Int)} (hok : DskOk las ents clock wt) {done : List Ent} (hd : ∀ e ∈ done, e ∈ ents) : ∀ i, i < las.length / 64 → ((fun i => ((done.find? (fun e => e.k == i)).map (·.b)).getD (sec las i)) i).length = 64 := fun i hi => by
  cases hf : done.find? (fun e => e.k == i) with
  | none => simp [hf]; exact sec_len (by omega)
  | some e =>
    obtain ⟨pre, post, hl, hk, _⟩ := find_split hf
    simp [hf]; exact (hok.each e (hd e (by rw [hl]; simp))).2.2.1
/-- One more. -/
theorem laid_step {las : List Int} {ents : List Ent} {clock : Nat} {wt : Nat → Option (List Int)} (hok : DskOk las ents clock wt) {done : List Ent} (hd : ∀ e ∈ done, e ∈ ents) {e : Ent} (he : e ∈ ents) (hn : e.born ∉ done.map (·.born)) :
    over (laid las done) (64 * e.k) (e.b.take 64) = laid las (done ++ [e]) := by
  obtain ⟨_, hk, hb, _⟩ := hok.each e he
  obtain ⟨n, h1, h2, h3⟩ := hok.len
  rw [List.take_of_length_le (by omega)]
  unfold laid
  rw [over_secs (laid_len hok hd) (by omega) (by omega)]
  refine secs_congr fun i hi => ?_
  rw [List.find?_append]
  have hnd : ∀ x ∈ done, x.k ≠ e.k := fun x hx hxe => hn (by rw [← nodup_key hok.keys (hd x hx) he hxe]; exact List.mem_map.2 ⟨x, hx, rfl⟩)
  by_cases hi2 : i = e.k
  · subst hi2
    have hl := laid_len hok hd e.k hi
    rw [if_pos rfl, List.drop_of_length_le (by rw [hb]; exact Nat.le_of_eq hl)]
    have : done.find? (fun x => x.k == e.k) = none := by rw [List.find?_eq_none]; intro x hx; simpa using hnd x hx
    simp [this]
  · rw [if_neg hi2]
    have : (e.k == i) = false := by simp; omega
    cases done.find? (fun x => x.k == i) <;> simp [this]
theorem laid_all {las : List Int} {ents : List Ent} {clock : Nat} {wt : Nat → Option (List Int)} (hok : DskOk las ents clock wt) {done : List Ent} (hd : ∀ e ∈ done, e ∈ ents) (hall : ∀ e ∈ ents, e.born ∈ done.map (·.born)) : laid las done = flushed las wt := by
  unfold laid flushed
  refine secs_congr fun i hi => ?_
  congr 1
  rw [hok.wt i]
  have hin : ∀ e ∈ ents, e ∈ done := fun e he => by
    obtain ⟨x, hx, hb⟩ := List.mem_map.1 (hall e he)
    rwa [← nodup_born hok.borns (hd x hx) he hb]
  cases hf : ents.find? (fun e => e.k == i) with
  | none =>
    have : done.find? (fun e => e.k == i) = none := by rw [List.find?_eq_none]; intro x hx; simpa using find_not hf x (hd x hx)
    rw [this]
  | some e =>
    obtain ⟨pre, post, hl, hk, _⟩ := find_split hf
    have he : e ∈ ents := by rw [hl]; simp
    cases hf2 : done.find? (fun e => e.k == i) with
    | none => exact absurd hk (find_not hf2 e (hin e he))
    | some x =>
      obtain ⟨pre2, post2, hl2, hk2, _⟩ := find_split hf2
      rw [nodup_key hok.keys (hd x (by rw [hl2]; simp)) he (hk2.trans hk.symm)]
theorem bornOk {ents : List Ent} {las : List Int} {clock : Nat} {wt : Nat → Option (List Int)} (hok : DskOk las ents clock wt) : (∀ e ∈ ents.map Ent.en, e.born < clock) ∧ ((ents.map Ent.en).map (·.born)).Nodup := by
  refine ⟨fun y hy => ?_, ?_⟩
  · obtain ⟨x, hx, rfl⟩ := List.mem_map.1 hy
    exact (hok.each x hx).1
  · rw [List.map_map]; exact hok.borns
theorem clear_run {w0 W : World} {m clock : Nat} {l : List En} {F : List HP} (h : Sep w0 W (MapB m (ens l) clock :: F)) (ty : TypeId) : ∃ W', (Builtin.clear_ #[94] ty #[.map (some m)]).run Try.prog W = .ok (.tuple #[]) W' ∧ Sep w0 W' (MapB m (ens []) clock :: F) := by
  refine ⟨_, ?_, h.setMap (ens []) clock⟩
  simp [Builtin.clear_, run_underlying Try.underlying94, get_map h.map, set_map h.map, ens]
end Go.Proofs.Ytjngnigelkgekaa.Disk
