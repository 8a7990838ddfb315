/- The disk: the sectors that wait, in their order. -/
import Derived.Test.YtjngnigelkgekaaDisk7
import Derived.Test.YtjngnigelkgekaaCrash
import Derived.Test.YtjngnigelkgekaaKeys
namespace Go.Proofs.Ytjngnigelkgekaa.Disk
set_option linter.unusedVariables false
set_option linter.unusedSimpArgs false
open Go.RowKit Go.Proofs.YtjngnigelkgekaaW.PrintWords Go.Proofs.YtjngnigelkgekaaW.PrintLast Go.Proofs.YtjngnigelkgekaaW.PrintMore Go.Proofs.Ytjngnigelkgekaa.Kit
abbrev I64 : Kd Int := Kd.int .i64
def keysI (las : List Int) (wt : Wt) : List Int := (keysOf (las.length / 64) wt).map (fun k : Nat => (k : Int))
theorem keysI_sorted (las : List Int) (wt : Wt) : (keysI las wt).Pairwise (· ≤ ·) := by
  unfold keysI keysOf
  refine List.pairwise_map.2 ?_
  refine ((List.pairwise_lt_range (n := las.length / 64)).sublist List.filter_sublist).imp (fun h => ?_)
  omega
theorem ents_perm {las : List Int} {ents : List Ent} {clock : Nat} {wt : Nat → Option (List Int)} (hok : DskOk las ents clock wt) : ((ents.map Ent.en).map (·.k)).Perm (keysI las wt) := by
  have e1 : (ents.map Ent.en).map (·.k) = (ents.map (·.k)).map (fun k : Nat => (k : Int)) := by rw [List.map_map, List.map_map]; rfl
  rw [e1]
  unfold keysI
  refine List.Perm.map _ ?_
  refine (List.perm_ext_iff_of_nodup hok.keys ((List.nodup_range).sublist List.filter_sublist)).2 fun i => ?_
  rw [List.mem_filter, List.mem_range, List.mem_map]
  constructor
  · rintro ⟨e, he, rfl⟩
    obtain ⟨h1, h2, _⟩ := hok.each e he
    obtain ⟨n, h3, h4, h5⟩ := hok.len
    refine ⟨by omega, ?_⟩
    rw [hok.wt, find_mem hok.keys he]; rfl
  · rintro ⟨h1, h2⟩
    rw [hok.wt] at h2
    cases hf : ents.find? (fun e => e.k == i) with
    | none => rw [hf] at h2; cases h2
    | some e =>
      obtain ⟨pre, post, rfl, hk, _⟩ := find_split hf
      exact ⟨e, by simp, hk⟩
theorem entsOk {las : List Int} {ents : List Ent} {clock : Nat} {wt : Nat → Option (List Int)} (hok : DskOk las ents clock wt) : EnOk (ents.map Ent.en) clock := by
  have hlen : ents.length ≤ 160 := by
    have h1 := (ents_perm hok).length_eq
    simp only [List.length_map, keysI] at h1
    have := keys_len_le wt (las.length / 64)
    obtain ⟨n, h3, h4, h5⟩ := hok.len
    omega
  refine ⟨?_, (bornOk hok).2, fun e he => ?_, by rw [List.length_map]; omega⟩
  · rw [List.map_map]
    have : (fun e : En => e.k) ∘ Ent.en = (fun k : Nat => (k : Int)) ∘ (fun e : Ent => e.k) := rfl
    rw [this, ← List.map_map]
    exact List.pairwise_map.2 (hok.keys.imp fun hne he => hne (by omega))
  · obtain ⟨x, hx, rfl⟩ := List.mem_map.1 he
    obtain ⟨h1, h2, _⟩ := hok.each x hx
    obtain ⟨n, h3, h4, h5⟩ := hok.len
    show x.born < clock ∧ -9223372036854775808 ≤ (x.k : Int) ∧ (x.k : Int) ≤ 9223372036854775807
    omega
set_option maxHeartbeats 400000 in
theorem waits_ {w0 W : World} {g : Nat} {las : List Int} {wt : Nat → Option (List Int)} {F : List HP} (h : Sep w0 W (Dsk g las wt :: F)) :
    Calls Try.prog 49 #[.pointer (some ⟨g, 0, none⟩)] W fun e w' => ∃ v, e = .returned v ∧ Sep w0 w' (Row I64 3 v (keysI las wt) :: Dsk g las wt :: F) := by
  obtain ⟨v, m, ents, clock, hok, hs⟩ := open_ h
  have c1 : W.cell? ⟨g, 1, none⟩ = some (.map (some m)) := by rw [hs.cell 1]; rfl
  have AS := Aside0.mk (sortedA_ (entsOk hok) hs.tail.tail.map (ents_perm hok) (keysI_sorted las wt))
  have AH := Aside0.mk h
  clear hok hs h
  go_enter Try.func49, Try.ntmps49
  go_wp2_with (first | (go_at_call 95; refine (keysA_ m _).mono ?_; rintro e w1 ⟨rfl, rfl⟩) | (go_at_call 76; refine AS.out.mono ?_; rintro e w2 ⟨v2, rfl, hS2⟩))
  go_ret
  exact ⟨_, by first | rfl | (simp; done), AH.out.lift1 hS2⟩
end Go.Proofs.Ytjngnigelkgekaa.Disk
