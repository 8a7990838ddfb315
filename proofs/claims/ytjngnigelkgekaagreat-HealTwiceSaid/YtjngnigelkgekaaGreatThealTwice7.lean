/- Crash, Disk8, Disk9, Book, Law1a, DiskOf, Law1c, Ref1: what HealTwice needs. -/
import Derived.Test.YtjngnigelkgekaaGreatThealTwice6
import Derived.Test.YtjngnigelkgekaaGreatProg
import Derived.WalkKit
import Derived.KernelRfl
import Derived.WalkSpells
import Derived.RegionCalls
import Derived.Deep.RegionWith
set_option linter.unusedVariables false
set_option linter.unusedSimpArgs false
namespace Go.Proofs.YtjngnigelkgekaaGreat.Kit
abbrev Wt := Nat → Option (List Int)
def keysOf (n : Nat) (wt : Wt) : List Nat := (List.range n).filter (fun i => (wt i).isSome)
def rank (wt : Wt) (i : Nat) : Nat := (keysOf i wt).length
theorem keysOf_succ (n : Nat) (wt : Wt) : keysOf (n + 1) wt = keysOf n wt ++ if (wt n).isSome then [n] else [] := by
  unfold keysOf
  rw [List.range_succ, List.filter_append]
  congr 1
  by_cases h : (wt n).isSome = true
  · simp [h]
  · simp [h]
theorem rank_succ (n : Nat) (wt : Wt) : rank wt (n + 1) = rank wt n + if (wt n).isSome then 1 else 0 := by
  unfold rank
  rw [keysOf_succ, List.length_append]
  split <;> rfl
theorem rank_mono (wt : Wt) {i j : Nat} (h : i ≤ j) : rank wt i ≤ rank wt j := by
  induction j with
  | zero => rw [show i = 0 by omega]; exact Nat.le_refl _
  | succ j ih =>
    by_cases hi : i = j + 1
    · rw [hi]; exact Nat.le_refl _
    · have := ih (by omega); rw [rank_succ]; omega
theorem rank_lt {wt : Wt} {i j : Nat} (h : i < j) (hi : (wt i).isSome = true) : rank wt i < rank wt j := by
  have := rank_mono wt (show i + 1 ≤ j by omega)
  rw [rank_succ, if_pos hi] at this
  omega
theorem keys_at (wt : Wt) : ∀ (n j i : Nat), (keysOf n wt)[j]? = some i ↔ i < n ∧ (wt i).isSome = true ∧ rank wt i = j
  | 0, j, i => by simp [keysOf]
  | n + 1, j, i => by
    rw [keysOf_succ]
    by_cases hj : j < (keysOf n wt).length
    · rw [List.getElem?_append_left hj, keys_at wt n j i]
      constructor
      · rintro ⟨h1, h2, h3⟩; exact ⟨by omega, h2, h3⟩
      · rintro ⟨h1, h2, h3⟩
        refine ⟨?_, h2, h3⟩
        rcases Nat.lt_or_ge i n with h | h
        · exact h
        · have : i = n := by omega
          subst this
          unfold rank at h3; omega
    · rw [List.getElem?_append_right (by omega)]
      by_cases hn : (wt n).isSome = true
      · rw [if_pos hn]
        constructor
        · intro h
          have hj0 : j - (keysOf n wt).length = 0 := by
            rcases Nat.eq_zero_or_pos (j - (keysOf n wt).length) with h0 | h0
            · exact h0
            · rw [List.getElem?_eq_none (by simp; omega)] at h; cases h
          rw [hj0] at h
          simp at h
          subst h
          exact ⟨by omega, hn, by unfold rank; omega⟩
        · rintro ⟨h1, h2, h3⟩
          rcases Nat.lt_or_ge i n with h | h
          · have := rank_lt h h2
            unfold rank at this h3; omega
          · have : i = n := by omega
            subst this
            unfold rank at h3
            rw [h3, Nat.sub_self]; rfl
      · rw [if_neg hn]
        constructor
        · intro h; simp at h
        · rintro ⟨h1, h2, h3⟩
          rcases Nat.lt_or_ge i n with h | h
          · have := rank_lt h h2
            unfold rank at this h3; omega
          · have : i = n := by omega
            subst this
            exact absurd h2 hn
theorem keys_len_le (wt : Wt) (n : Nat) : (keysOf n wt).length ≤ n := by
  have := List.length_filter_le (fun i => (wt i).isSome) (List.range n)
  rwa [List.length_range] at this
def cutN (cuts : List Int) (j : Nat) : Nat := if j < cuts.length then (max 0 (min (cuts.getD j 0) 64)).toNat else 0
theorem cutN_le (cuts : List Int) (j : Nat) : cutN cuts j ≤ 64 := by unfold cutN; split <;> omega
def cutS (las : List Int) (wt : Wt) (cuts : List Int) (i : Nat) : List Int :=
  match wt i with
  | none => sec las i
  | some b => b.take (cutN cuts (rank wt i)) ++ (sec las i).drop (cutN cuts (rank wt i))
def crashTo (las : List Int) (wt : Wt) (cuts : List Int) (j : Nat) : List Int := secs (las.length / 64) (fun i => if rank wt i < j then cutS las wt cuts i else sec las i)
def crashed (las : List Int) (wt : Wt) (cuts : List Int) : List Int := secs (las.length / 64) (cutS las wt cuts)
section
variable {las : List Int} {wt : Wt} {cuts : List Int} {n : Nat}
theorem cutS_len (hn : las.length = 64 * n) (hw : ∀ i b, wt i = some b → b.length = 64) : ∀ i, i < n → (cutS las wt cuts i).length = 64 := fun i hi => by
  have hs := sec_len (l := las) (i := i) (by omega)
  unfold cutS
  cases h : wt i with
  | none => exact hs
  | some b =>
    have := hw i b h; have := cutN_le cuts (rank wt i)
    simp only [List.length_append, List.length_take, List.length_drop]; omega
theorem crashTo_zero (hn : las.length = 64 * n) : crashTo las wt cuts 0 = las := by
  unfold crashTo
  rw [show las.length / 64 = n by omega, ← secs_self hn]
  refine secs_congr fun i hi => ?_
  rw [if_neg (by omega), secs_self hn]
theorem crashTo_all (hn : las.length = 64 * n) : crashTo las wt cuts (keysOf n wt).length = crashed las wt cuts := by
  unfold crashTo crashed
  refine secs_congr fun i hi => ?_
  by_cases h : rank wt i < (keysOf n wt).length
  · rw [if_pos h]
  · rw [if_neg h]
    unfold cutS
    cases hw : wt i with
    | none => rfl
    | some b =>
      have := rank_lt (wt := wt) (i := i) (j := n) (by omega) (by rw [hw]; rfl)
      unfold rank at this h; omega
theorem crashTo_skip {j : Nat} (hj : cuts.length ≤ j) (hn : las.length = 64 * n) (hw : ∀ i b, wt i = some b → b.length = 64) : crashTo las wt cuts (j + 1) = crashTo las wt cuts j := by
  unfold crashTo
  refine secs_congr fun i hi => ?_
  by_cases h : rank wt i < j
  · rw [if_pos (by omega), if_pos h]
  · by_cases h2 : rank wt i < j + 1
    · rw [if_pos h2, if_neg h]
      unfold cutS
      cases hb : wt i with
      | none => rfl
      | some b => have : cutN cuts (rank wt i) = 0 := by unfold cutN; rw [if_neg (by omega)]
                  simp [this]
    · rw [if_neg h2, if_neg h]
theorem crashTo_step {j i : Nat} {b : List Int} (hn : las.length = 64 * n) (hw : ∀ i b, wt i = some b → b.length = 64) (hk : (keysOf n wt)[j]? = some i) (hb : wt i = some b) :
    over (crashTo las wt cuts j) (64 * i) (b.take (cutN cuts j)) = crashTo las wt cuts (j + 1) := by
  obtain ⟨h1, h2, h3⟩ := (keys_at wt n j i).1 hk
  have hbl := hw i b hb
  have hc := cutN_le cuts j
  have hlen : ∀ k, k < las.length / 64 → ((fun i => if rank wt i < j then cutS las wt cuts i else sec las i) k).length = 64 := fun k hk => by
    dsimp only
    split
    · exact cutS_len hn hw k (by omega)
    · exact sec_len (by omega)
  unfold crashTo
  rw [over_secs hlen (by omega) (by rw [List.length_take]; omega)]
  refine secs_congr fun k hk => ?_
  by_cases hki : k = i
  · subst hki
    rw [if_pos rfl, if_neg (show ¬ rank wt k < j by omega), if_pos (show rank wt k < j + 1 by omega)]
    unfold cutS
    rw [hb, h3]
    dsimp only
    rw [List.length_take, Nat.min_eq_left (by omega)]
  · rw [if_neg hki]
    by_cases h : rank wt k < j
    · rw [if_pos h, if_pos (by omega)]
    · rw [if_neg h]
      by_cases h4 : rank wt k < j + 1
      · rw [if_pos h4]
        unfold cutS
        cases hwk : wt k with
        | none => rfl
        | some c =>
          exfalso
          have hkk : (wt k).isSome = true := by rw [hwk]; rfl
          rcases Nat.lt_or_ge k i with h5 | h5
          · have := rank_lt h5 hkk; omega
          · have := rank_lt (show i < k by omega) h2; omega
      · rw [if_neg h4]
end
end Go.Proofs.YtjngnigelkgekaaGreat.Kit
namespace Go.Proofs.YtjngnigelkgekaaGreat.Disk
open Go.RowKit Go.Proofs.YtjngnigelkgekaaGreatW.PrintWords Go.Proofs.YtjngnigelkgekaaGreatW.PrintLast Go.Proofs.YtjngnigelkgekaaGreatW.PrintMore Go.Proofs.YtjngnigelkgekaaGreat.Kit
abbrev I64 : Kd Int := Kd.int .i64
def keysI (las : List Int) (wt : Wt) : List Int := (keysOf (las.length / 64) wt).map (fun k : Nat => (k : Int))
theorem keysI_sorted (las : List Int) (wt : Wt) : (keysI las wt).Pairwise (· ≤ ·) := by
  unfold keysI keysOf
  refine List.pairwise_map.2 ?_
  refine ((List.pairwise_lt_range (n := las.length / 64)).sublist List.filter_sublist).imp (fun h => ?_)
  omega
theorem ents_perm {las : List Int} {ents : List Ent} {clock : Nat} {wt : Nat → Option (List Int)} (hok : DskOk las ents clock wt) : ((ents.map Ent.en).map (·.k)).Perm (keysI las wt) := by
  have e1 : (ents.map Ent.en).map (·.k) = (ents.map (·.k)).map (fun k : Nat => (k : Int)) := by rw [List.map_map, List.map_map]; rfl
  rw [e1]
  unfold keysI
  refine List.Perm.map _ ?_
  refine (List.perm_ext_iff_of_nodup hok.keys ((List.nodup_range).sublist List.filter_sublist)).2 fun i => ?_
  rw [List.mem_filter, List.mem_range, List.mem_map]
  constructor
  · rintro ⟨e, he, rfl⟩
    obtain ⟨h1, h2, _⟩ := hok.each e he
    obtain ⟨n, h3, h4, h5⟩ := hok.len
    refine ⟨by omega, ?_⟩
    rw [hok.wt, find_mem hok.keys he]; rfl
  · rintro ⟨h1, h2⟩
    rw [hok.wt] at h2
    cases hf : ents.find? (fun e => e.k == i) with
    | none => rw [hf] at h2; cases h2
    | some e =>
      obtain ⟨pre, post, rfl, hk, _⟩ := find_split hf
      exact ⟨e, by simp, hk⟩
theorem entsOk {las : List Int} {ents : List Ent} {clock : Nat} {wt : Nat → Option (List Int)} (hok : DskOk las ents clock wt) : EnOk (ents.map Ent.en) clock := by
  have hlen : ents.length ≤ 160 := by
    have h1 := (ents_perm hok).length_eq
    simp only [List.length_map, keysI] at h1
    have := keys_len_le wt (las.length / 64)
    obtain ⟨n, h3, h4, h5⟩ := hok.len
    omega
  refine ⟨?_, (bornOk hok).2, fun e he => ?_, by rw [List.length_map]; omega⟩
  · rw [List.map_map]
    have : (fun e : En => e.k) ∘ Ent.en = (fun k : Nat => (k : Int)) ∘ (fun e : Ent => e.k) := rfl
    rw [this, ← List.map_map]
    exact List.pairwise_map.2 (hok.keys.imp fun hne he => hne (by omega))
  · obtain ⟨x, hx, rfl⟩ := List.mem_map.1 he
    obtain ⟨h1, h2, _⟩ := hok.each x hx
    obtain ⟨n, h3, h4, h5⟩ := hok.len
    show x.born < clock ∧ -9223372036854775808 ≤ (x.k : Int) ∧ (x.k : Int) ≤ 9223372036854775807
    omega
set_option maxHeartbeats 400000 in
theorem waits_ {w0 W : World} {g : Nat} {las : List Int} {wt : Nat → Option (List Int)} {F : List HP} (h : Sep w0 W (Dsk g las wt :: F)) :
    Calls Tryz.prog 57 #[.pointer (some ⟨g, 0, none⟩)] W fun e w' => ∃ v, e = .returned v ∧ Sep w0 w' (Row I64 3 v (keysI las wt) :: Dsk g las wt :: F) := by
  obtain ⟨v, m, ents, clock, hok, hs⟩ := open_ h
  have c1 : W.cell? ⟨g, 1, none⟩ = some (.map (some m)) := by rw [hs.cell 1]; rfl
  have AS := Aside0.mk (sortedA_ (entsOk hok) hs.tail.tail.map (ents_perm hok) (keysI_sorted las wt))
  have AH := Aside0.mk h
  clear hok hs h
  go_enter Tryz.func57, Tryz.ntmps57
  go_wp2_with (first | (go_at_call 96; refine (keysA_ m _).mono ?_; rintro e w1 ⟨rfl, rfl⟩) | (go_at_call 92; refine AS.out.mono ?_; rintro e w2 ⟨v2, rfl, hS2⟩))
  go_ret
  exact ⟨_, by first | rfl | (simp; done), AH.out.lift1 hS2⟩
end Go.Proofs.YtjngnigelkgekaaGreat.Disk
namespace Go.Proofs.YtjngnigelkgekaaGreat.Disk
open Go.RowKit Go.Proofs.YtjngnigelkgekaaGreatW.PrintWords Go.Proofs.YtjngnigelkgekaaGreatW.PrintLast Go.Proofs.YtjngnigelkgekaaGreatW.PrintMore Go.Proofs.YtjngnigelkgekaaGreat.Kit
def CrashI (w0 : World) (g m gl c nk ck clock : Nat) (Ak : Option Addr) (ents : List Ent) (las : List Int) (wt : Wt) (cuts : List Int) (F : List HP) (k j : Nat) (wr : World) : Prop :=
  j + k = (keysI las wt).length ∧
    Sep w0 wr (Row I64 3 (.slice Ak nk ck) (keysI las wt) :: Blk g 100 #[.slice (some ⟨gl, 0, none⟩) las.length c, .map (some m)] :: Row U8 5 (.slice (some ⟨gl, 0, none⟩) las.length c) (crashTo las wt cuts j) :: MapB m (ens (ents.map Ent.en)) clock :: (ents.map Ent.rd ++ F))
theorem cut_is {cuts : List Int} {j : Nat} (hj : j < cuts.length) : (if 0 < (if 64 < rd cuts (j : Int) then 64 else rd cuts (j : Int)) then (if 64 < rd cuts (j : Int) then 64 else rd cuts (j : Int)) else 0) = (cutN cuts j : Int) := by
  unfold cutN rd
  rw [if_pos hj, Int.toNat_natCast]
  generalize cuts.getD j 0 = y
  repeat' split
  all_goals omega
theorem C_pre {W : World} {A : Option Addr} {n m : Nat} {l : List Int} (h : U8.C W A n l) (hm : m ≤ n) : U8.C W A m (l.take m) := by
  obtain rfl : l.length = n := h.1
  have := Kd.C_take h hm
  rwa [show (l.take m).length = m by rw [List.length_take]; omega] at this
theorem wtLen {las : List Int} {ents : List Ent} {clock : Nat} {wt : Nat → Option (List Int)} (hok : DskOk las ents clock wt) : ∀ i b, wt i = some b → b.length = 64 := fun i b h => by
  rw [hok.wt i] at h
  obtain ⟨e, he, rfl⟩ := Option.map_eq_some_iff.1 h
  obtain ⟨pre, post, rfl, _, _⟩ := find_split he
  exact (hok.each e (by simp)).2.2.1
theorem keysI_at {las : List Int} {wt : Wt} {j : Nat} (hj : j < (keysI las wt).length) : ∃ i, (keysOf (las.length / 64) wt)[j]? = some i ∧ (keysI las wt).getD j 0 = (i : Int) := by
  have hj' : j < (keysOf (las.length / 64) wt).length := by unfold keysI at hj; rwa [List.length_map] at hj
  refine ⟨_, List.getElem?_eq_getElem hj', ?_⟩
  unfold keysI
  rw [List.getD_eq_getElem?_getD, List.getElem?_map, List.getElem?_eq_getElem hj']
  rfl
set_option maxHeartbeats 800000 in
set_option maxRecDepth 100000 in
theorem crash_ {w0 W : World} {g : Nat} {las : List Int} {wt : Nat → Option (List Int)} {F : List HP} {A : Option Addr} {n c : Nat} {cuts : List Int} (h : Sep w0 W (Dsk g las wt :: F)) (hcu : ∀ W', Sep w0 W' F → I64.C W' A n cuts) :
    Calls Tryz.prog 18 #[.pointer (some ⟨g, 0, none⟩), .slice A n c] W fun e w' => e = .returned (.int .i64 ((keysOf (las.length / 64) wt).length : Int)) ∧ Sep w0 w' (Dsk g (crashed las wt cuts) (fun _ => none) :: F) := by
  have H0 := Aside0.mk h
  have HCU := Aside0.mk hcu
  have hnc : cuts.length = n := (hcu W h.tail).1
  have ANC := Aside0.mk hnc
  have hnm : n ≤ 9223372036854775807 := (hcu W h.tail).2.1
  clear h hcu hnc
  go_enter Tryz.func18, Tryz.ntmps18
  go_wp2_with fail
  refine (waits_ H0.out).mono ?_
  rintro e w1 ⟨vk, rfl, hI⟩
  obtain ⟨v, m, ents, clock, hok, hs⟩ := open_ hI.at2
  obtain ⟨p1, p2, p3⟩ := hok.pos
  obtain ⟨nn, hn, n1, n2⟩ := hok.len
  obtain ⟨gl, cl, rfl⟩ := hs.tail.rowForm (by omega)
  have hcl := hs.tail.rowC.2.1
  obtain ⟨Ak, ck, rfl⟩ := hI.rowV
  have hkl : (keysI las wt).length ≤ 160 := by
    unfold keysI; rw [List.length_map]; have := keys_len_le wt (las.length / 64); omega
  have HI : CrashI w0 g m gl cl (keysI las wt).length ck clock Ak ents las wt cuts F (keysI las wt).length 0 w1 := by
    refine ⟨by omega, ?_⟩
    rw [crashTo_zero hn]
    have h3 := hs.perm (L' := Row I64 3 (.slice Ak (keysI las wt).length ck) (keysI las wt) :: Blk g 100 #[.slice (some ⟨gl, 0, none⟩) las.length cl, .map (some m)] :: Row U8 5 (.slice (some ⟨gl, 0, none⟩) las.length cl) las :: MapB m (ens (ents.map Ent.en)) clock :: (ents.map Ent.rd ++ F)) (by
      exact (List.Perm.cons _ (.cons _ (.cons _ List.perm_middle))).trans (List.perm_middle (l₁ := [_, _, _])))
    exact h3
  have A0 := Aside0.mk HI
  have AO := Aside0.mk hok
  have AN := Aside0.mk hn
  have ACL := Aside0.mk hcl
  clear HI hok hs p3 hn hI hcl
  go_wp2
  go_loopg [12] (keysI las wt).length (fun k p wr => ∃ j : Nat, p = .int .i64 (j : Int) ∧ CrashI w0 g m gl cl (keysI las wt).length ck clock Ak ents las wt cuts F k j wr)
  case atStart => exact ⟨0, rfl, A0.out⟩
  case round =>
    obtain ⟨j, rfl, hjk, hS⟩ := hrel
    by_cases hj : j < (keysI las wt).length
    · obtain ⟨bk, ck', hform⟩ := hS.rowForm (by omega)
      cases hform
      obtain ⟨i, hki, hkv⟩ := keysI_at hj
      obtain ⟨k1, k2, k3⟩ := (keys_at wt _ j i).1 hki
      have hkc : wr.cell? ⟨bk, j, none⟩ = some (.int .i64 (i : Int)) := by
        have := (hS.rowCell (0 : Int) j hj).1; rw [hkv] at this; exact this
      have hi : 64 * (i + 1) ≤ las.length := by have := AN.out; omega
      by_cases hjc : j < n
      · obtain ⟨ad, hA, hcc⟩ := Kd.at_int (HCU.out wr hS.tail.tail.tail.tail.weak) (j : Int) (by omega) (by omega)
        subst hA
        rw [Int.toNat_natCast] at hcc
        have c0 : wr.drew.cell? ⟨g, 0, none⟩ = some (.slice (some ⟨gl, 0, none⟩) las.length cl) := by rw [hS.drew.tail.cell 0]; rfl
        have c1 : wr.cell? ⟨g, 1, none⟩ = some (.map (some m)) := by rw [hS.tail.cell 1]; rfl
        rcases look_ (g := g) AO.out hS.drew.tail.tail.tail i with ⟨hn0, _⟩ | ⟨b, Ab, cb, hwb, hcb, hbl, hCb, hl, hl2⟩
        · rw [hn0] at k2; cases k2
        have hw : ∀ i b, wt i = some b → b.length = 64 := wtLen AO.out
        have hst := crashTo_step (cuts := cuts) AN.out hw (by have := AN.out; rwa [show las.length / 64 = nn by omega] at hki) hwb
        obtain ⟨M, hE, hM, hM64⟩ : ∃ M : Nat, (if 0 < (if 64 < rd cuts (j : Int) then 64 else rd cuts (j : Int)) then (if 64 < rd cuts (j : Int) then 64 else rd cuts (j : Int)) else 0) = (M : Int) ∧ cutN cuts j = M ∧ M ≤ 64 := by
          exact ⟨cutN cuts j, cut_is (by rw [ANC.out]; exact hjc), rfl, cutN_le _ _⟩
        rw [hM] at hst
        have hE2 : max 0 (min (rd cuts (j : Int)) 64) = (M : Int) := by rw [← hE]; repeat' split
                                                                        all_goals omega
        have AS := Aside0.mk hS.drew.at3
        have ACB := Aside0.mk hCb
        have AK := Aside0.mk hjk
        have AT := Aside0.mk hst
        have hMc : (M : Int) ≤ (cb : Int) := by omega
        have hM0 : (0 : Int) ≤ (M : Int) := by omega
        generalize rd cuts (j : Int) = x at *
        clear hS hCb hjk hl hki hkv k1 k2 k3 hwb hbl hst hM hw
        go_wp2
        refine start_ (n := 17) (S := fun w' => w'.cell? ⟨g, 1, none⟩ = some (.map (some m)) ∧ (Instr.lookup 98 (.map (some m)) (.int .i64 (i : Int)) false).run Tryz.prog w' = .ok (.slice Ab 64 cb) w' ∧ w'.cell? (ad.add j) = some (.int .i64 x)) (ds := [16]) #[Z,Z,Z,Z,Z,Z,Z,Z,Z,Z,Z,Z,Z,Z,Z,Z,Z] (by kernel_rfl) rfl rfl ⟨c1, hl2, hcc⟩ (fun hHeld => ?_)
        refine pu_ 0 21 ?_ #[J,Z,Z,Z,Z,Z,Z,Z,Z,Z,Z,Z,Z,Z,Z,Z,Z] rfl rfl ?_ ?_ ?_ ?_
        rotate_left
        · intro w'
          go_simp
          with_reducible rfl
        rotate_left
        · simp only [aP]
          rfl
        refine pu_ 1 22 ?_ #[J,J,Z,Z,Z,Z,Z,Z,Z,Z,Z,Z,Z,Z,Z,Z,Z] rfl rfl ?_ ?_ ?_ ?_
        rotate_left
        · intro w'
          go_simp
          with_reducible rfl
        rotate_left
        · simp only [aP]
          rfl
        refine pu_ 3 24 ?_ #[J,J,Z,J,Z,Z,Z,Z,Z,Z,Z,Z,Z,Z,Z,Z,Z] rfl rfl ?_ ?_ ?_ ?_
        rotate_left
        · intro w'
          go_simp
          with_reducible rfl
        rotate_left
        · simp only [aP]
          rfl
        refine pu_ 4 25 ?_ #[J,J,Z,J,J,Z,Z,Z,Z,Z,Z,Z,Z,Z,Z,Z,Z] rfl rfl ?_ ?_ ?_ ?_
        rotate_left
        · intro w'
          go_simp
          with_reducible rfl
        rotate_left
        · simp only [aP]
          rfl
        refine pu_ 5 26 ?_ #[J,J,Z,J,J,J,Z,Z,Z,Z,Z,Z,Z,Z,Z,Z,Z] rfl rfl ?_ ?_ ?_ ?_
        rotate_left
        · intro w'
          go_simp
          with_reducible rfl
        rotate_left
        · simp only [aP]
          rfl
        refine pu_ 7 28 ?_ #[J,J,Z,J,J,J,Z,J,Z,Z,Z,Z,Z,Z,Z,Z,Z] rfl rfl ?_ ?_ ?_ ?_
        rotate_left
        · intro w'
          go_simp
          with_reducible rfl
        rotate_left
        · simp only [aP]
          rfl
        refine pu_ 9 30 ?_ #[J,J,Z,J,J,J,Z,J,Z,J,Z,Z,Z,Z,Z,Z,Z] rfl rfl ?_ ?_ ?_ ?_
        rotate_left
        · intro w'
          go_simp
          with_reducible rfl
        rotate_left
        · simp only [aP]
          rfl
        refine pu_ 10 31 ?_ #[J,J,Z,J,J,J,Z,J,Z,J,J,Z,Z,Z,Z,Z,Z] rfl rfl ?_ ?_ ?_ ?_
        rotate_left
        · intro w'
          go_simp
          with_reducible rfl
        rotate_left
        · simp only [aP]
          rfl
        refine pu_ 11 32 ?_ #[J,J,Z,J,J,J,Z,J,Z,J,J,J,Z,Z,Z,Z,Z] rfl rfl ?_ ?_ ?_ ?_
        rotate_left
        · intro w'
          go_simp
          with_reducible rfl
        rotate_left
        · simp only [aP]
          rfl
        refine ta_ 6 27 ?_ #[J,J,Z,J,J,J,J,J,Z,J,J,J,Z,Z,Z,Z,Z] rfl rfl ?_ hHeld ?_ ?_ ?_
        rotate_left
        · rintro w' ⟨s0, s1, s2⟩
          go_simp
          with_reducible rfl
        rotate_left
        · simp only [aP]
          rfl
        refine ta_ 8 29 ?_ #[J,J,Z,J,J,J,J,J,J,J,J,J,Z,Z,Z,Z,Z] rfl rfl ?_ hHeld ?_ ?_ ?_
        rotate_left
        · rintro w' ⟨s0, s1, s2⟩
          go_simp
          with_reducible rfl
        rotate_left
        · simp only [aP]
          rfl
        refine ta_ 12 33 ?_ #[J,J,Z,J,J,J,J,J,J,J,J,J,J,Z,Z,Z,Z] rfl rfl ?_ hHeld ?_ ?_ ?_
        rotate_left
        · rintro w' ⟨s0, s1, s2⟩
          go_simp
          with_reducible rfl
        rotate_left
        · simp only [aP]
          rfl
        refine pu_ 13 34 ?_ #[J,J,Z,J,J,J,J,J,J,J,J,J,J,J,Z,Z,Z] rfl rfl ?_ ?_ ?_ ?_
        rotate_left
        · intro w'
          go_simp
          with_reducible rfl
        rotate_left
        · simp only [aP]
          rfl
        refine pu_ 14 35 ?_ #[J,J,Z,J,J,J,J,J,J,J,J,J,J,J,J,Z,Z] rfl rfl ?_ ?_ ?_ ?_
        rotate_left
        · intro w'
          go_simp
          with_reducible rfl
        rotate_left
        · simp only [aP]
          rfl
        refine pu_ 15 36 ?_ #[J,J,Z,J,J,J,J,J,J,J,J,J,J,J,J,J,Z] rfl rfl ?_ ?_ ?_ ?_
        rotate_left
        · intro w'
          go_simp
          with_reducible rfl
        rotate_left
        · simp only [aP]
          rfl
        refine one_ (i := 2) (N := some 23) #[J,J,J,J,J,J,J,J,J,J,J,J,J,J,J,J,Z] rfl rfl (by kernel_rfl) (by decide) (fun K hK => ?_)
        refine goes_ Tryz.func58 (by kernel_rfl) rfl #[.pointer (some ⟨g, 0, none⟩), .int .i64 (i : Int)] (by rfl) rfl rfl (by simp only [List.map_toArray, List.map_cons, List.map_nil]; rfl) ?_
        with_reducible refine (sector_ (W := wr.drew) c0 hi p2 ACL.out).mono ?_
        rintro e w3 ⟨rfl, rfl⟩
        refine ⟨_, rfl, ?_⟩
        refine hK.out _ _ ⟨c1, hl2, hcc⟩ (fun hHeld => ?_)
        clear hK K
        refine norm_ (a' := ?_) ?_ ?_
        rotate_left
        · show Act.put _ (some 23) _ = _
          simp only [aP]
          rfl
        refine last_ (i := 16) (N := some 37) #[J,J,J,J,J,J,J,J,J,J,J,J,J,J,J,J,J] rfl rfl (by kernel_rfl) (by decide) (fun K hK => ?_)
        have hct : (b.take M).take 64 = b.take M := List.take_of_length_le (by rw [List.length_take]; omega)
        refine AS.out.copyStep (by rfl) (.tmp 23) (.tmp 36) rfl Tryz.underlying24 size1 (o := 64 * i) (n' := 64) (c' := cl - 64 * i) (m := M) (c := cb) (A := Ab) (ys := b.take M) rfl rfl (C_pre ACB.out hM64) (by omega) (fun W4 hS4 => ?_)
        rw [hct, AT.out] at hS4
        have AS4 := Aside0.mk hS4.to3
        clear hS4 hct
        refine hK.out _ _ ?_
        clear hK K
        refine norm_ (a' := ?_) ?_ ?_
        rotate_left
        · show Act.put _ (some 37) _ = _
          simp only [aP]
          rfl
        refine done_ (by kernel_rfl) ?_
        go_wp2
        all_goals
          go_roundg (gk - 1)
          case measure => have := AK.out; omega
          case rel => exact ⟨j + 1, by go_num, by have := AK.out; omega, AS4.out⟩
      · have hw : ∀ i b, wt i = some b → b.length = 64 := wtLen AO.out
        have hsk := crashTo_skip (cuts := cuts) (j := j) (by have := ANC.out; omega) AN.out hw
        have AS := Aside0.mk hS
        have AK := Aside0.mk hjk
        have AT := Aside0.mk hsk
        clear hS hjk hki hkv k1 k2 k3 hw hsk
        go_wp2
        go_roundg (gk - 1)
        case measure => have := AK.out; omega
        case rel => exact ⟨j + 1, by go_num, by have := AK.out; omega, by rw [AT.out]; exact AS.out⟩
    · obtain ⟨W2, hcr, hS2⟩ := clear_run hS.at4 0
      have c1 : wr.cell? ⟨g, 1, none⟩ = some (.map (some m)) := by rw [hS.tail.cell 1]; rfl
      have AS := Aside0.mk hS2
      have AK := Aside0.mk hjk
      clear hS hS2 hjk
      go_wp2
      go_ret
      have hjl : j = (keysOf nn wt).length := by
        have h1 := AK.out
        have : (keysI las wt).length = (keysOf nn wt).length := by unfold keysI; rw [List.length_map, show las.length / 64 = nn by have := AN.out; omega]
        omega
      refine ⟨?_, ?_⟩
      · have : (keysI las wt).length = (keysOf (las.length / 64) wt).length := by unfold keysI; rw [List.length_map]
        rw [← this]; rfl
      · have h5 := AS.out
        rw [hjl, crashTo_all AN.out] at h5
        have hfl : (crashed las wt cuts).length = las.length := (h5.tail.tail.tail.rowC.1).symm
        refine shut_ (v := .slice (some ⟨gl, 0, none⟩) las.length cl) (m := m) (ents := []) (clock := clock) ⟨by rw [hfl]; exact AO.out.len, List.nodup_nil, List.nodup_nil, fun e he => absurd he (by simp), fun _ => rfl⟩ ?_
        have h6 := h5.at2.tail
        have h7 := h6.to3
        have h9 := h7.perm (L' := ents.map Ent.rd ++ (Blk g 100 #[.slice (some ⟨gl, 0, none⟩) las.length cl, .map (some m)] :: Row U8 5 (.slice (some ⟨gl, 0, none⟩) las.length cl) (crashed las wt cuts) :: MapB m (ens []) clock :: F)) (by
          have := List.perm_append_comm (l₁ := [Blk g 100 #[.slice (some ⟨gl, 0, none⟩) las.length cl, .map (some m)], Row U8 5 (.slice (some ⟨gl, 0, none⟩) las.length cl) (crashed las wt cuts), MapB m (ens []) clock]) (l₂ := ents.map Ent.rd)
          simpa using this.append_right F)
        exact h9.weak
end Go.Proofs.YtjngnigelkgekaaGreat.Disk
namespace Go.Proofs.YtjngnigelkgekaaGreat.Book
open Go.RowKit Go.Proofs.YtjngnigelkgekaaGreatW.PrintWords Go.Proofs.YtjngnigelkgekaaGreat.Kit
def withinF (n lo hi : Int) : Int :=
  if lo ≤ n ∧ n ≤ hi then n else lo + (if n.tmod (hi - lo + 1) < 0 then n.tmod (hi - lo + 1) + hi - lo + 1 else n.tmod (hi - lo + 1))
theorem withinF_in {n lo hi : Int} (h : lo ≤ hi) : lo ≤ withinF n lo hi ∧ withinF n lo hi ≤ hi := by
  unfold withinF
  split
  · omega
  · have h1 : n.tmod (hi - lo + 1) < hi - lo + 1 := Int.tmod_lt_of_pos n (by omega)
    have h2 : -(hi - lo + 1) < n.tmod (hi - lo + 1) := Int.lt_tmod_of_pos n (by omega)
    split <;> omega
theorem withinF_id {n lo hi : Int} (h1 : lo ≤ n) (h2 : n ≤ hi) : withinF n lo hi = n := if_pos ⟨h1, h2⟩
set_option maxHeartbeats 400000 in
theorem within_ (n lo hi : Int) (w : World) (h1 : -1073741824 ≤ lo) (h2 : lo ≤ hi) (h3 : hi ≤ 1073741824) :
    Calls Tryz.prog 10 #[.int .i64 n, .int .i64 lo, .int .i64 hi] w fun e w' => e = .returned (.int .i64 (withinF n lo hi)) ∧ w = w' := by
  have A0 := Aside0.mk (withinF_in (n := n) h2)
  have r1 : n.tmod (hi - lo + 1) < hi - lo + 1 := Int.tmod_lt_of_pos n (by omega)
  have r2 : -(hi - lo + 1) < n.tmod (hi - lo + 1) := Int.lt_tmod_of_pos n (by omega)
  have nz : ¬ (hi - lo + 1 = 0) := by omega
  have fin : ∀ (a : Int), withinF n lo hi = a → Ending.returned (.int .i64 a) = Ending.returned (.int .i64 (withinF n lo hi)) := fun a h => by rw [h]
  have AF := Aside0.mk fin
  clear fin
  by_cases c1 : lo ≤ n
  · by_cases c2 : n ≤ hi
    · have A1 := Aside0.mk (withinF_id c1 c2)
      clear r1 r2 nz
      go_enter Tryz.func10, Tryz.ntmps10
      go_wp2
      go_ret
      exact ⟨AF.out _ A1.out, rfl⟩
    · have A1 : Aside0 (withinF n lo hi = lo + (if n.tmod (hi - lo + 1) < 0 then n.tmod (hi - lo + 1) + hi - lo + 1 else n.tmod (hi - lo + 1))) := ⟨if_neg (fun h => c2 h.2)⟩
      by_cases c3 : n.tmod (hi - lo + 1) < 0
      · go_enter Tryz.func10, Tryz.ntmps10
        go_wp2
        go_ret
        exact ⟨AF.out _ (by rw [A1.out, if_pos c3]), rfl⟩
      · go_enter Tryz.func10, Tryz.ntmps10
        go_wp2
        go_ret
        exact ⟨AF.out _ (by rw [A1.out, if_neg (by omega)]), rfl⟩
  · have A1 : Aside0 (withinF n lo hi = lo + (if n.tmod (hi - lo + 1) < 0 then n.tmod (hi - lo + 1) + hi - lo + 1 else n.tmod (hi - lo + 1))) := ⟨if_neg (fun h => c1 h.1)⟩
    by_cases c3 : n.tmod (hi - lo + 1) < 0
    · go_enter Tryz.func10, Tryz.ntmps10
      go_wp2
      go_ret
      exact ⟨AF.out _ (by rw [A1.out, if_pos c3]), rfl⟩
    · go_enter Tryz.func10, Tryz.ntmps10
      go_wp2
      go_ret
      exact ⟨AF.out _ (by rw [A1.out, if_neg (by omega)]), rfl⟩
end Go.Proofs.YtjngnigelkgekaaGreat.Book
namespace Go.Proofs.YtjngnigelkgekaaGreat.Disk
open Go.RowKit Go.Proofs.YtjngnigelkgekaaGreatW.PrintWords Go.Proofs.YtjngnigelkgekaaGreatW.PrintLast Go.Proofs.YtjngnigelkgekaaGreatW.PrintMore Go.Proofs.YtjngnigelkgekaaGreat.Kit
theorem make_ {m : Nat} (hm : m ≤ 100000) : ∀ W : World, (Instr.makeSlice 24 (.int .i64 (m : Int)) (.int .i64 (m : Int))).run Tryz.prog W = .ok (.slice (some ⟨W.heap.size, 0, none⟩) m m) (W.alloc (.cells (madeCells #[.int .u8 0] m) 5)) :=
  print_make (P := Tryz.prog) 24 5 .u8 1 Tryz.underlying24 infoB (by decide) m (by omega)
theorem madeB {w0 W : World} {F : List HP} (m : Nat) (h : Sep w0 W F) (hm : m ≤ 100000) : Sep w0 (W.alloc (.cells (madeCells #[.int .u8 0] m) 5)) (Row U8 5 (.slice (some ⟨W.heap.size, 0, none⟩) m m) (List.replicate m 0) :: F) :=
  h.madeRow (h1 := fun _ => rfl) (e := 5) (enc := Value.int .u8) 0 m (by omega)
end Go.Proofs.YtjngnigelkgekaaGreat.Disk
namespace Go.Proofs.YtjngnigelkgekaaGreat.Disk
open Go.RowKit Go.Proofs.YtjngnigelkgekaaGreatW.PrintWords Go.Proofs.YtjngnigelkgekaaGreatW.PrintLast Go.Proofs.YtjngnigelkgekaaGreatW.PrintMore Go.Proofs.YtjngnigelkgekaaGreat.Kit
theorem flushed_none {las : List Int} {n : Nat} (h : las.length = 64 * n) : flushed las (fun _ => none) = las := by
  unfold flushed
  rw [show las.length / 64 = n by omega]
  exact secs_self h
end Go.Proofs.YtjngnigelkgekaaGreat.Disk
namespace Go.Proofs.YtjngnigelkgekaaGreat.Disk
end Go.Proofs.YtjngnigelkgekaaGreat.Disk
namespace Go.Proofs.YtjngnigelkgekaaGreat.Kit.Sep
open Go.Proofs.YtjngnigelkgekaaGreat.Kit
theorem to5 {w0 W : World} {p q r s t : HP} {F : List HP} (h : Sep w0 W (p :: q :: r :: s :: t :: F)) : Sep w0 W (q :: r :: s :: t :: p :: F) := h.to4.perm (.cons _ (.cons _ (.cons _ (.swap _ _ _))))
end Go.Proofs.YtjngnigelkgekaaGreat.Kit.Sep
namespace Go.Proofs.YtjngnigelkgekaaGreat.Ref
open Go.RowKit Go.Proofs.YtjngnigelkgekaaGreatW.PrintWords Go.Proofs.YtjngnigelkgekaaGreatW.PrintLast Go.Proofs.YtjngnigelkgekaaGreatW.PrintMore Go.Proofs.YtjngnigelkgekaaGreat.Kit Go.Proofs.YtjngnigelkgekaaGreat.Disk
abbrev BK : Kd Bool := Kd.bool
theorem infoT : (Tryz.prog.info? 4).map (fun i => (i.zero, i.size, i.bytes)) = some (some (.bool false), 1, 1) := by kernel_rfl
def RD (g n : Nat) (las now : List Int) (wait : List Bool) (left done : Int) : HP := Ex fun (x : Value × Value × Value) =>
  Star [Pu (1 ≤ n ∧ n ≤ 160 ∧ las.length = 64 * n ∧ now.length = 64 * n ∧ wait.length = n), Blk g 93 #[x.1, x.2.1, x.2.2, .int .i64 left, .int .i64 done],
    Row U8 5 x.1 las, Row U8 5 x.2.1 now, Row BK 4 x.2.2 wait]
section
variable {w0 W : World} {g n : Nat} {las now : List Int} {wait : List Bool} {left done : Int} {F : List HP}
theorem open_ (h : Sep w0 W (RD g n las now wait left done :: F)) : ∃ gl cl gn cn gw cw, (1 ≤ n ∧ n ≤ 160 ∧ las.length = 64 * n ∧ now.length = 64 * n ∧ wait.length = n ∧ 64 * n ≤ cl ∧ 64 * n ≤ cn ∧ n ≤ cw) ∧
    Sep w0 W (Blk g 93 #[.slice (some ⟨gl, 0, none⟩) (64 * n) cl, .slice (some ⟨gn, 0, none⟩) (64 * n) cn, .slice (some ⟨gw, 0, none⟩) n cw, .int .i64 left, .int .i64 done] ::
      Row U8 5 (.slice (some ⟨gl, 0, none⟩) (64 * n) cl) las :: Row U8 5 (.slice (some ⟨gn, 0, none⟩) (64 * n) cn) now :: Row BK 4 (.slice (some ⟨gw, 0, none⟩) n cw) wait :: F) := by
  obtain ⟨⟨v0, v1, v2⟩, h⟩ := h.ex
  obtain ⟨⟨n1, n2, n3, n4, n5⟩, h⟩ := h.star.pu
  obtain ⟨gl, cl, e0⟩ := h.tail.rowFormN n3 (by omega)
  obtain ⟨gn, cn, e1⟩ := h.tail.tail.rowFormN n4 (by omega)
  obtain ⟨gw, cw, e2⟩ := h.tail.tail.tail.rowFormN n5 (by omega)
  subst e0 e1 e2
  have h : Sep w0 W (Blk g 93 _ :: Row U8 5 (.slice (some ⟨gl, 0, none⟩) (64 * n) cl) las :: Row U8 5 (.slice (some ⟨gn, 0, none⟩) (64 * n) cn) now :: Row BK 4 (.slice (some ⟨gw, 0, none⟩) n cw) wait :: F) := h
  exact ⟨gl, cl, gn, cn, gw, cw, ⟨n1, n2, n3, n4, n5, h.tail.rowC.2.1, h.tail.tail.rowC.2.1, h.tail.tail.tail.rowC.2.1⟩, h⟩
theorem shut_ {v0 v1 v2 : Value} (n1 : 1 ≤ n) (n2 : n ≤ 160) (n3 : las.length = 64 * n) (n4 : now.length = 64 * n) (n5 : wait.length = n)
    (h : Sep w0 W (Blk g 93 #[v0, v1, v2, .int .i64 left, .int .i64 done] :: Row U8 5 v0 las :: Row U8 5 v1 now :: Row BK 4 v2 wait :: F)) : Sep w0 W (RD g n las now wait left done :: F) := by
  refine Sep.unex (v0, v1, v2) (Sep.unstar ?_)
  exact Sep.unpu ⟨n1, n2, n3, n4, n5⟩ h
set_option maxHeartbeats 400000 in
theorem len_ (h : Sep w0 W (RD g n las now wait left done :: F)) :
    Calls Tryz.prog 78 #[.pointer (some ⟨g, 0, none⟩)] W fun e w' => e = .returned (.int .i64 (n : Int)) ∧ W = w' := by
  obtain ⟨gl, cl, gn, cn, gw, cw, hn, hs⟩ := open_ h
  have c2 : W.cell? ⟨g, 2, none⟩ = some (.slice (some ⟨gw, 0, none⟩) n cw) := by rw [hs.cell 2]; rfl
  clear h hs
  go_enter Tryz.func78, Tryz.ntmps78
  go_wp2
  go_ret
  exact ⟨by first | rfl | (simp; done), rfl⟩
def leftF (left : Int) : Int := if 0 < left then left - 1 else left
set_option maxHeartbeats 400000 in
theorem deed_no (h : Sep w0 W (RD g n las now wait 0 done :: F)) :
    Calls Tryz.prog 87 #[.pointer (some ⟨g, 0, none⟩)] W fun e w' => e = .returned (.bool false) ∧ W = w' := by
  obtain ⟨gl, cl, gn, cn, gw, cw, hn, hs⟩ := open_ h
  have c3 : W.cell? ⟨g, 3, none⟩ = some (.int .i64 0) := by rw [hs.cell 3]; rfl
  clear h hs
  go_enter Tryz.func87, Tryz.ntmps87
  go_wp2
  go_ret
  exact ⟨by first | rfl | (simp; done), rfl⟩
set_option maxHeartbeats 800000 in
theorem deed_yes (h : Sep w0 W (RD g n las now wait left done :: F)) (h0 : left ≠ 0) (h1 : -9223372036854775808 ≤ left ∧ left ≤ 9223372036854775807) (h2 : 0 ≤ done ∧ done < 9223372036854775807) :
    Calls Tryz.prog 87 #[.pointer (some ⟨g, 0, none⟩)] W fun e w' => e = .returned (.bool true) ∧ Sep w0 w' (RD g n las now wait (leftF left) (done + 1) :: F) := by
  obtain ⟨gl, cl, gn, cn, gw, cw, hn, hs⟩ := open_ h
  have c3 : W.cell? ⟨g, 3, none⟩ = some (.int .i64 left) := by rw [hs.cell 3]; rfl
  have c4 : W.cell? ⟨g, 4, none⟩ = some (.int .i64 done) := by rw [hs.cell 4]; rfl
  have z3 := hs.frozen 3
  have z4 := hs.frozen 4
  have AS := Aside0.mk hs
  have AN := Aside0.mk hn
  clear h hs hn
  by_cases hp : 0 < left
  · go_enter Tryz.func87, Tryz.ntmps87
    go_wp2
    go_ret
    obtain ⟨n1, n2, n3, n4, n5, _⟩ := AN.out
    refine ⟨by first | rfl | (simp; done), ?_⟩
    have : leftF left = left - 1 := if_pos hp
    rw [this]
    exact shut_ n1 n2 n3 n4 n5 ((AS.out.setBlk 3 (.int .i64 (left - 1))).setBlk 4 (.int .i64 (done + 1)))
  · go_enter Tryz.func87, Tryz.ntmps87
    go_wp2
    go_ret
    obtain ⟨n1, n2, n3, n4, n5, _⟩ := AN.out
    refine ⟨by first | rfl | (simp; done), ?_⟩
    have : leftF left = left := if_neg (by omega)
    rw [this]
    exact shut_ n1 n2 n3 n4 n5 (AS.out.setBlk 4 (.int .i64 (done + 1)))
end
end Go.Proofs.YtjngnigelkgekaaGreat.Ref
