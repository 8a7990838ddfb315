/- Disk9, Book, Law1a, Law1b, DiskOf, Law1c, Ref1: what StoreOpens needs. -/
import Derived.Test.YtjngnigelkgekaaTstoreOpens4
import Derived.Test.YtjngnigelkgekaaProg
import Derived.WalkKit
import Derived.KernelRfl
import Derived.WalkSpells
import Derived.RegionCalls
import Derived.Deep.RegionWith
namespace Go.Proofs.Ytjngnigelkgekaa.Disk
set_option linter.unusedVariables false
set_option linter.unusedSimpArgs false
open Go.RowKit Go.Proofs.YtjngnigelkgekaaW.PrintWords Go.Proofs.YtjngnigelkgekaaW.PrintLast Go.Proofs.YtjngnigelkgekaaW.PrintMore Go.Proofs.Ytjngnigelkgekaa.Kit
def CrashI (w0 : World) (g m gl c nk ck clock : Nat) (Ak : Option Addr) (ents : List Ent) (las : List Int) (wt : Wt) (cuts : List Int) (F : List HP) (k j : Nat) (wr : World) : Prop :=
  j + k = (keysI las wt).length ∧
    Sep w0 wr (Row I64 3 (.slice Ak nk ck) (keysI las wt) :: Blk g 96 #[.slice (some ⟨gl, 0, none⟩) las.length c, .map (some m)] :: Row U8 5 (.slice (some ⟨gl, 0, none⟩) las.length c) (crashTo las wt cuts j) :: MapB m (ens (ents.map Ent.en)) clock :: (ents.map Ent.rd ++ F))
theorem cut_is {cuts : List Int} {j : Nat} (hj : j < cuts.length) : (if 0 < (if 64 < rd cuts (j : Int) then 64 else rd cuts (j : Int)) then (if 64 < rd cuts (j : Int) then 64 else rd cuts (j : Int)) else 0) = (cutN cuts j : Int) := by
  unfold cutN rd
  rw [if_pos hj, Int.toNat_natCast]
  generalize cuts.getD j 0 = y
  repeat' split
  all_goals omega
theorem C_pre {W : World} {A : Option Addr} {n m : Nat} {l : List Int} (h : U8.C W A n l) (hm : m ≤ n) : U8.C W A m (l.take m) := by
  obtain rfl : l.length = n := h.1
  have := Kd.C_take h hm
  rwa [show (l.take m).length = m by rw [List.length_take]; omega] at this
theorem wtLen {las : List Int} {ents : List Ent} {clock : Nat} {wt : Nat → Option (List Int)} (hok : DskOk las ents clock wt) : ∀ i b, wt i = some b → b.length = 64 := fun i b h => by
  rw [hok.wt i] at h
  obtain ⟨e, he, rfl⟩ := Option.map_eq_some_iff.1 h
  obtain ⟨pre, post, rfl, _, _⟩ := find_split he
  exact (hok.each e (by simp)).2.2.1
theorem keysI_at {las : List Int} {wt : Wt} {j : Nat} (hj : j < (keysI las wt).length) : ∃ i, (keysOf (las.length / 64) wt)[j]? = some i ∧ (keysI las wt).getD j 0 = (i : Int) := by
  have hj' : j < (keysOf (las.length / 64) wt).length := by unfold keysI at hj; rwa [List.length_map] at hj
  refine ⟨_, List.getElem?_eq_getElem hj', ?_⟩
  unfold keysI
  rw [List.getD_eq_getElem?_getD, List.getElem?_map, List.getElem?_eq_getElem hj']
  rfl
set_option maxHeartbeats 800000 in
set_option maxRecDepth 100000 in
theorem crash_ {w0 W : World} {g : Nat} {las : List Int} {wt : Nat → Option (List Int)} {F : List HP} {A : Option Addr} {n c : Nat} {cuts : List Int} (h : Sep w0 W (Dsk g las wt :: F)) (hcu : ∀ W', Sep w0 W' F → I64.C W' A n cuts) :
    Calls Try.prog 55 #[.pointer (some ⟨g, 0, none⟩), .slice A n c] W fun e w' => e = .returned (.int .i64 ((keysOf (las.length / 64) wt).length : Int)) ∧ Sep w0 w' (Dsk g (crashed las wt cuts) (fun _ => none) :: F) := by
  have H0 := Aside0.mk h
  have HCU := Aside0.mk hcu
  have hnc : cuts.length = n := (hcu W h.tail).1
  have ANC := Aside0.mk hnc
  have hnm : n ≤ 9223372036854775807 := (hcu W h.tail).2.1
  clear h hcu hnc
  go_enter Try.func55, Try.ntmps55
  go_wp2_with fail
  refine (waits_ H0.out).mono ?_
  rintro e w1 ⟨vk, rfl, hI⟩
  obtain ⟨v, m, ents, clock, hok, hs⟩ := open_ hI.at2
  obtain ⟨p1, p2, p3⟩ := hok.pos
  obtain ⟨nn, hn, n1, n2⟩ := hok.len
  obtain ⟨gl, cl, rfl⟩ := hs.tail.rowForm (by omega)
  have hcl := hs.tail.rowC.2.1
  obtain ⟨Ak, ck, rfl⟩ := hI.rowV
  have hkl : (keysI las wt).length ≤ 160 := by
    unfold keysI; rw [List.length_map]; have := keys_len_le wt (las.length / 64); omega
  have HI : CrashI w0 g m gl cl (keysI las wt).length ck clock Ak ents las wt cuts F (keysI las wt).length 0 w1 := by
    refine ⟨by omega, ?_⟩
    rw [crashTo_zero hn]
    have h3 := hs.perm (L' := Row I64 3 (.slice Ak (keysI las wt).length ck) (keysI las wt) :: Blk g 96 #[.slice (some ⟨gl, 0, none⟩) las.length cl, .map (some m)] :: Row U8 5 (.slice (some ⟨gl, 0, none⟩) las.length cl) las :: MapB m (ens (ents.map Ent.en)) clock :: (ents.map Ent.rd ++ F)) (by
      exact (List.Perm.cons _ (.cons _ (.cons _ List.perm_middle))).trans (List.perm_middle (l₁ := [_, _, _])))
    exact h3
  have A0 := Aside0.mk HI
  have AO := Aside0.mk hok
  have AN := Aside0.mk hn
  have ACL := Aside0.mk hcl
  clear HI hok hs p3 hn hI hcl
  go_wp2
  go_loopg [12] (keysI las wt).length (fun k p wr => ∃ j : Nat, p = .int .i64 (j : Int) ∧ CrashI w0 g m gl cl (keysI las wt).length ck clock Ak ents las wt cuts F k j wr)
  case atStart => exact ⟨0, rfl, A0.out⟩
  case round =>
    obtain ⟨j, rfl, hjk, hS⟩ := hrel
    by_cases hj : j < (keysI las wt).length
    · obtain ⟨bk, ck', hform⟩ := hS.rowForm (by omega)
      cases hform
      obtain ⟨i, hki, hkv⟩ := keysI_at hj
      obtain ⟨k1, k2, k3⟩ := (keys_at wt _ j i).1 hki
      have hkc : wr.cell? ⟨bk, j, none⟩ = some (.int .i64 (i : Int)) := by
        have := (hS.rowCell (0 : Int) j hj).1; rw [hkv] at this; exact this
      have hi : 64 * (i + 1) ≤ las.length := by have := AN.out; omega
      by_cases hjc : j < n
      · obtain ⟨ad, hA, hcc⟩ := Kd.at_int (HCU.out wr hS.tail.tail.tail.tail.weak) (j : Int) (by omega) (by omega)
        subst hA
        rw [Int.toNat_natCast] at hcc
        have c0 : wr.drew.cell? ⟨g, 0, none⟩ = some (.slice (some ⟨gl, 0, none⟩) las.length cl) := by rw [hS.drew.tail.cell 0]; rfl
        have c1 : wr.cell? ⟨g, 1, none⟩ = some (.map (some m)) := by rw [hS.tail.cell 1]; rfl
        rcases look_ (g := g) AO.out hS.drew.tail.tail.tail i with ⟨hn0, _⟩ | ⟨b, Ab, cb, hwb, hcb, hbl, hCb, hl, hl2⟩
        · rw [hn0] at k2; cases k2
        have hw : ∀ i b, wt i = some b → b.length = 64 := wtLen AO.out
        have hst := crashTo_step (cuts := cuts) AN.out hw (by have := AN.out; rwa [show las.length / 64 = nn by omega] at hki) hwb
        obtain ⟨M, hE, hM, hM64⟩ : ∃ M : Nat, (if 0 < (if 64 < rd cuts (j : Int) then 64 else rd cuts (j : Int)) then (if 64 < rd cuts (j : Int) then 64 else rd cuts (j : Int)) else 0) = (M : Int) ∧ cutN cuts j = M ∧ M ≤ 64 := by
          exact ⟨cutN cuts j, cut_is (by rw [ANC.out]; exact hjc), rfl, cutN_le _ _⟩
        rw [hM] at hst
        have hE2 : max 0 (min (rd cuts (j : Int)) 64) = (M : Int) := by rw [← hE]; repeat' split
                                                                        all_goals omega
        have AS := Aside0.mk hS.drew.at3
        have ACB := Aside0.mk hCb
        have AK := Aside0.mk hjk
        have AT := Aside0.mk hst
        have hMc : (M : Int) ≤ (cb : Int) := by omega
        have hM0 : (0 : Int) ≤ (M : Int) := by omega
        generalize rd cuts (j : Int) = x at *
        clear hS hCb hjk hl hki hkv k1 k2 k3 hwb hbl hst hM hw
        go_wp2
        refine start_ (n := 17) (S := fun w' => w'.cell? ⟨g, 1, none⟩ = some (.map (some m)) ∧ (Instr.lookup 94 (.map (some m)) (.int .i64 (i : Int)) false).run Try.prog w' = .ok (.slice Ab 64 cb) w' ∧ w'.cell? (ad.add j) = some (.int .i64 x)) (ds := [16]) #[false, false, false, false, false, false, false, false, false, false, false, false, false, false, false, false, false] (by kernel_rfl) rfl rfl ⟨c1, hl2, hcc⟩ (fun hHeld => ?_)
        refine pure_ (i := 0) (N := some 21) (v := ?_) (a' := ?_) #[true, false, false, false, false, false, false, false, false, false, false, false, false, false, false, false, false] rfl rfl (by kernel_rfl) (fun _ _ _ h => h) (Or.inl ⟨by rfl, ?_⟩) ?_ ?_
        rotate_left
        · intro w'
          go_simp
          with_reducible rfl
        rotate_left
        · simp only [Act.put, List.setIfInBounds_toArray, List.set_cons_zero, List.set_cons_succ, i64_w, i32_w]
          rfl
        refine pure_ (i := 1) (N := some 22) (v := ?_) (a' := ?_) #[true, true, false, false, false, false, false, false, false, false, false, false, false, false, false, false, false] rfl rfl (by kernel_rfl) (fun _ _ _ h => h) (Or.inl ⟨by rfl, ?_⟩) ?_ ?_
        rotate_left
        · intro w'
          go_simp
          with_reducible rfl
        rotate_left
        · simp only [Act.put, List.setIfInBounds_toArray, List.set_cons_zero, List.set_cons_succ, i64_w, i32_w]
          rfl
        refine pure_ (i := 3) (N := some 24) (v := ?_) (a' := ?_) #[true, true, false, true, false, false, false, false, false, false, false, false, false, false, false, false, false] rfl rfl (by kernel_rfl) (fun _ _ _ h => h) (Or.inl ⟨by rfl, ?_⟩) ?_ ?_
        rotate_left
        · intro w'
          go_simp
          with_reducible rfl
        rotate_left
        · simp only [Act.put, List.setIfInBounds_toArray, List.set_cons_zero, List.set_cons_succ, i64_w, i32_w]
          rfl
        refine pure_ (i := 4) (N := some 25) (v := ?_) (a' := ?_) #[true, true, false, true, true, false, false, false, false, false, false, false, false, false, false, false, false] rfl rfl (by kernel_rfl) (fun _ _ _ h => h) (Or.inl ⟨by rfl, ?_⟩) ?_ ?_
        rotate_left
        · intro w'
          go_simp
          with_reducible rfl
        rotate_left
        · simp only [Act.put, List.setIfInBounds_toArray, List.set_cons_zero, List.set_cons_succ, i64_w, i32_w]
          rfl
        refine pure_ (i := 5) (N := some 26) (v := ?_) (a' := ?_) #[true, true, false, true, true, true, false, false, false, false, false, false, false, false, false, false, false] rfl rfl (by kernel_rfl) (fun _ _ _ h => h) (Or.inl ⟨by rfl, ?_⟩) ?_ ?_
        rotate_left
        · intro w'
          go_simp
          with_reducible rfl
        rotate_left
        · simp only [Act.put, List.setIfInBounds_toArray, List.set_cons_zero, List.set_cons_succ, i64_w, i32_w]
          rfl
        refine pure_ (i := 7) (N := some 28) (v := ?_) (a' := ?_) #[true, true, false, true, true, true, false, true, false, false, false, false, false, false, false, false, false] rfl rfl (by kernel_rfl) (fun _ _ _ h => h) (Or.inl ⟨by rfl, ?_⟩) ?_ ?_
        rotate_left
        · intro w'
          go_simp
          with_reducible rfl
        rotate_left
        · simp only [Act.put, List.setIfInBounds_toArray, List.set_cons_zero, List.set_cons_succ, i64_w, i32_w]
          rfl
        refine pure_ (i := 9) (N := some 30) (v := ?_) (a' := ?_) #[true, true, false, true, true, true, false, true, false, true, false, false, false, false, false, false, false] rfl rfl (by kernel_rfl) (fun _ _ _ h => h) (Or.inl ⟨by rfl, ?_⟩) ?_ ?_
        rotate_left
        · intro w'
          go_simp
          with_reducible rfl
        rotate_left
        · simp only [Act.put, List.setIfInBounds_toArray, List.set_cons_zero, List.set_cons_succ, i64_w, i32_w]
          rfl
        refine pure_ (i := 10) (N := some 31) (v := ?_) (a' := ?_) #[true, true, false, true, true, true, false, true, false, true, true, false, false, false, false, false, false] rfl rfl (by kernel_rfl) (fun _ _ _ h => h) (Or.inl ⟨by rfl, ?_⟩) ?_ ?_
        rotate_left
        · intro w'
          go_simp
          with_reducible rfl
        rotate_left
        · simp only [Act.put, List.setIfInBounds_toArray, List.set_cons_zero, List.set_cons_succ, i64_w, i32_w]
          rfl
        refine pure_ (i := 11) (N := some 32) (v := ?_) (a' := ?_) #[true, true, false, true, true, true, false, true, false, true, true, true, false, false, false, false, false] rfl rfl (by kernel_rfl) (fun _ _ _ h => h) (Or.inl ⟨by rfl, ?_⟩) ?_ ?_
        rotate_left
        · intro w'
          go_simp
          with_reducible rfl
        rotate_left
        · simp only [Act.put, List.setIfInBounds_toArray, List.set_cons_zero, List.set_cons_succ, i64_w, i32_w]
          rfl
        refine take_ (i := 6) (N := some 27) (v := ?_) (a' := ?_) #[true, true, false, true, true, true, true, true, false, true, true, true, false, false, false, false, false] rfl rfl (by kernel_rfl) (fun _ _ _ h => h) (Or.inl ⟨by rfl, ?_⟩) hHeld ?_ ?_
        rotate_left
        · rintro w' ⟨s0, s1, s2⟩
          go_simp
          with_reducible rfl
        rotate_left
        · simp only [Act.put, List.setIfInBounds_toArray, List.set_cons_zero, List.set_cons_succ, i64_w, i32_w]
          rfl
        refine take_ (i := 8) (N := some 29) (v := ?_) (a' := ?_) #[true, true, false, true, true, true, true, true, true, true, true, true, false, false, false, false, false] rfl rfl (by kernel_rfl) (fun _ _ _ h => h) (Or.inl ⟨by rfl, ?_⟩) hHeld ?_ ?_
        rotate_left
        · rintro w' ⟨s0, s1, s2⟩
          go_simp
          with_reducible rfl
        rotate_left
        · simp only [Act.put, List.setIfInBounds_toArray, List.set_cons_zero, List.set_cons_succ, i64_w, i32_w]
          rfl
        refine take_ (i := 12) (N := some 33) (v := ?_) (a' := ?_) #[true, true, false, true, true, true, true, true, true, true, true, true, true, false, false, false, false] rfl rfl (by kernel_rfl) (fun _ _ _ h => h) (Or.inl ⟨by rfl, ?_⟩) hHeld ?_ ?_
        rotate_left
        · rintro w' ⟨s0, s1, s2⟩
          go_simp
          with_reducible rfl
        rotate_left
        · simp only [Act.put, List.setIfInBounds_toArray, List.set_cons_zero, List.set_cons_succ, i64_w, i32_w]
          rfl
        refine pure_ (i := 13) (N := some 34) (v := ?_) (a' := ?_) #[true, true, false, true, true, true, true, true, true, true, true, true, true, true, false, false, false] rfl rfl (by kernel_rfl) (fun _ _ _ h => h) (Or.inl ⟨by rfl, ?_⟩) ?_ ?_
        rotate_left
        · intro w'
          go_simp
          with_reducible rfl
        rotate_left
        · simp only [Act.put, List.setIfInBounds_toArray, List.set_cons_zero, List.set_cons_succ, i64_w, i32_w]
          rfl
        refine pure_ (i := 14) (N := some 35) (v := ?_) (a' := ?_) #[true, true, false, true, true, true, true, true, true, true, true, true, true, true, true, false, false] rfl rfl (by kernel_rfl) (fun _ _ _ h => h) (Or.inl ⟨by rfl, ?_⟩) ?_ ?_
        rotate_left
        · intro w'
          go_simp
          with_reducible rfl
        rotate_left
        · simp only [Act.put, List.setIfInBounds_toArray, List.set_cons_zero, List.set_cons_succ, i64_w, i32_w]
          rfl
        refine pure_ (i := 15) (N := some 36) (v := ?_) (a' := ?_) #[true, true, false, true, true, true, true, true, true, true, true, true, true, true, true, true, false] rfl rfl (by kernel_rfl) (fun _ _ _ h => h) (Or.inl ⟨by rfl, ?_⟩) ?_ ?_
        rotate_left
        · intro w'
          go_simp
          with_reducible rfl
        rotate_left
        · simp only [Act.put, List.setIfInBounds_toArray, List.set_cons_zero, List.set_cons_succ, i64_w, i32_w]
          rfl
        refine one_ (i := 2) (N := some 23) #[true, true, true, true, true, true, true, true, true, true, true, true, true, true, true, true, false] rfl rfl (by kernel_rfl) (by decide) (fun K hK => ?_)
        refine goes_ Try.func101 (by kernel_rfl) rfl #[.pointer (some ⟨g, 0, none⟩), .int .i64 (i : Int)] (by rfl) rfl rfl (by simp only [List.map_toArray, List.map_cons, List.map_nil]; rfl) ?_
        with_reducible refine (sector_ (W := wr.drew) c0 hi p2 ACL.out).mono ?_
        rintro e w3 ⟨rfl, rfl⟩
        refine ⟨_, rfl, ?_⟩
        refine hK.out _ _ ⟨c1, hl2, hcc⟩ (fun hHeld => ?_)
        clear hK K
        refine norm_ (a' := ?_) ?_ ?_
        rotate_left
        · show Act.put _ (some 23) _ = _
          simp only [Act.put, List.setIfInBounds_toArray, List.set_cons_zero, List.set_cons_succ, i64_w, i32_w]
          rfl
        refine last_ (i := 16) (N := some 37) #[true, true, true, true, true, true, true, true, true, true, true, true, true, true, true, true, true] rfl rfl (by kernel_rfl) (by decide) (fun K hK => ?_)
        have hct : (b.take M).take 64 = b.take M := List.take_of_length_le (by rw [List.length_take]; omega)
        refine AS.out.copyStep (by rfl) (.tmp 23) (.tmp 36) rfl Try.underlying30 size1 (o := 64 * i) (n' := 64) (c' := cl - 64 * i) (m := M) (c := cb) (A := Ab) (ys := b.take M) rfl rfl (C_pre ACB.out hM64) (by omega) (fun W4 hS4 => ?_)
        rw [hct, AT.out] at hS4
        have AS4 := Aside0.mk hS4.to3
        clear hS4 hct
        refine hK.out _ _ ?_
        clear hK K
        refine norm_ (a' := ?_) ?_ ?_
        rotate_left
        · show Act.put _ (some 37) _ = _
          simp only [Act.put, List.setIfInBounds_toArray, List.set_cons_zero, List.set_cons_succ, i64_w, i32_w]
          rfl
        refine done_ (by kernel_rfl) ?_
        go_wp2
        all_goals
          go_roundg (gk - 1)
          case measure => have := AK.out; omega
          case rel => exact ⟨j + 1, by go_num, by have := AK.out; omega, AS4.out⟩
      · have hw : ∀ i b, wt i = some b → b.length = 64 := wtLen AO.out
        have hsk := crashTo_skip (cuts := cuts) (j := j) (by have := ANC.out; omega) AN.out hw
        have AS := Aside0.mk hS
        have AK := Aside0.mk hjk
        have AT := Aside0.mk hsk
        clear hS hjk hki hkv k1 k2 k3 hw hsk
        go_wp2
        go_roundg (gk - 1)
        case measure => have := AK.out; omega
        case rel => exact ⟨j + 1, by go_num, by have := AK.out; omega, by rw [AT.out]; exact AS.out⟩
    · obtain ⟨W2, hcr, hS2⟩ := clear_run hS.at4 0
      have c1 : wr.cell? ⟨g, 1, none⟩ = some (.map (some m)) := by rw [hS.tail.cell 1]; rfl
      have AS := Aside0.mk hS2
      have AK := Aside0.mk hjk
      clear hS hS2 hjk
      go_wp2
      go_ret
      have hjl : j = (keysOf nn wt).length := by
        have h1 := AK.out
        have : (keysI las wt).length = (keysOf nn wt).length := by unfold keysI; rw [List.length_map, show las.length / 64 = nn by have := AN.out; omega]
        omega
      refine ⟨?_, ?_⟩
      · have : (keysI las wt).length = (keysOf (las.length / 64) wt).length := by unfold keysI; rw [List.length_map]
        rw [← this]; rfl
      · have h5 := AS.out
        rw [hjl, crashTo_all AN.out] at h5
        have hfl : (crashed las wt cuts).length = las.length := (h5.tail.tail.tail.rowC.1).symm
        refine shut_ (v := .slice (some ⟨gl, 0, none⟩) las.length cl) (m := m) (ents := []) (clock := clock) ⟨by rw [hfl]; exact AO.out.len, List.nodup_nil, List.nodup_nil, fun e he => absurd he (by simp), fun _ => rfl⟩ ?_
        have h6 := h5.at2.tail
        have h7 := h6.to3
        have h9 := h7.perm (L' := ents.map Ent.rd ++ (Blk g 96 #[.slice (some ⟨gl, 0, none⟩) las.length cl, .map (some m)] :: Row U8 5 (.slice (some ⟨gl, 0, none⟩) las.length cl) (crashed las wt cuts) :: MapB m (ens []) clock :: F)) (by
          have := List.perm_append_comm (l₁ := [Blk g 96 #[.slice (some ⟨gl, 0, none⟩) las.length cl, .map (some m)], Row U8 5 (.slice (some ⟨gl, 0, none⟩) las.length cl) (crashed las wt cuts), MapB m (ens []) clock]) (l₂ := ents.map Ent.rd)
          simpa using this.append_right F)
        exact h9.weak
end Go.Proofs.Ytjngnigelkgekaa.Disk
namespace Go.Proofs.Ytjngnigelkgekaa.Book
set_option linter.unusedVariables false
set_option linter.unusedSimpArgs false
open Go.RowKit Go.Proofs.YtjngnigelkgekaaW.PrintWords Go.Proofs.Ytjngnigelkgekaa.Kit
def withinF (n lo hi : Int) : Int :=
  if lo ≤ n ∧ n ≤ hi then n else lo + (if n.tmod (hi - lo + 1) < 0 then n.tmod (hi - lo + 1) + hi - lo + 1 else n.tmod (hi - lo + 1))
theorem withinF_in {n lo hi : Int} (h : lo ≤ hi) : lo ≤ withinF n lo hi ∧ withinF n lo hi ≤ hi := by
  unfold withinF
  split
  · omega
  · have h1 : n.tmod (hi - lo + 1) < hi - lo + 1 := Int.tmod_lt_of_pos n (by omega)
    have h2 : -(hi - lo + 1) < n.tmod (hi - lo + 1) := Int.lt_tmod_of_pos n (by omega)
    split <;> omega
theorem withinF_id {n lo hi : Int} (h1 : lo ≤ n) (h2 : n ≤ hi) : withinF n lo hi = n := if_pos ⟨h1, h2⟩
set_option maxHeartbeats 400000 in
theorem within_ (n lo hi : Int) (w : World) (h1 : -1073741824 ≤ lo) (h2 : lo ≤ hi) (h3 : hi ≤ 1073741824) :
    Calls Try.prog 19 #[.int .i64 n, .int .i64 lo, .int .i64 hi] w fun e w' => e = .returned (.int .i64 (withinF n lo hi)) ∧ w = w' := by
  have A0 := Aside0.mk (withinF_in (n := n) h2)
  have r1 : n.tmod (hi - lo + 1) < hi - lo + 1 := Int.tmod_lt_of_pos n (by omega)
  have r2 : -(hi - lo + 1) < n.tmod (hi - lo + 1) := Int.lt_tmod_of_pos n (by omega)
  have nz : ¬ (hi - lo + 1 = 0) := by omega
  have fin : ∀ (a : Int), withinF n lo hi = a → Ending.returned (.int .i64 a) = Ending.returned (.int .i64 (withinF n lo hi)) := fun a h => by rw [h]
  have AF := Aside0.mk fin
  clear fin
  by_cases c1 : lo ≤ n
  · by_cases c2 : n ≤ hi
    · have A1 := Aside0.mk (withinF_id c1 c2)
      clear r1 r2 nz
      go_enter Try.func19, Try.ntmps19
      go_wp2
      go_ret
      exact ⟨AF.out _ A1.out, rfl⟩
    · have A1 : Aside0 (withinF n lo hi = lo + (if n.tmod (hi - lo + 1) < 0 then n.tmod (hi - lo + 1) + hi - lo + 1 else n.tmod (hi - lo + 1))) := ⟨if_neg (fun h => c2 h.2)⟩
      by_cases c3 : n.tmod (hi - lo + 1) < 0
      · go_enter Try.func19, Try.ntmps19
        go_wp2
        go_ret
        exact ⟨AF.out _ (by rw [A1.out, if_pos c3]), rfl⟩
      · go_enter Try.func19, Try.ntmps19
        go_wp2
        go_ret
        exact ⟨AF.out _ (by rw [A1.out, if_neg (by omega)]), rfl⟩
  · have A1 : Aside0 (withinF n lo hi = lo + (if n.tmod (hi - lo + 1) < 0 then n.tmod (hi - lo + 1) + hi - lo + 1 else n.tmod (hi - lo + 1))) := ⟨if_neg (fun h => c1 h.1)⟩
    by_cases c3 : n.tmod (hi - lo + 1) < 0
    · go_enter Try.func19, Try.ntmps19
      go_wp2
      go_ret
      exact ⟨AF.out _ (by rw [A1.out, if_pos c3]), rfl⟩
    · go_enter Try.func19, Try.ntmps19
      go_wp2
      go_ret
      exact ⟨AF.out _ (by rw [A1.out, if_neg (by omega)]), rfl⟩
end Go.Proofs.Ytjngnigelkgekaa.Book
namespace Go.Proofs.Ytjngnigelkgekaa.Disk
set_option linter.unusedVariables false
set_option linter.unusedSimpArgs false
open Go.RowKit Go.Proofs.YtjngnigelkgekaaW.PrintWords Go.Proofs.YtjngnigelkgekaaW.PrintLast Go.Proofs.YtjngnigelkgekaaW.PrintMore Go.Proofs.Ytjngnigelkgekaa.Kit
theorem make_ {m : Nat} (hm : m ≤ 100000) : ∀ W : World, (Instr.makeSlice 30 (.int .i64 (m : Int)) (.int .i64 (m : Int))).run Try.prog W = .ok (.slice (some ⟨W.heap.size, 0, none⟩) m m) (W.alloc (.cells (madeCells #[.int .u8 0] m) 5)) :=
  print_make (P := Try.prog) 30 5 .u8 1 Try.underlying30 infoB (by decide) m (by omega)
theorem madeB {w0 W : World} {F : List HP} (m : Nat) (h : Sep w0 W F) (hm : m ≤ 100000) : Sep w0 (W.alloc (.cells (madeCells #[.int .u8 0] m) 5)) (Row U8 5 (.slice (some ⟨W.heap.size, 0, none⟩) m m) (List.replicate m 0) :: F) :=
  h.madeRow (h1 := fun _ => rfl) (e := 5) (enc := Value.int .u8) 0 m (by omega)
end Go.Proofs.Ytjngnigelkgekaa.Disk
namespace Go.Proofs.Ytjngnigelkgekaa.Disk
set_option linter.unusedVariables false
set_option linter.unusedSimpArgs false
open Go.RowKit Go.Proofs.YtjngnigelkgekaaW.PrintWords Go.Proofs.YtjngnigelkgekaaW.PrintLast Go.Proofs.YtjngnigelkgekaaW.PrintMore Go.Proofs.Ytjngnigelkgekaa.Kit
end Go.Proofs.Ytjngnigelkgekaa.Disk
namespace Go.Proofs.Ytjngnigelkgekaa.Disk
set_option linter.unusedVariables false
set_option linter.unusedSimpArgs false
open Go.RowKit Go.Proofs.YtjngnigelkgekaaW.PrintWords Go.Proofs.YtjngnigelkgekaaW.PrintLast Go.Proofs.YtjngnigelkgekaaW.PrintMore Go.Proofs.Ytjngnigelkgekaa.Kit
theorem flushed_none {las : List Int} {n : Nat} (h : las.length = 64 * n) : flushed las (fun _ => none) = las := by
  unfold flushed
  rw [show las.length / 64 = n by omega]
  exact secs_self h
end Go.Proofs.Ytjngnigelkgekaa.Disk
namespace Go.Proofs.Ytjngnigelkgekaa.Disk
set_option linter.unusedVariables false
set_option linter.unusedSimpArgs false
open Go.RowKit Go.Proofs.YtjngnigelkgekaaW.PrintWords Go.Proofs.YtjngnigelkgekaaW.PrintLast Go.Proofs.YtjngnigelkgekaaW.PrintMore Go.Proofs.Ytjngnigelkgekaa.Kit
def was (X : List Int) (j : Nat) : List Int := if j < 2 then X else List.replicate 64 0
end Go.Proofs.Ytjngnigelkgekaa.Disk
namespace Go.Proofs.Ytjngnigelkgekaa.Kit.Sep
open Go.Proofs.Ytjngnigelkgekaa.Kit
end Go.Proofs.Ytjngnigelkgekaa.Kit.Sep
namespace Go.Proofs.Ytjngnigelkgekaa.Ref
set_option linter.unusedVariables false
set_option linter.unusedSimpArgs false
open Go.RowKit Go.Proofs.YtjngnigelkgekaaW.PrintWords Go.Proofs.YtjngnigelkgekaaW.PrintLast Go.Proofs.YtjngnigelkgekaaW.PrintMore Go.Proofs.Ytjngnigelkgekaa.Kit Go.Proofs.Ytjngnigelkgekaa.Disk
abbrev BK : Kd Bool := Kd.bool
theorem infoT : (Try.prog.info? 4).map (fun i => (i.zero, i.size, i.bytes)) = some (some (.bool false), 1, 1) := by kernel_rfl
/-- The document's disk: n sectors; what lasts, what is written, which sectors wait; how many deeds are left, how many are done. -/
def RD (g n : Nat) (las now : List Int) (wait : List Bool) (left done : Int) : HP := Ex fun (x : Value × Value × Value) =>
  Star [Pu (1 ≤ n ∧ n ≤ 160 ∧ las.length = 64 * n ∧ now.length = 64 * n ∧ wait.length = n), Blk g 144 #[x.1, x.2.1, x.2.2, .int .i64 left, .int .i64 done],
    Row U8 5 x.1 las, Row U8 5 x.2.1 now, Row BK 4 x.2.2 wait]
section
variable {w0 W : World} {g n : Nat} {las now : List Int} {wait : List Bool} {left done : Int} {F : List HP}
theorem shut_ {v0 v1 v2 : Value} (n1 : 1 ≤ n) (n2 : n ≤ 160) (n3 : las.length = 64 * n) (n4 : now.length = 64 * n) (n5 : wait.length = n)
    (h : Sep w0 W (Blk g 144 #[v0, v1, v2, .int .i64 left, .int .i64 done] :: Row U8 5 v0 las :: Row U8 5 v1 now :: Row BK 4 v2 wait :: F)) : Sep w0 W (RD g n las now wait left done :: F) := by
  refine Sep.unex (v0, v1, v2) (Sep.unstar ?_)
  exact Sep.unpu ⟨n1, n2, n3, n4, n5⟩ h
end
end Go.Proofs.Ytjngnigelkgekaa.Ref
