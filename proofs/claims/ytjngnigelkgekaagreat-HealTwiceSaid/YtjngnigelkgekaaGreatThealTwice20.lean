/- StRef3, StLaw3, StLaw4, StLaw5, StMost, StFP: what HealTwice needs. -/
import Derived.Test.YtjngnigelkgekaaGreatThealTwice19
set_option linter.unusedVariables false
set_option linter.unusedSimpArgs false
namespace Go.Proofs.YtjngnigelkgekaaGreat.RStore
open Go.RowKit Go.Proofs.YtjngnigelkgekaaGreatW.PrintWords Go.Proofs.YtjngnigelkgekaaGreatW.PrintLast Go.Proofs.YtjngnigelkgekaaGreatW.PrintMore Go.Proofs.YtjngnigelkgekaaGreat.Kit Go.Proofs.YtjngnigelkgekaaGreat.Plain Go.Proofs.YtjngnigelkgekaaGreat.Disk Go.Proofs.YtjngnigelkgekaaGreat.Root
open Go.Proofs.YtjngnigelkgekaaGreat.Delta (Chg KC)
open Go.Proofs.YtjngnigelkgekaaGreat.Store (KP ov_at ov_C)
open Go.Proofs.YtjngnigelkgekaaGreat.Deed
def nmZ (nm : List Bool) (j : Nat) : List Bool := List.replicate j false ++ nm.drop j
theorem nmZ_get {nm : List Bool} {j : Nat} (hj : j ≤ nm.length) (i : Nat) : (nmZ nm j)[i]? = if i < j then some false else nm[i]? := by
  unfold nmZ
  by_cases h : i < j
  · rw [if_pos h, List.getElem?_append_left (by rw [List.length_replicate]; exact h), List.getElem?_replicate, if_pos h]
  · rw [if_neg h, List.getElem?_append_right (by rw [List.length_replicate]; omega), List.length_replicate, List.getElem?_drop, show j + (i - j) = i by omega]
theorem nmZ_len {nm : List Bool} {j : Nat} (hj : j ≤ nm.length) : (nmZ nm j).length = nm.length := by unfold nmZ; rw [List.length_append, List.length_replicate, List.length_drop]; omega
theorem nmZ_at {nm : List Bool} {j : Nat} (hj : j < nm.length) : (nmZ nm j).getD j false = nm.getD j false := by
  rw [List.getD_eq_getElem?_getD, List.getD_eq_getElem?_getD, nmZ_get (by omega), if_neg (Nat.lt_irrefl _)]
theorem nmZ_no {nm : List Bool} {j : Nat} (hj : j < nm.length) (h : nm.getD j false = false) : nmZ nm (j + 1) = nmZ nm j := by
  apply List.ext_getElem?
  intro i
  rw [nmZ_get (by omega), nmZ_get (by omega)]
  rw [List.getD_eq_getElem?_getD] at h
  by_cases h1 : i < j
  · rw [if_pos (by omega), if_pos h1]
  · by_cases h2 : i = j
    · subst h2
      rw [if_pos (by omega), if_neg (by omega)]
      rw [List.getElem?_eq_getElem hj] at h ⊢
      rw [show nm[i] = false from h]
    · rw [if_neg (by omega), if_neg (by omega)]
theorem nmZ_yes {nm : List Bool} {j : Nat} (hj : j < nm.length) : (nmZ nm j).set j false = nmZ nm (j + 1) := by
  apply List.ext_getElem?
  intro i
  rw [List.getElem?_set, nmZ_get (by omega), nmZ_get (by omega), nmZ_len (by omega)]
  by_cases h2 : j = i
  · subst h2
    rw [if_pos rfl, if_pos hj, if_pos (by omega)]
  · rw [if_neg h2]
    by_cases h1 : i < j
    · rw [if_pos h1, if_pos (by omega)]
    · rw [if_neg h1, if_neg (by omega)]
theorem nmZ_all {nm : List Bool} {b : Nat} (h : nm.length = b) : nmZ nm b = List.replicate b false := by
  unfold nmZ; rw [List.drop_of_length_le (by omega), List.append_nil]
theorem nmZ_0 (nm : List Bool) : nmZ nm 0 = nm := by unfold nmZ; simp
def nmL (nm : List Bool) (j : Nat) : List Nat := (List.range j).filter (fun i => nm.getD i false)
theorem nmL_no {nm : List Bool} {j : Nat} (h : nm.getD j false = false) : nmL nm (j + 1) = nmL nm j := by
  unfold nmL; rw [List.range_succ, List.filter_append, List.filter_cons, h]; simp
theorem nmL_yes {nm : List Bool} {j : Nat} (h : nm.getD j false = true) : nmL nm (j + 1) = nmL nm j ++ [j] := by
  unfold nmL; rw [List.range_succ, List.filter_append, List.filter_cons, h]; simp
theorem nmL_len (nm : List Bool) (j : Nat) : (nmL nm j).length ≤ j := by
  unfold nmL
  have := List.length_filter_le (fun i => nm.getD i false) (List.range j)
  rw [List.length_range] at this
  exact this
theorem nmL_lt {nm : List Bool} {j k : Nat} (h : k ∈ nmL nm j) : k < j := List.mem_range.1 (List.mem_filter.1 h).1
theorem pre_ok {n a b : Nat} {E : Int} {pages : List (List Int)} (hr : rightR (a : Int) (b : Int) E n = true) (hp : ∀ k : Nat, k < b → (pages.getD k []).length = 64) {l : List Nat} (hl : ∀ k ∈ l, k < b) : OkD n (none :: homeD a pages l) := fun i x hm => by
  rcases List.mem_cons.1 hm with hm | hm
  · cases hm
  · exact homeD_ok hr hp hl i x hm
section
variable {w0 W : World} {F : List HP} {gx gr n a b : Nat} {ep : Int} {pages : List (List Int)} {nm : List Bool} {used seq : Nat}
theorem kv_cell {g N c kk : Nat} {e : Nat} {cs : List OV} {u : Value} (h : Sep w0 W (Row KV e (.slice (some ⟨g, 0, none⟩) N c) cs :: F)) (hk : kk < N) (hc : kk < cs.length) (hu : (cs[kk]).1 = u) : W.cell? ⟨g, kk, none⟩ = some u := by
  have h1 := (h.rowCell (enc := fun x : OV => x.1) ⟨.int .i64 0, rfl⟩ kk hk).1
  rw [List.getD_eq_getElem?_getD, List.getElem?_eq_getElem hc] at h1
  rw [← hu]; exact h1
set_option maxHeartbeats 3200000 in
set_option maxRecDepth 100000 in
theorem rcheck_ {S : DS} {k : Int} {d : Nat} (h : Sep w0 W (RStB gx gr (a : Int) (b : Int) ep pages nm used seq :: RQ gr n S k d [] :: F)) (hs : OkS n S) (hr : rightR (a : Int) (b : Int) ep n = true) (he : ep < 4294967295) (hbp : pages.length = b) (hpg : ∀ kk : Nat, kk < b → (pages.getD kk []).length = 64) (hk : -1 ≤ k ∧ k ≤ 1000000) (hd : d ≤ 1000000) :
    Calls Tryz.prog 48 #[.pointer (some ⟨gx, 0, none⟩)] W fun e w' => e = .returned (.int .i64 0) ∧ Sep w0 w' (RStB gx gr (a : Int) (b : Int) (ep + 1) pages (List.replicate b false) 0 0 :: RQ gr n S k d (chkD a b ep pages (nmL nm b)) :: F) := by
  obtain ⟨hp, gp, cp, gn, cn, hs0⟩ := rstb_open h
  obtain ⟨cs, hs2⟩ := hs0.at2.rowV_open
  obtain ⟨N, hN⟩ : ∃ N, pages.length = N := ⟨_, rfl⟩
  obtain rfl : N = b := hN.symm.trans hbp
  rw [hN] at hs2
  have hr4 := of_decide_eq_true hr
  have HN := Aside0.mk hN
  have HNM : Aside0 (nm.length = N) := ⟨hp.1.trans hN⟩
  have HNU : Aside0 (1 ≤ a ∧ a ≤ 64 ∧ 1 ≤ N ∧ N ≤ 64 ∧ 2 + a + N ≤ n ∧ 1 ≤ ep) := ⟨by omega⟩
  have HP := Aside0.mk hp
  have HS := Aside0.mk hs
  have HR := Aside0.mk hr
  have HPG := Aside0.mk hpg
  have HK := Aside0.mk hk
  have HD := Aside0.mk hd
  have HEP := Aside0.mk he
  have B0 : Aside0 (Sep w0 W (RQ gr n S k d [] :: Row KV 24 (.slice (some ⟨gp, 0, none⟩) N cp) cs :: Fx (EachV KP pages cs) :: Blk gx 87 #[.pointer (some ⟨gr, 0, none⟩), .int .i64 (a : Int), .int .i64 (N : Int), .int .u32 ep, .slice (some ⟨gp, 0, none⟩) N cp, .slice (some ⟨gn, 0, none⟩) N cn, .int .i64 (used : Int), .int .u32 (seq : Int)] :: Row BK 4 (.slice (some ⟨gn, 0, none⟩) N cn) nm :: F)) := ⟨hs2.at5⟩
  have z0 := (B0.out.at4.cell 0).trans rfl
  have z3 := (B0.out.at4.cell 3).trans rfl
  have hep2 : (ep == 4294967295) = false := by simp; omega
  have hep3 : ¬ ep = 4294967295 := by omega
  have hN0 : 1 ≤ N := by omega
  have hN64 : N ≤ 64 := by omega
  clear h hs0 hs2 hN hbp hr4 hp hs hr hpg hk hd he
  go_enter Tryz.func48, Tryz.ntmps48
  go_wp2_with fail
  refine (qflush_ B0.out HS.out OkD.nil HK.out (by have := HD.out; simp only [List.length_nil]; omega)).mono ?_
  rintro e w1 ⟨rfl, hS1⟩
  have B1 : Aside0 (Sep w0 w1 (RQ gr n S k d (none :: homeD a pages (nmL nm 0)) :: _)) := ⟨hS1⟩
  clear hS1 z0 z3
  have z5 := (B1.out.at4.cell 5).trans rfl
  go_wp2_with fail
  go_loopg [20] N (fun k_ p wr => ∃ (j : Nat), p = .int .i64 (j : Int) ∧ j + k_ = N ∧ Sep w0 wr (RQ gr n S k d (none :: homeD a pages (nmL nm j)) :: Row KV 24 (.slice (some ⟨gp, 0, none⟩) N cp) cs :: Fx (EachV KP pages cs) :: Blk gx 87 #[.pointer (some ⟨gr, 0, none⟩), .int .i64 (a : Int), .int .i64 (N : Int), .int .u32 ep, .slice (some ⟨gp, 0, none⟩) N cp, .slice (some ⟨gn, 0, none⟩) N cn, .int .i64 (used : Int), .int .u32 (seq : Int)] :: Row BK 4 (.slice (some ⟨gn, 0, none⟩) N cn) (nmZ nm j) :: F))
  case atStart => exact ⟨0, rfl, by omega, by rw [nmZ_0]; exact B1.out⟩
  case round =>
    obtain ⟨j, rfl, hjk, hS⟩ := hrel
    obtain ⟨w5, rfl⟩ : ∃ x, x = wr := ⟨_, rfl⟩
    have AK := Aside0.mk hjk
    have AS := Aside0.mk hS
    clear hS z5
    by_cases cj : j < N
    case pos =>
      have hjl : (j : Int) < (N : Int) := by omega
      have hjm : j < nm.length := by rw [HNM.out]; exact cj
      have z5 := (AS.out.at4.cell 5).trans rfl
      obtain ⟨f5, f5b⟩ := AS.out.at5.rowCell (enc := Value.bool) false j cj
      rw [nmZ_at hjm] at f5
      clear f5b
      cases hb : nm.getD j false with
      | false =>
        rw [hb] at f5
        have HNL := Aside0.mk (And.intro (nmL_no hb) (nmZ_no hjm hb))
        clear hjk cj hjm hb
        go_wp2_with fail
        go_roundg (gk - 1)
        case measure => have := AK.out; omega
        case rel => exact ⟨j + 1, by go_num, by have := AK.out; omega, by rw [HNL.out.1, HNL.out.2]; exact AS.out⟩
      | true =>
        rw [hb] at f5
        have HNL := Aside0.mk (And.intro (nmL_yes hb) (nmZ_yes hjm))
        have hkp : j < pages.length := by rw [HN.out]; exact cj
        have BD := Aside0.mk AS.out.drew
        obtain ⟨hc', B, cB, hov, hlc⟩ := ov_at BD.out.at3.fx hkp
        have hpl : (pages[j]).length = 64 := by
          have h1 := HPG.out j cj
          rw [List.getD_eq_getElem?_getD, List.getElem?_eq_getElem hkp] at h1
          exact h1
        have HCX : Aside0 (∀ W', Sep w0 W' (Row KV 24 (.slice (some ⟨gp, 0, none⟩) N cp) cs :: Fx (EachV KP pages cs) :: Blk gx 87 #[.pointer (some ⟨gr, 0, none⟩), .int .i64 (a : Int), .int .i64 (N : Int), .int .u32 ep, .slice (some ⟨gp, 0, none⟩) N cp, .slice (some ⟨gn, 0, none⟩) N cn, .int .i64 (used : Int), .int .u32 (seq : Int)] :: Row BK 4 (.slice (some ⟨gn, 0, none⟩) N cn) (nmZ nm j) :: F) → (Kd.int .u8).C W' B (pages[j]).length pages[j]) := ⟨fun W' hW => ov_C hW.at2.fx hkp hc' hov⟩
        rw [hpl] at hov HCX
        have HOV : Aside0 (∃ hc : j < cs.length, (cs[j]).1 = .slice B 64 cB) := ⟨⟨hc', hov⟩⟩
        have HPD : Aside0 (pages[j] = pages.getD j []) := ⟨by rw [List.getD_eq_getElem?_getD, List.getElem?_eq_getElem hkp]; rfl⟩
        have HDS : Aside0 (homeD a pages (nmL nm (j + 1)) = homeD a pages (nmL nm j) ++ [some (2 + a + j, pages[j])]) := ⟨by rw [nmL_yes hb, homeD_snoc, HPD.out]⟩
        obtain ⟨x, hx⟩ : ∃ x, pages[j] = x := ⟨_, rfl⟩
        rw [hx] at HCX HDS
        clear HPD
        have HOK : Aside0 (OkD n (none :: homeD a pages (nmL nm j))) := ⟨pre_ok HR.out HPG.out (fun q hq => by have := nmL_lt hq; omega)⟩
        have HLE : Aside0 (d + (none :: homeD a pages (nmL nm j)).length ≤ 2000000) := ⟨by have h1 := nmL_len nm j; have h2 := HD.out; have h3 := HNU.out; rw [List.length_cons, homeD_len]; omega⟩
        have hHF : homeF (a : Int) (N : Int) (j : Int) = ((2 + a + j : Nat) : Int) := by
          have h3 := HNU.out
          unfold homeF
          rw [if_neg (by omega), IntWalk.wrap64_in (2 + (a : Int)) (by omega), IntWalk.wrap64_in _ (by omega)]
          omega
        have HHF := Aside0.mk hHF
        obtain ⟨pp, hpp⟩ : ∃ p, 2 + a + j = p := ⟨_, rfl⟩
        rw [hpp] at HHF HDS
        have HPN : Aside0 (pp < n) := ⟨by have := HNU.out; omega⟩
        clear hjk cj hov hlc hx hkp hpl hc' hHF hpp hb hjm
        go_wp2_with fail
        refine start_ (n := 18) (S := fun w' => w'.cell? ⟨gx, 0, none⟩ = some (.pointer (some ⟨gr, 0, none⟩)) ∧ w'.cell? ⟨gx, 1, none⟩ = some (.int .i64 (a : Int)) ∧ w'.cell? ⟨gx, 2, none⟩ = some (.int .i64 (N : Int)) ∧ w'.cell? ⟨gx, 3, none⟩ = some (.int .u32 ep) ∧ w'.cell? ⟨gx, 4, none⟩ = some (.slice (some ⟨gp, 0, none⟩) N cp) ∧ w'.cell? ⟨gp, j, none⟩ = some (.slice B 64 cB)) (ds := [17]) #[Z,Z,Z,Z,Z,Z,Z,Z,Z,Z,Z,Z,Z,Z,Z,Z,Z,Z] (by kernel_rfl) rfl rfl ⟨(BD.out.at4.cell 0).trans rfl, (BD.out.at4.cell 1).trans rfl, (BD.out.at4.cell 2).trans rfl, (BD.out.at4.cell 3).trans rfl, (BD.out.at4.cell 4).trans rfl, kv_cell BD.out.at2 (by omega) HOV.out.1 HOV.out.2⟩ (fun hHeld => ?_)
        refine pu_ 0 30 ?_ #[J,Z,Z,Z,Z,Z,Z,Z,Z,Z,Z,Z,Z,Z,Z,Z,Z,Z] rfl rfl ?_ ?_ ?_ ?_
        rotate_left
        · intro w'
          go_simp
          with_reducible rfl
        rotate_left
        · simp only [aP]
          rfl
        refine pu_ 1 31 ?_ #[J,J,Z,Z,Z,Z,Z,Z,Z,Z,Z,Z,Z,Z,Z,Z,Z,Z] rfl rfl ?_ ?_ ?_ ?_
        rotate_left
        · intro w'
          go_simp
          with_reducible rfl
        rotate_left
        · simp only [aP]
          rfl
        refine pu_ 2 32 ?_ #[J,J,J,Z,Z,Z,Z,Z,Z,Z,Z,Z,Z,Z,Z,Z,Z,Z] rfl rfl ?_ ?_ ?_ ?_
        rotate_left
        · intro w'
          go_simp
          with_reducible rfl
        rotate_left
        · simp only [aP]
          rfl
        refine pu_ 4 34 ?_ #[J,J,J,Z,J,Z,Z,Z,Z,Z,Z,Z,Z,Z,Z,Z,Z,Z] rfl rfl ?_ ?_ ?_ ?_
        rotate_left
        · intro w'
          go_simp
          with_reducible rfl
        rotate_left
        · simp only [aP]
          rfl
        refine pu_ 5 35 ?_ #[J,J,J,Z,J,J,Z,Z,Z,Z,Z,Z,Z,Z,Z,Z,Z,Z] rfl rfl ?_ ?_ ?_ ?_
        rotate_left
        · intro w'
          go_simp
          with_reducible rfl
        rotate_left
        · simp only [aP]
          rfl
        refine pu_ 6 36 ?_ #[J,J,J,Z,J,J,J,Z,Z,Z,Z,Z,Z,Z,Z,Z,Z,Z] rfl rfl ?_ ?_ ?_ ?_
        rotate_left
        · intro w'
          go_simp
          with_reducible rfl
        rotate_left
        · simp only [aP]
          rfl
        refine pu_ 8 38 ?_ #[J,J,J,Z,J,J,J,Z,J,Z,Z,Z,Z,Z,Z,Z,Z,Z] rfl rfl ?_ ?_ ?_ ?_
        rotate_left
        · intro w'
          go_simp
          with_reducible rfl
        rotate_left
        · simp only [aP]
          rfl
        refine pu_ 10 40 ?_ #[J,J,J,Z,J,J,J,Z,J,Z,J,Z,Z,Z,Z,Z,Z,Z] rfl rfl ?_ ?_ ?_ ?_
        rotate_left
        · intro w'
          go_simp
          with_reducible rfl
        rotate_left
        · simp only [aP]
          rfl
        refine pu_ 11 41 ?_ #[J,J,J,Z,J,J,J,Z,J,Z,J,J,Z,Z,Z,Z,Z,Z] rfl rfl ?_ ?_ ?_ ?_
        rotate_left
        · intro w'
          go_simp
          with_reducible rfl
        rotate_left
        · simp only [aP]
          rfl
        refine pu_ 12 42 ?_ #[J,J,J,Z,J,J,J,Z,J,Z,J,J,J,Z,Z,Z,Z,Z] rfl rfl ?_ ?_ ?_ ?_
        rotate_left
        · intro w'
          go_simp
          with_reducible rfl
        rotate_left
        · simp only [aP]
          rfl
        refine pu_ 14 44 ?_ #[J,J,J,Z,J,J,J,Z,J,Z,J,J,J,Z,J,Z,Z,Z] rfl rfl ?_ ?_ ?_ ?_
        rotate_left
        · intro w'
          go_simp
          with_reducible rfl
        rotate_left
        · simp only [aP]
          rfl
        refine ta_ 3 33 ?_ #[J,J,J,J,J,J,J,Z,J,Z,J,J,J,Z,J,Z,Z,Z] rfl rfl ?_ hHeld ?_ ?_ ?_
        rotate_left
        · rintro w' ⟨s0, s1, s2, s3, s4, s5⟩
          go_simp
          with_reducible rfl
        rotate_left
        · simp only [aP]
          rfl
        refine ta_ 7 37 ?_ #[J,J,J,J,J,J,J,J,J,Z,J,J,J,Z,J,Z,Z,Z] rfl rfl ?_ hHeld ?_ ?_ ?_
        rotate_left
        · rintro w' ⟨s0, s1, s2, s3, s4, s5⟩
          go_simp
          with_reducible rfl
        rotate_left
        · simp only [aP]
          rfl
        refine ta_ 13 43 ?_ #[J,J,J,J,J,J,J,J,J,Z,J,J,J,J,J,Z,Z,Z] rfl rfl ?_ hHeld ?_ ?_ ?_
        rotate_left
        · rintro w' ⟨s0, s1, s2, s3, s4, s5⟩
          go_simp
          with_reducible rfl
        rotate_left
        · simp only [aP]
          rfl
        refine pu_ 15 45 ?_ #[J,J,J,J,J,J,J,J,J,Z,J,J,J,J,J,J,Z,Z] rfl rfl ?_ ?_ ?_ ?_
        rotate_left
        · intro w'
          go_simp
          with_reducible rfl
        rotate_left
        · simp only [aP]
          rfl
        refine ta_ 16 46 ?_ #[J,J,J,J,J,J,J,J,J,Z,J,J,J,J,J,J,J,Z] rfl rfl ?_ hHeld ?_ ?_ ?_
        rotate_left
        · rintro w' ⟨s0, s1, s2, s3, s4, s5⟩
          go_simp
          with_reducible rfl
        rotate_left
        · simp only [aP]
          rfl
        refine one_ (i := 9) (N := some 39) #[J,J,J,J,J,J,J,J,J,J,J,J,J,J,J,J,J,Z] rfl rfl (by kernel_rfl) (by decide) (fun K hK => ?_)
        refine goes_ Tryz.func95 (by kernel_rfl) rfl #[.agg #[.int .i64 (a : Int), .int .i64 (N : Int), .int .u32 ep], .int .i64 (j : Int)] (by rfl) rfl rfl (by simp only [List.map_toArray, List.map_cons, List.map_nil]; rfl) ?_
        with_reducible refine (rhome_ (a : Int) (N : Int) ep (j : Int) _).mono ?_
        rintro e w6 ⟨rfl, hb6⟩
        refine ⟨_, rfl, ?_⟩
        rw [HHF.out]
        have B6 := Aside0.mk (BD.out.below hb6)
        clear hb6
        refine hK.out _ _ ⟨(B6.out.at4.cell 0).trans rfl, (B6.out.at4.cell 1).trans rfl, (B6.out.at4.cell 2).trans rfl, (B6.out.at4.cell 3).trans rfl, (B6.out.at4.cell 4).trans rfl, kv_cell B6.out.at2 (by omega) HOV.out.1 HOV.out.2⟩ (fun hHeld => ?_)
        clear hK K
        refine norm_ (a' := ?_) ?_ ?_
        rotate_left
        · show Act.put _ (some 39) _ = _
          simp only [aP]
          rfl
        refine last_ (i := 17) (N := some 47) #[J,J,J,J,J,J,J,J,J,J,J,J,J,J,J,J,J,J] rfl rfl (by kernel_rfl) (by decide) (fun K hK => ?_)
        refine goes_ Tryz.func79 (by kernel_rfl) rfl #[.pointer (some ⟨gr, 0, none⟩), .int .i64 (pp : Int), .slice B 64 cB] (by rfl) rfl rfl (by simp only [List.map_toArray, List.map_cons, List.map_nil]; rfl) ?_
        with_reducible refine (qwrite_ B6.out HS.out HOK.out HK.out HLE.out pp HPN.out HCX.out).mono ?_
        rintro e w7 ⟨rfl, hS7⟩
        refine ⟨_, rfl, ?_⟩
        have B7 := Aside0.mk hS7
        clear hS7
        refine hK.out _ _ ?_
        clear hK K
        refine norm_ (a' := ?_) ?_ ?_
        rotate_left
        · show Act.put _ (some 47) _ = _
          simp only [aP]
          rfl
        refine done_ (by kernel_rfl) ?_
        clear z5 f5
        have z5 := (B7.out.at4.cell 5).trans rfl
        obtain ⟨f5a, f5b⟩ := B7.out.at5.rowCell (enc := Value.bool) false j (by omega)
        have B8 := Aside0.mk (B7.out.at5.putRow (enc := Value.bool) j false)
        go_wp2_with fail
        go_roundg (gk - 1)
        case measure => have := AK.out; omega
        case rel => exact ⟨j + 1, by go_num, by have := AK.out; omega, by rw [HDS.out, ← HNL.out.2]; exact B8.out.to5⟩
    case neg =>
    obtain rfl : j = N := by omega
    have hjl : ¬ (j : Int) < (j : Int) := by omega
    have z0 := (AS.out.at4.cell 0).trans rfl
    obtain ⟨ds, hds⟩ : ∃ l, none :: homeD a pages (nmL nm j) = l := ⟨_, rfl⟩
    have HOK : Aside0 (OkD n ds) := ⟨by rw [← hds]; exact pre_ok HR.out HPG.out (fun q hq => nmL_lt hq)⟩
    have HLE : Aside0 (d + ds.length ≤ 1000100) := ⟨by have h1 := nmL_len nm j; have h2 := HD.out; have h3 := HNU.out; rw [← hds, List.length_cons, homeD_len]; omega⟩
    have HDS := Aside0.mk hds
    rw [hds, nmZ_all HNM.out] at AS
    clear hjk cj hds
    go_wp2_with fail
    refine (qflush_ AS.out HS.out HOK.out HK.out (by have := HLE.out; omega)).mono ?_
    rintro e w4 ⟨rfl, hS4⟩
    have B4 := Aside0.mk hS4.at4
    clear hS4 z0
    have z3 := (B4.out.cell 3).trans rfl
    have f3 := B4.out.frozen 3
    obtain ⟨E, hE⟩ : ∃ E, ep + 1 = E := ⟨_, rfl⟩
    have HE := Aside0.mk hE
    have HEB : Aside0 (0 ≤ E ∧ E ≤ 4294967295) := ⟨by have := HEP.out; have := HNU.out; omega⟩
    have B5 := Aside0.mk (B4.out.setBlk 3 (.int .u32 E))
    have hu1 : IntKind.u32.wrap (ep + 1) = E := by have := HEP.out; have := HNU.out; rw [IntKind.wrap_u32]; omega
    obtain ⟨jj, hjj⟩ := Int.eq_ofNat_of_zero_le (show 0 ≤ E % 2 by omega)
    have HJJ : Aside0 (((ep + 1) % 2).toNat = jj) := ⟨by rw [hE, hjj, Int.toNat_natCast]⟩
    have HJN : Aside0 (jj < n) := ⟨by have := HNU.out; omega⟩
    have hjt : E.tmod 2 = (jj : Int) := by rw [Int.tmod_eq_emod_of_nonneg HEB.out.1]; exact hjj
    have hjw : IntKind.i64.wrap (jj : Int) = (jj : Int) := by rw [IntKind.wrap_i64]; omega
    have hjw2 : IntKind.u32.wrap (jj : Int) = (jj : Int) := by rw [IntKind.wrap_u32]; omega
    clear hE hep3 hep2
    go_upto_region 13 with fail
    obtain ⟨w5, hw5⟩ : ∃ x, w4.setCell ⟨gx, 3, none⟩ (.int .u32 E) = x := ⟨_, rfl⟩
    rw [hw5] at B5 ⊢
    have B6 : Aside0 (Sep w0 w5.drew _) := ⟨B5.out.drew⟩
    clear hw5 B5 z3 f3 hu1
    refine start_ (n := 17) (S := fun w' => w'.cell? ⟨gx, 0, none⟩ = some (.pointer (some ⟨gr, 0, none⟩)) ∧ w'.cell? ⟨gx, 1, none⟩ = some (.int .i64 (a : Int)) ∧ w'.cell? ⟨gx, 2, none⟩ = some (.int .i64 (j : Int)) ∧ w'.cell? ⟨gx, 3, none⟩ = some (.int .u32 E)) (ds := [16]) #[Z,Z,Z,Z,Z,Z,Z,Z,Z,Z,Z,Z,Z,Z,Z,Z,Z] (by kernel_rfl) rfl rfl ⟨(B6.out.cell 0).trans rfl, (B6.out.cell 1).trans rfl, (B6.out.cell 2).trans rfl, (B6.out.cell 3).trans rfl⟩ (fun hHeld => ?_)
    refine pu_ 0 69 ?_ #[J,Z,Z,Z,Z,Z,Z,Z,Z,Z,Z,Z,Z,Z,Z,Z,Z] rfl rfl ?_ ?_ ?_ ?_
    rotate_left
    · intro w'
      go_simp
      with_reducible rfl
    rotate_left
    · simp only [aP]
      rfl
    refine pu_ 1 70 ?_ #[J,J,Z,Z,Z,Z,Z,Z,Z,Z,Z,Z,Z,Z,Z,Z,Z] rfl rfl ?_ ?_ ?_ ?_
    rotate_left
    · intro w'
      go_simp
      with_reducible rfl
    rotate_left
    · simp only [aP]
      rfl
    refine pu_ 2 71 ?_ #[J,J,J,Z,Z,Z,Z,Z,Z,Z,Z,Z,Z,Z,Z,Z,Z] rfl rfl ?_ ?_ ?_ ?_
    rotate_left
    · intro w'
      go_simp
      with_reducible rfl
    rotate_left
    · simp only [aP]
      rfl
    refine pu_ 4 73 ?_ #[J,J,J,Z,J,Z,Z,Z,Z,Z,Z,Z,Z,Z,Z,Z,Z] rfl rfl ?_ ?_ ?_ ?_
    rotate_left
    · intro w'
      go_simp
      with_reducible rfl
    rotate_left
    · simp only [aP]
      rfl
    refine pu_ 5 74 ?_ #[J,J,J,Z,J,J,Z,Z,Z,Z,Z,Z,Z,Z,Z,Z,Z] rfl rfl ?_ ?_ ?_ ?_
    rotate_left
    · intro w'
      go_simp
      with_reducible rfl
    rotate_left
    · simp only [aP]
      rfl
    refine pu_ 6 75 ?_ #[J,J,J,Z,J,J,J,Z,Z,Z,Z,Z,Z,Z,Z,Z,Z] rfl rfl ?_ ?_ ?_ ?_
    rotate_left
    · intro w'
      go_simp
      with_reducible rfl
    rotate_left
    · simp only [aP]
      rfl
    refine pu_ 7 76 ?_ #[J,J,J,Z,J,J,J,J,Z,Z,Z,Z,Z,Z,Z,Z,Z] rfl rfl ?_ ?_ ?_ ?_
    rotate_left
    · intro w'
      go_simp
      with_reducible rfl
    rotate_left
    · simp only [aP]
      rfl
    refine pu_ 11 80 ?_ #[J,J,J,Z,J,J,J,J,Z,Z,Z,J,Z,Z,Z,Z,Z] rfl rfl ?_ ?_ ?_ ?_
    rotate_left
    · intro w'
      go_simp
      with_reducible rfl
    rotate_left
    · simp only [aP]
      rfl
    refine pu_ 12 81 ?_ #[J,J,J,Z,J,J,J,J,Z,Z,Z,J,J,Z,Z,Z,Z] rfl rfl ?_ ?_ ?_ ?_
    rotate_left
    · intro w'
      go_simp
      with_reducible rfl
    rotate_left
    · simp only [aP]
      rfl
    refine pu_ 13 82 ?_ #[J,J,J,Z,J,J,J,J,Z,Z,Z,J,J,J,Z,Z,Z] rfl rfl ?_ ?_ ?_ ?_
    rotate_left
    · intro w'
      go_simp
      with_reducible rfl
    rotate_left
    · simp only [aP]
      rfl
    refine ta_ 3 72 ?_ #[J,J,J,J,J,J,J,J,Z,Z,Z,J,J,J,Z,Z,Z] rfl rfl ?_ hHeld ?_ ?_ ?_
    rotate_left
    · rintro w' ⟨s0, s1, s2, s3⟩
      go_simp
      with_reducible rfl
    rotate_left
    · simp only [aP]
      rfl
    refine ta_ 8 77 ?_ #[J,J,J,J,J,J,J,J,J,Z,Z,J,J,J,Z,Z,Z] rfl rfl ?_ hHeld ?_ ?_ ?_
    rotate_left
    · rintro w' ⟨s0, s1, s2, s3⟩
      go_simp
      with_reducible rfl
    rotate_left
    · simp only [aP]
      rfl
    refine pu_ 9 78 ?_ #[J,J,J,J,J,J,J,J,J,J,Z,J,J,J,Z,Z,Z] rfl rfl ?_ ?_ ?_ ?_
    rotate_left
    · intro w'
      go_simp
      with_reducible rfl
    rotate_left
    · simp only [aP]
      rfl
    refine pu_ 10 79 ?_ #[J,J,J,J,J,J,J,J,J,J,J,J,J,J,Z,Z,Z] rfl rfl ?_ ?_ ?_ ?_
    rotate_left
    · intro w'
      go_simp
      with_reducible rfl
    rotate_left
    · simp only [aP]
      rfl
    refine ta_ 14 83 ?_ #[J,J,J,J,J,J,J,J,J,J,J,J,J,J,J,Z,Z] rfl rfl ?_ hHeld ?_ ?_ ?_
    rotate_left
    · rintro w' ⟨s0, s1, s2, s3⟩
      go_simp
      with_reducible rfl
    rotate_left
    · simp only [aP]
      rfl
    refine one_ (i := 15) (N := some 84) #[J,J,J,J,J,J,J,J,J,J,J,J,J,J,J,J,Z] rfl rfl (by kernel_rfl) (by decide) (fun K hK => ?_)
    refine goes_ Tryz.func45 (by kernel_rfl) rfl #[.agg #[.int .i64 (a : Int), .int .i64 (j : Int), .int .u32 E]] (by rfl) rfl rfl (by simp only [List.map_toArray, List.map_cons, List.map_nil]; rfl) ?_
    with_reducible refine (rroot_ (a : Int) (j : Int) E HEB.out _).mono ?_
    rintro e w6 ⟨v6, rfl, hS6⟩
    refine ⟨_, rfl, ?_⟩
    obtain ⟨R6, hR6⟩ : ∃ R, rootF (m32 (a : Int)) (m32 (j : Int)) E = R := ⟨_, rfl⟩
    have HR6 := Aside0.mk hR6
    have HR6L : Aside0 (R6.length = 64) := ⟨by rw [← hR6]; exact rootF_len _ _ _⟩
    rw [hR6] at hS6
    obtain ⟨A6, c6, rfl⟩ := hS6.rowN HR6L.out
    have B7 := Aside0.mk (B6.out.lift1 hS6)
    clear hS6 hR6
    refine hK.out _ _ ⟨(B7.out.at2.cell 0).trans rfl, (B7.out.at2.cell 1).trans rfl, (B7.out.at2.cell 2).trans rfl, (B7.out.at2.cell 3).trans rfl⟩ (fun hHeld => ?_)
    clear hK K
    refine norm_ (a' := ?_) ?_ ?_
    rotate_left
    · show Act.put _ (some 84) _ = _
      simp only [aP]
      rfl
    refine last_ (i := 16) (N := some 85) #[J,J,J,J,J,J,J,J,J,J,J,J,J,J,J,J,J] rfl rfl (by kernel_rfl) (by decide) (fun K hK => ?_)
    refine goes_ Tryz.func79 (by kernel_rfl) rfl #[.pointer (some ⟨gr, 0, none⟩), .int .i64 (jj : Int), .slice A6 64 c6] (by rfl) rfl rfl (by simp only [List.map_toArray, List.map_cons, List.map_nil]; rfl) ?_
    with_reducible refine (qwrite_ (b := R6) B7.out.at3 HS.out HOK.out.flush HK.out (by have := HLE.out; rw [List.length_append, List.length_singleton]; omega) jj HJN.out (fun W' hW => hW.rowC')).mono ?_
    rintro e w7 ⟨rfl, hS7⟩
    refine ⟨_, rfl, ?_⟩
    have B8 := Aside0.mk hS7
    clear hS7
    refine hK.out _ _ ?_
    clear hK K
    refine norm_ (a' := ?_) ?_ ?_
    rotate_left
    · show Act.put _ (some 85) _ = _
      simp only [aP]
      rfl
    refine done_ (by kernel_rfl) ?_
    have z0 := (B8.out.at3.cell 0).trans rfl
    clear hjt hjw hjw2
    go_wp2_with fail
    refine (qflush_ B8.out HS.out (HOK.out.flush.write HJN.out HR6L.out) HK.out (by have := HLE.out; rw [List.length_append, List.length_append, List.length_singleton, List.length_singleton]; omega)).mono ?_
    rintro e w8 ⟨rfl, hS8⟩
    have HDD : Aside0 (((ds ++ [none]) ++ [some (jj, R6)]) ++ [none] = chkD a j ep pages (nmL nm j)) := ⟨by
      unfold chkD rootD
      rw [← HDS.out, HJJ.out, HE.out, HR6.out]
      simp⟩
    rw [HDD.out] at hS8
    have B10 := Aside0.mk hS8.at3
    clear hS8 z0
    have z6 := (B10.out.cell 6).trans rfl
    have f6 := B10.out.frozen 6
    have B11 := Aside0.mk (B10.out.setBlk 6 (.int .i64 0))
    have z7 := (B11.out.cell 7).trans rfl
    have f7 := B11.out.frozen 7
    have B12 := Aside0.mk (B11.out.setBlk 7 (.int .u32 0))
    go_wp2_with fail
    go_ret
    refine ⟨by first | rfl | (simp; done), ?_⟩
    rw [HE.out]
    have h3 := Sep.pull [_, _, _, _] (Sep.pull [_, _, _, _] B12.out)
    have h5 := Sep.pull [_, _, _, _] (Sep.rowV_shut h3)
    have h7 := rstb_shut (by rw [List.length_replicate, HN.out]; have := HNU.out; exact ⟨rfl, by omega, by omega⟩) h5.turn3
    exact h7.at3.tail
end
end Go.Proofs.YtjngnigelkgekaaGreat.RStore
namespace Go.Proofs.YtjngnigelkgekaaGreat.Store
open Go.RowKit Go.Proofs.YtjngnigelkgekaaGreatW.PrintWords Go.Proofs.YtjngnigelkgekaaGreatW.PrintLast Go.Proofs.YtjngnigelkgekaaGreatW.PrintMore Go.Proofs.YtjngnigelkgekaaGreat.Kit Go.Proofs.YtjngnigelkgekaaGreat.Plain Go.Proofs.YtjngnigelkgekaaGreat.Disk Go.Proofs.YtjngnigelkgekaaGreat.Root
open Go.Proofs.YtjngnigelkgekaaGreat.Delta (Chg KC deltaF rightF okF undeltaF)
open Go.Proofs.YtjngnigelkgekaaGreat.Redo (recR logF logF_bytes)
open Go.Proofs.YtjngnigelkgekaaGreat.Home (pagesF pageF putP mayF atF may_in)
open Go.Proofs.YtjngnigelkgekaaGreat.Frame (frameF frameF_len readF scanF scanR ScanAt scan_start scan_none scan_some recsF longs longs_app recs_bytes scan_facts recs_len longs_len)
theorem insK_keep {ks : List Int} {k x : Int} (h : x ∈ ks) : x ∈ insK ks k := by
  unfold insK
  split
  · exact h
  · exact List.mem_append_left _ h
theorem insK_new (ks : List Int) (k : Int) : k ∈ insK ks k := by
  unfold insK
  split
  · assumption
  · exact List.mem_append_right _ (List.mem_singleton.2 rfl)
theorem insAll_keep {x : Int} : ∀ (l : List Chg) {ks : List Int}, x ∈ ks → x ∈ insAll ks l
  | [], _, h => h
  | c :: r, ks, h => insAll_keep r (ks := insK ks c.1) (insK_keep h)
theorem insAll_new : ∀ (l : List Chg) {ks : List Int} {c : Chg}, c ∈ l → c.1 ∈ insAll ks l
  | d :: r, ks, c, h => by
    rcases List.mem_cons.1 h with rfl | h
    · exact insAll_keep r (insK_new ks c.1)
    · exact insAll_new r h
theorem nmAll_keep {x : Int} : ∀ (rows : List (List Chg)) {ks : List Int}, x ∈ ks → x ∈ nmAll ks rows
  | [], _, h => h
  | l :: r, ks, h => nmAll_keep r (ks := insAll ks l) (insAll_keep l h)
theorem nmAll_new : ∀ (rows : List (List Chg)) {ks : List Int} {l : List Chg} {c : Chg}, l ∈ rows → c ∈ l → c.1 ∈ nmAll ks rows
  | d :: r, ks, l, c, h, hc => by
    rcases List.mem_cons.1 h with rfl | h
    · exact nmAll_keep r (insAll_new l hc)
    · exact nmAll_new r h hc
theorem insList_all {x : Int} : ∀ (l : List Int) {ks : List Int}, x ∈ l ∨ x ∈ ks → x ∈ insList ks l
  | [], ks, h => by
    rcases h with h | h
    · cases h
    · exact h
  | k :: t, ks, h => insList_all t (ks := insK ks k) (by
      rcases h with h | h
      · rcases List.mem_cons.1 h with rfl | h
        · exact .inr (insK_new _ _)
        · exact .inl h
      · exact .inr (insK_keep h))
def openN (rows : List (List Chg)) : List Int := insList [] (sortK (nmAll [] rows))
theorem openN_mem {rows : List (List Chg)} {x : Int} : x ∈ openN rows ↔ x ∈ nmAll [] rows := by
  unfold openN
  constructor
  · intro h
    rcases insList_mem _ h with h | h
    · cases h
    · exact (sortK_perm _).mem_iff.2 h
  · intro h
    exact insList_all _ (.inl ((sortK_perm _).mem_iff.1 h))
theorem applyOne_out {ps : List (List Int)} {c : Chg} {k : Nat} (h : c.1 ≠ (k : Int)) : (applyOne ps c)[k]? = ps[k]? := by
  unfold applyOne
  split
  · rename_i h2
    rw [List.getElem?_set_ne (by omega)]
  · rfl
theorem applyF_out {k : Nat} : ∀ (l : List Chg) {ps : List (List Int)}, (∀ c ∈ l, c.1 ≠ (k : Int)) → (applyF ps l)[k]? = ps[k]?
  | [], _, _ => rfl
  | c :: r, ps, h => by
    show (applyF (applyOne ps c) r)[k]? = _
    rw [applyF_out r (fun x hx => h x (List.mem_cons_of_mem _ hx)), applyOne_out (h c (List.mem_cons_self ..))]
theorem pgAll_out {k : Nat} : ∀ (rows : List (List Chg)) {ps : List (List Int)}, (∀ l ∈ rows, ∀ c ∈ l, c.1 ≠ (k : Int)) → (pgAll ps rows)[k]? = ps[k]?
  | [], _, _ => rfl
  | l :: r, ps, h => by
    show (pgAll (applyF ps l) r)[k]? = _
    rw [pgAll_out r (fun x hx => h x (List.mem_cons_of_mem _ hx)), applyF_out l (h l (List.mem_cons_self ..))]
theorem applyOne_all {Q : List Int → Prop} {ps : List (List Int)} {c : Chg} (h : ∀ p ∈ ps, Q p) (hc : Q c.2) : ∀ p ∈ applyOne ps c, Q p := by
  unfold applyOne
  split
  · intro p hp
    rcases List.mem_or_eq_of_mem_set hp with h1 | rfl
    · exact h p h1
    · exact hc
  · exact h
theorem applyF_all {Q : List Int → Prop} : ∀ {l : List Chg} {ps : List (List Int)}, (∀ p ∈ ps, Q p) → (∀ c ∈ l, Q c.2) → ∀ p ∈ applyF ps l, Q p
  | [], _, h, _ => h
  | c :: r, _, h, hl => applyF_all (l := r) (applyOne_all h (hl c (List.mem_cons_self ..))) (fun x hx => hl x (List.mem_cons_of_mem _ hx))
theorem pgAll_all {Q : List Int → Prop} : ∀ {rows : List (List Chg)} {ps : List (List Int)}, (∀ p ∈ ps, Q p) → (∀ x ∈ rows, ∀ c ∈ x, Q c.2) → ∀ p ∈ pgAll ps rows, Q p
  | [], _, h, _ => h
  | x :: r, _, h, hl => pgAll_all (rows := r) (applyF_all h (hl x (List.mem_cons_self ..))) (fun y hy => hl y (List.mem_cons_of_mem _ hy))
abbrev rowsF (n a b : Nat) (E : Int) (L : List Int) : List (List Chg) := (recR n L noW (a : Int) (b : Int) E).1
abbrev shownF (n a b : Nat) (E : Int) (L : List Int) : List (List Int) := pgAll (pagesF n L noW (a : Int) (b : Int) E) (rowsF n a b E L)
theorem Lay.logB {n a b : Nat} {E : Int} {L : List Int} (h : Lay n a b E L) : Bytes (logF n L noW (a : Int) (b : Int) E) ∧ (logF n L noW (a : Int) (b : Int) E).length = 64 * a := by
  have hr := h.rgt
  have hl := h.len
  rw [h.log]
  exact ⟨Redo.secs_bytes (fun i _ => sec_bytes h.byt _), secs_len (fun i hi => sec_len (by omega))⟩
theorem Lay.rows {n a b : Nat} {E : Int} {L : List Int} (h : Lay n a b E L) : (rowsF n a b E L).length ≤ 1000 ∧ ∀ x ∈ rowsF n a b E L, x.length ≤ 64 ∧ ∀ c ∈ x, 0 ≤ c.1 ∧ c.1 < (b : Int) ∧ c.2.length = 64 ∧ Bytes c.2 := by
  have hr := h.rgt
  obtain ⟨hb, hl⟩ := h.logB
  obtain ⟨h1, h2, h3⟩ := scan_facts hb E
  refine ⟨?_, fun x hx => ?_⟩
  · have h4 := (recs_len (b : Int) (scanR (logF n L noW (a : Int) (b : Int) E) E).1).1
    have h5 := longs_len (scanR (logF n L noW (a : Int) (b : Int) E) E).1
    show (recsF (b : Int) (scanR (logF n L noW (a : Int) (b : Int) E) E).1).1.length ≤ 1000
    omega
  · have h4 := recs_right (b : Int) _ x hx
    have h5 := right_in h4
    have h6 := recs_bytes (b : Int) _ h1 x hx
    exact ⟨(right_len h4).2, fun c hc => ⟨(h5.2 c hc).1, (h5.2 c hc).2.1, (h5.2 c hc).2.2, h6 c hc⟩⟩
theorem Lay.shown {n a b : Nat} {E : Int} {L : List Int} (h : Lay n a b E L) : (shownF n a b E L).length = b ∧ ∀ p ∈ shownF n a b E L, p.length = 64 ∧ Bytes p := by
  have hr := h.rgt
  have hl := h.len
  refine ⟨by unfold shownF; rw [pgAll_len, h.pages, List.length_map, List.length_range], ?_⟩
  refine pgAll_all (Q := fun p => p.length = 64 ∧ Bytes p) (fun p hp => ?_) (fun x hx c hc => ((h.rows.2 x hx).2 c hc).2.2)
  rw [h.pages] at hp
  obtain ⟨i, hi, rfl⟩ := List.mem_map.1 hp
  have hi := List.mem_range.1 hi
  exact ⟨sec_len (by omega), sec_bytes h.byt _⟩
abbrev openL (n a b : Nat) (E : Int) (L : List Int) : List Int := chkL n L noW (a : Int) (b : Int) E (shownF n a b E L) (openN (rowsF n a b E L))
theorem Lay.opened {n a b : Nat} {E : Int} {L : List Int} (h : Lay n a b E L) (hE : E < 4294967295) : Lay n a b (E + 1) (openL n a b E L) ∧ pagesF n (openL n a b E L) noW (a : Int) (b : Int) (E + 1) = shownF n a b E L ∧ logF n (openL n a b E L) noW (a : Int) (b : Int) (E + 1) = logF n L noW (a : Int) (b : Int) E := by
  have hs := h.shown
  obtain ⟨h1, h2, h3⟩ := h.chk hE hs.1 hs.2 (named := openN (rowsF n a b E L)) (fun k hk => by
      refine nmAll_mem (P := fun k => 0 ≤ k ∧ k < (b : Int)) (fun k hk => by cases hk) (fun x hx c hc => ?_) k (openN_mem.1 hk)
      have := (h.rows.2 x hx).2 c hc
      exact ⟨this.1, this.2.1⟩) (fun k hk hn => by
      have hn2 : ∀ l ∈ rowsF n a b E L, ∀ c ∈ l, c.1 ≠ (k : Int) := fun l hl c hc he => hn (openN_mem.2 (he ▸ nmAll_new _ hl hc))
      rw [List.getD_eq_getElem?_getD, pgAll_out _ hn2, h.pages, List.getElem?_map, List.getElem?_range hk]
      rfl)
  refine ⟨h1, ?_, ?_⟩
  · rw [h1.pages]
    apply List.ext_getElem (by rw [List.length_map, List.length_range, hs.1])
    intro k hk1 hk2
    rw [hs.1] at hk2
    rw [List.getElem_map, List.getElem_range, h2 k hk2, List.getD_eq_getElem?_getD, List.getElem?_eq_getElem (by rw [hs.1]; exact hk2)]
    rfl
  · rw [h1.log, h.log]
    exact secs_congr (fun i hi => h3 i hi)
end Go.Proofs.YtjngnigelkgekaaGreat.Store
namespace Go.Proofs.YtjngnigelkgekaaGreat.Store
open Go.RowKit Go.Proofs.YtjngnigelkgekaaGreatW.PrintWords Go.Proofs.YtjngnigelkgekaaGreatW.PrintLast Go.Proofs.YtjngnigelkgekaaGreatW.PrintMore Go.Proofs.YtjngnigelkgekaaGreat.Kit Go.Proofs.YtjngnigelkgekaaGreat.Plain Go.Proofs.YtjngnigelkgekaaGreat.Disk Go.Proofs.YtjngnigelkgekaaGreat.Root
open Go.Proofs.YtjngnigelkgekaaGreat.Delta (Chg KC deltaF rightF okF undeltaF)
open Go.Proofs.YtjngnigelkgekaaGreat.Redo (recR logF logF_bytes appR okA appW appW_flushed over_over sec_over_out logF_of)
open Go.Proofs.YtjngnigelkgekaaGreat.Home (pagesF pageF putP mayF atF may_in)
open Go.Proofs.YtjngnigelkgekaaGreat.Frame (frameF frameF_len readF scanF scanR ScanAt scan_start scan_none scan_some recsF longs longs_app recs_bytes scan_facts recs_len longs_len)
theorem putsW_at {n s : Nat} {z : List Int} (hz : z.length = 64) : ∀ (k : Nat) (wt : Wt), s + k ≤ n → ∀ i, putsW n s z k wt i = if s ≤ i ∧ i < s + k then some z else wt i
  | 0, wt, _, i => by rw [if_neg (by omega)]; rfl
  | k + 1, wt, h, i => by
    show putW n (putsW n s z k wt) (s + k) z i = _
    unfold putW
    rw [if_pos ⟨by omega, hz⟩, putsW_at hz k wt (by omega) i]
    by_cases h1 : i = s + k
    · rw [if_pos h1, if_pos (by omega)]
    · rw [if_neg h1]
      by_cases h2 : s ≤ i ∧ i < s + k
      · rw [if_pos h2, if_pos (by omega)]
      · rw [if_neg h2, if_neg (by omega)]
theorem putsW_bytes {n s : Nat} {z : List Int} (hz : Bytes z) : ∀ (k : Nat) {wt : Wt}, (∀ i b, wt i = some b → Bytes b) → ∀ i b, putsW n s z k wt i = some b → Bytes b
  | 0, _, h => h
  | k + 1, _, h => putW_bytes (putsW_bytes hz k h) hz
theorem unroot_zeros : unrootF zz64 = none := by decide +kernel
theorem lay_fmt {n a b : Nat} {las : List Int} {wt : Wt} (hl : las.length = 64 * n) (hb : Bytes las) (hw : ∀ i b, wt i = some b → b.length = 64) (hwb : ∀ i b, wt i = some b → Bytes b) (hr : rightR (a : Int) (b : Int) 1 n = true) :
    Lay n a b 1 (fmtL n las wt a b) ∧ (∀ i, i < a + b → sec (fmtL n las wt a b) (2 + i) = zz64) := by
  have hr' := of_decide_eq_true hr
  have hz : zz64.length = 64 := List.length_replicate
  have hzb : Bytes zz64 := zeros_bytes 64
  have w1 := putsW_len (n := n) (s := 0) (z := zz64) hw 2
  have w2 := putsW_len (n := n) (s := 2) (z := zz64) Ref.none_len (a + b)
  have b1 := putsW_bytes (n := n) (s := 0) hzb 2 hwb
  have b2 := putsW_bytes (n := n) (s := 2) hzb (a + b) no_bytes
  have e1 := putsW_at (n := n) (s := 0) hz 2 wt (by omega)
  have e2 := putsW_at (n := n) (s := 2) hz (a + b) noW (by omega)
  obtain ⟨L1, hL1⟩ : ∃ L, flushed las (putsW n 0 zz64 2 wt) = L := ⟨_, rfl⟩
  have l1 : L1.length = 64 * n := by rw [← hL1]; exact Ref.flushed_len hl w1
  have c1 : Bytes L1 := by rw [← hL1]; exact Redo.flushed_bytes hb b1
  have s1 : ∀ i, i < 2 → sec L1 i = zz64 := fun i hi => by
    rw [← hL1, Ref.sec_flushed hl w1 (by omega), e1, if_pos (by omega)]; rfl
  obtain ⟨L2, hL2⟩ : ∃ L, flushed L1 (putsW n 2 zz64 (a + b) noW) = L := ⟨_, rfl⟩
  have l2 : L2.length = 64 * n := by rw [← hL2]; exact Ref.flushed_len l1 w2
  have c2 : Bytes L2 := by rw [← hL2]; exact Redo.flushed_bytes c1 b2
  have s2 : ∀ i, i < 2 + a + b → sec L2 i = zz64 := fun i hi => by
    rw [← hL2, Ref.sec_flushed l1 w2 (by omega), e2]
    by_cases h : i < 2
    · rw [if_neg (by omega)]
      exact s1 i h
    · rw [if_pos (by omega)]; rfl
  have hrl := rootF_len (a : Int) (b : Int) 1
  have hw3 : putW n noW 1 (rootF (a : Int) (b : Int) 1) = fun j => if j = 1 then some (rootF (a : Int) (b : Int) 1) else noW j := by
    unfold putW
    rw [if_pos ⟨by omega, hrl⟩]
  have hF : fmtL n las wt a b = flushed L2 (putW n noW 1 (rootF (a : Int) (b : Int) 1)) := by
    unfold fmtL
    rw [m32_nat (by omega), m32_nat (by omega), hL1, hL2]
  have s3 : ∀ i, i < n → sec (flushed L2 (putW n noW 1 (rootF (a : Int) (b : Int) 1))) i = if i = 1 then rootF (a : Int) (b : Int) 1 else sec L2 i := fun i hi => by
    rw [Ref.sec_flushed l2 (putW_len Ref.none_len) hi, hw3]
    dsimp only
    split <;> rfl
  rw [hF]
  refine ⟨⟨Ref.flushed_len l2 (putW_len Ref.none_len), Redo.flushed_bytes c2 (putW_bytes no_bytes (rootF_bytes _ _ _)), by omega, ?_, ?_⟩, fun i hi => ?_⟩
  · show sec _ 1 = _
    rw [s3 1 (by omega), if_pos rfl]
  · show ∀ r, unrootF (sec _ 0) = some r → _
    rw [s3 0 (by omega), if_neg (by decide), s2 0 (by omega), unroot_zeros]
    intro r h
    cases h
  · rw [s3 _ (by omega), if_neg (by omega), s2 _ (by omega)]
theorem secs_zeros (a : Nat) : secs a (fun _ => zz64) = List.replicate (64 * a) 0 := by
  induction a with
  | zero => rfl
  | succ a ih => rw [secs_succ, ih, List.replicate_append_replicate, Nat.mul_succ]
structure Com (n a b : Nat) (E : Int) (p0 : List (List Int)) (ls : List (List Chg)) (G : List Int) : Prop where
  lay : Lay n a b E G
  pgs : pagesF n G noW (a : Int) (b : Int) E = p0
  log : logF n G noW (a : Int) (b : Int) E = framesF E (ls.map deltaF) ++ List.replicate (64 * a - longs (ls.map deltaF)) 0
  fit : longs (ls.map deltaF) ≤ 64 * a
  rgt : ∀ l ∈ ls, rightF l (b : Int) = true ∧ Bytes (deltaF l)
theorem Com.start {n a b : Nat} {las : List Int} {wt : Wt} (hl : las.length = 64 * n) (hb : Bytes las) (hw : ∀ i b, wt i = some b → b.length = 64) (hwb : ∀ i b, wt i = some b → Bytes b) (hr : rightR (a : Int) (b : Int) 1 n = true) :
    Com n a b 1 (List.replicate b zz64) [] (fmtL n las wt a b) := by
  obtain ⟨h1, h2⟩ := lay_fmt hl hb hw hwb hr
  have hr' := h1.rgt
  refine ⟨h1, ?_, ?_, Nat.zero_le _, fun l hl => by cases hl⟩
  · rw [h1.pages]
    apply List.ext_getElem (by simp)
    intro k k1 k2
    rw [List.length_replicate] at k2
    rw [List.getElem_map, List.getElem_range, List.getElem_replicate, Nat.add_assoc, h2 (a + k) (by omega)]
  · rw [h1.log]
    show _ = List.replicate (64 * a - 0) 0
    rw [Nat.sub_zero, ← secs_zeros]
    exact secs_congr (fun i hi => h2 i (by omega))
section
variable {n a b : Nat} {E : Int} {p0 : List (List Int)} {ls : List (List Chg)} {G las : List Int} {wt : Wt}
theorem Com.small (h : Com n a b E p0 ls G) : ls.length ≤ 4096 := by
  have h1 := longs_len (ls.map deltaF)
  rw [List.length_map] at h1
  have h2 := h.fit
  have h3 := h.lay.rgt
  omega
theorem Com.rows (h : Com n a b E p0 ls G) : rowsF n a b E G = ls := by
  have hr := h.lay.rgt
  have hs := h.small
  show (recsF (b : Int) (scanR (logF n G noW (a : Int) (b : Int) E) E).1).1 = ls
  rw [h.log, scan_framed (by omega) (fun x hx => ?_) (zeros_bytes _) (fun x hx => ?_) (by rw [List.length_map]; omega) (read_other (by rw [getF_zeros]; omega))]
  · exact recs_deltas ls (fun l hl => (h.rgt l hl).1)
  · obtain ⟨l, hl, rfl⟩ := List.mem_map.1 hx
    exact (h.rgt l hl).2
  · obtain ⟨l, hl, rfl⟩ := List.mem_map.1 hx
    have h1 := right_len (h.rgt l hl).1
    omega
end
end Go.Proofs.YtjngnigelkgekaaGreat.Store
namespace Go.Proofs.YtjngnigelkgekaaGreat.Store
open Go.RowKit Go.Proofs.YtjngnigelkgekaaGreatW.PrintWords Go.Proofs.YtjngnigelkgekaaGreatW.PrintLast Go.Proofs.YtjngnigelkgekaaGreatW.PrintMore Go.Proofs.YtjngnigelkgekaaGreat.Kit Go.Proofs.YtjngnigelkgekaaGreat.Plain Go.Proofs.YtjngnigelkgekaaGreat.Disk Go.Proofs.YtjngnigelkgekaaGreat.Root
open Go.Proofs.YtjngnigelkgekaaGreat.Delta (Chg KC deltaF rightF okF undeltaF)
open Go.Proofs.YtjngnigelkgekaaGreat.Redo (recR logF logF_bytes appR okA appW appW_flushed over_over sec_over_out logF_of)
open Go.Proofs.YtjngnigelkgekaaGreat.Home (pagesF pageF putP mayF atF may_in)
open Go.Proofs.YtjngnigelkgekaaGreat.Frame (frameF frameF_len readF scanF scanR ScanAt scan_start scan_none scan_some recsF longs longs_app recs_bytes scan_facts recs_len longs_len)
section
variable {n a b k : Nat} {E : Int} {p0 : List (List Int)} {ls : List (List Chg)} {G las : List Int} {wt : Wt} {cuts : List Int}
theorem crash_mix (hl : las.length = 64 * n) (hw : ∀ i b, wt i = some b → b.length = 64) (p : Nat) : (crashed las wt cuts)[p]? = las[p]? ∨ (crashed las wt cuts)[p]? = (flushed las wt)[p]? := by
  unfold crashed flushed
  rw [show las.length / 64 = n by omega, secs_get (cutS_len hl hw), secs_get (fun i hi => Ref.got_len hl hw hi)]
  by_cases hp : p < 64 * n
  · rw [if_pos hp, if_pos hp]
    have hL : las[p]? = (sec las (p / 64))[p % 64]? := by rw [sec_get _ _ _ (by omega), show 64 * (p / 64) + p % 64 = p by omega]
    rw [hL]
    unfold cutS
    cases hwt : wt (p / 64) with
    | none => exact .inl rfl
    | some x =>
      have hx := hw _ _ hwt
      have hs : (sec las (p / 64)).length = 64 := sec_len (by omega)
      have hc := cutN_le cuts (rank wt (p / 64))
      dsimp only
      by_cases h : p % 64 < cutN cuts (rank wt (p / 64))
      · right
        rw [List.getElem?_append_left (by rw [List.length_take]; omega), List.getElem?_take, if_pos h]
        rfl
      · left
        rw [List.getElem?_append_right (by rw [List.length_take]; omega), List.length_take, List.getElem?_drop]
        congr 1
        omega
  · rw [if_neg hp]
    left
    rw [List.getElem?_eq_none (by omega)]
theorem crash_len (hl : las.length = 64 * n) (hw : ∀ i b, wt i = some b → b.length = 64) : (crashed las wt cuts).length = 64 * n := by
  unfold crashed
  rw [show las.length / 64 = n by omega]
  exact secs_len (cutS_len hl hw)
theorem crash_bytes (hl : las.length = 64 * n) (hw : ∀ i b, wt i = some b → b.length = 64) (h1 : Bytes las) (h2 : Bytes (flushed las wt)) : Bytes (crashed las wt cuts) := fun x hx => by
  obtain ⟨p, hp, rfl⟩ := List.getElem_of_mem hx
  have h3 := List.getElem?_eq_getElem hp
  rcases crash_mix (cuts := cuts) hl hw p with h | h
  · exact h1 _ (List.mem_of_getElem? (h ▸ h3))
  · exact h2 _ (List.mem_of_getElem? (h ▸ h3))
theorem crash_sec (hl : las.length = 64 * n) (hw : ∀ i b, wt i = some b → b.length = 64) {i : Nat} (hi : i < n) (h : wt i = none) : sec (crashed las wt cuts) i = sec las i := by
  unfold crashed
  rw [show las.length / 64 = n by omega, sec_secs (cutS_len hl hw) hi]
  unfold cutS
  rw [h]
def Off (a : Nat) (wt : Wt) : Prop := ∀ j, (j < 2 ∨ 2 + a ≤ j) → wt j = none
theorem off_none (a : Nat) : Off a noW := fun j _ => rfl
theorem Off.app {at_ : Int} {x : List Int} {c : Int} (h : Off a wt) : Off a (appR n las wt (a : Int) (b : Int) c at_ x) := fun j hj => by
  unfold appR
  split
  · rename_i hok
    have h1 := Redo.ok_in hok
    unfold appW
    rw [if_neg]
    · exact h j hj
    · rintro ⟨-, h2, h3⟩
      omega
  · exact h j hj
end
end Go.Proofs.YtjngnigelkgekaaGreat.Store
namespace Go.Proofs.YtjngnigelkgekaaGreat.Store
open Go.RowKit Go.Proofs.YtjngnigelkgekaaGreatW.PrintWords Go.Proofs.YtjngnigelkgekaaGreatW.PrintLast Go.Proofs.YtjngnigelkgekaaGreatW.PrintMore Go.Proofs.YtjngnigelkgekaaGreat.Kit Go.Proofs.YtjngnigelkgekaaGreat.Plain
open Go.Proofs.YtjngnigelkgekaaGreat.Redo (sizeF sizeF_in size_)
open Go.Proofs.YtjngnigelkgekaaGreat.Delta (needF need_ rneed_)
set_option maxHeartbeats 800000 in
set_option maxRecDepth 100000 in
theorem rfits_ (a b c : Int) (u n : Nat) (hu : (u : Int) ≤ sizeF a) (W : World) : Calls Tryz.prog 84 #[.agg #[.int .i64 a, .int .i64 b, .int .u32 c], .int .i64 (u : Int), .int .i64 (n : Int)] W fun e w' => e = .returned (.bool (fitsF a u n)) ∧ Below W.heap.size W w' := by
  have hn := need_in (n : Int)
  obtain ⟨q, hq⟩ : ∃ q, needF (n : Int) = q := ⟨_, rfl⟩
  rw [hq] at hn
  have HQ := Aside0.mk hq
  have HU := Aside0.mk hu
  have A0 := Aside0.mk ((Sep.start W).newBlk 80 #[.int .i64 a, .int .i64 b, .int .u32 c]).drew
  clear hq hu
  by_cases h0 : 0 < q
  case neg =>
    have hd : decide (0 < q) = false := decide_eq_false h0
    have HV : Aside0 (fitsF a u n = false) := ⟨by unfold fitsF; rw [HQ.out]; exact decide_eq_false (fun h => h0 h.1)⟩
    go_enter Tryz.func84, Tryz.ntmps84
    go_wp2_with fail
    refine start_ (n := 12) (S := fun w' => w'.cell? ⟨W.heap.size, 0, none⟩ = some (.int .i64 a) ∧ w'.cell? ⟨W.heap.size, 1, none⟩ = some (.int .i64 b) ∧ w'.cell? ⟨W.heap.size, 2, none⟩ = some (.int .u32 c)) (ds := []) #[Z,Z,Z,Z,Z,Z,Z,Z,Z,Z,Z,Z] (by kernel_rfl) rfl rfl ⟨(A0.out.cell 0).trans rfl, (A0.out.cell 1).trans rfl, (A0.out.cell 2).trans rfl⟩ (fun hHeld => ?_)
    refine pu_ 0 7 ?_ #[J,Z,Z,Z,Z,Z,Z,Z,Z,Z,Z,Z] rfl rfl ?_ ?_ ?_ ?_
    rotate_left
    · intro w'
      go_simp
      with_reducible rfl
    rotate_left
    · simp only [aP]
      rfl
    refine one_ (i := 1) (N := some 8) #[J,J,Z,Z,Z,Z,Z,Z,Z,Z,Z,Z] rfl rfl (by kernel_rfl) (by decide) (fun K hK => ?_)
    refine goes_ Tryz.func113 (by kernel_rfl) rfl #[.int .i64 (n : Int)] (by rfl) rfl rfl (by simp only [List.map_toArray, List.map_cons, List.map_nil]; rfl) ?_
    with_reducible refine (rneed_ (n : Int) _).mono ?_
    rintro e w1 ⟨rfl, rfl⟩
    refine ⟨_, rfl, ?_⟩
    rw [HQ.out]
    refine hK.out _ _ ⟨(A0.out.cell 0).trans rfl, (A0.out.cell 1).trans rfl, (A0.out.cell 2).trans rfl⟩ (fun hHeld => ?_)
    clear hK K
    refine norm_ (a' := ?_) ?_ ?_
    rotate_left
    · show Act.put _ (some 8) _ = _
      simp only [aP]
      rfl
    refine pu_ 2 9 ?_ #[J,J,J,Z,Z,Z,Z,Z,Z,Z,Z,Z] rfl rfl ?_ ?_ ?_ ?_
    rotate_left
    · intro w'
      go_simp
      with_reducible rfl
    rotate_left
    · simp only [aP]
      rfl
    refine pu_ 3 10 ?_ #[J,J,J,J,Z,Z,Z,Z,Z,Z,Z,Z] rfl rfl ?_ ?_ ?_ ?_
    rotate_left
    · intro w'
      go_simp
      with_reducible rfl
    rotate_left
    · simp only [aP]
      rfl
    refine pure_ (i := 4) (N := some 11) (v := undef) (a' := ?_) #[J,J,J,J,J,Z,Z,Z,Z,Z,Z,Z] rfl rfl (by kernel_rfl) (fun _ _ _ h => h) (Or.inr ⟨by rfl, rfl⟩) ?_ ?_
    rotate_left
    · simp only [aP]
      rfl
    refine pure_ (i := 5) (N := some 12) (v := undef) (a' := ?_) #[J,J,J,J,J,J,Z,Z,Z,Z,Z,Z] rfl rfl (by kernel_rfl) (fun _ _ _ h => h) (Or.inr ⟨by rfl, rfl⟩) ?_ ?_
    rotate_left
    · simp only [aP]
      rfl
    refine pure_ (i := 6) (N := some 13) (v := undef) (a' := ?_) #[J,J,J,J,J,J,J,Z,Z,Z,Z,Z] rfl rfl (by kernel_rfl) (fun _ _ _ h => h) (Or.inr ⟨by rfl, rfl⟩) ?_ ?_
    rotate_left
    · simp only [aP]
      rfl
    refine pure_ (i := 7) (N := some 14) (v := undef) (a' := ?_) #[J,J,J,J,J,J,J,J,Z,Z,Z,Z] rfl rfl (by kernel_rfl) (fun _ _ _ h => h) (Or.inr ⟨by rfl, rfl⟩) ?_ ?_
    rotate_left
    · simp only [aP]
      rfl
    refine pure_ (i := 8) (N := some 15) (v := undef) (a' := ?_) #[J,J,J,J,J,J,J,J,J,Z,Z,Z] rfl rfl (by kernel_rfl) (fun _ _ _ h => h) (Or.inr ⟨by rfl, rfl⟩) ?_ ?_
    rotate_left
    · simp only [aP]
      rfl
    refine pure_ (i := 9) (N := some 16) (v := undef) (a' := ?_) #[J,J,J,J,J,J,J,J,J,J,Z,Z] rfl rfl (by kernel_rfl) (fun _ _ _ h => h) (Or.inr ⟨by rfl, rfl⟩) ?_ ?_
    rotate_left
    · simp only [aP]
      rfl
    refine pu_ 10 17 ?_ #[J,J,J,J,J,J,J,J,J,J,J,Z] rfl rfl ?_ ?_ ?_ ?_
    rotate_left
    · intro w'
      go_simp
      with_reducible rfl
    rotate_left
    · simp only [aP]
      rfl
    refine pu_ 11 6 ?_ #[J,J,J,J,J,J,J,J,J,J,J,J] rfl rfl ?_ ?_ ?_ ?_
    rotate_left
    · intro w'
      go_simp
      with_reducible rfl
    rotate_left
    · simp only [aP]
      rfl
    refine done_ (by kernel_rfl) ?_
    go_wp2_with fail
    go_ret
    exact ⟨by rw [HV.out]; first | rfl | (simp; done), A0.out.tail.toBelow⟩
  case pos =>
  have hd : decide (0 < q) = true := decide_eq_true h0
  obtain ⟨s, hs⟩ : ∃ s, sizeF a - (u : Int) = s := ⟨_, rfl⟩
  have HV : Aside0 (fitsF a u n = decide (q ≤ s)) := ⟨by unfold fitsF; rw [HQ.out, hs]; by_cases h : q ≤ s <;> simp [h, h0]⟩
  have HS := Aside0.mk hs
  clear hs
  go_enter Tryz.func84, Tryz.ntmps84
  go_wp2_with fail
  refine start_ (n := 12) (S := fun w' => w'.cell? ⟨W.heap.size, 0, none⟩ = some (.int .i64 a) ∧ w'.cell? ⟨W.heap.size, 1, none⟩ = some (.int .i64 b) ∧ w'.cell? ⟨W.heap.size, 2, none⟩ = some (.int .u32 c)) (ds := [8]) #[Z,Z,Z,Z,Z,Z,Z,Z,Z,Z,Z,Z] (by kernel_rfl) rfl rfl ⟨(A0.out.cell 0).trans rfl, (A0.out.cell 1).trans rfl, (A0.out.cell 2).trans rfl⟩ (fun hHeld => ?_)
  refine pu_ 0 7 ?_ #[J,Z,Z,Z,Z,Z,Z,Z,Z,Z,Z,Z] rfl rfl ?_ ?_ ?_ ?_
  rotate_left
  · intro w'
    go_simp
    with_reducible rfl
  rotate_left
  · simp only [aP]
    rfl
  refine one_ (i := 1) (N := some 8) #[J,J,Z,Z,Z,Z,Z,Z,Z,Z,Z,Z] rfl rfl (by kernel_rfl) (by decide) (fun K hK => ?_)
  refine goes_ Tryz.func113 (by kernel_rfl) rfl #[.int .i64 (n : Int)] (by rfl) rfl rfl (by simp only [List.map_toArray, List.map_cons, List.map_nil]; rfl) ?_
  with_reducible refine (rneed_ (n : Int) _).mono ?_
  rintro e w1 ⟨rfl, rfl⟩
  refine ⟨_, rfl, ?_⟩
  rw [HQ.out]
  refine hK.out _ _ ⟨(A0.out.cell 0).trans rfl, (A0.out.cell 1).trans rfl, (A0.out.cell 2).trans rfl⟩ (fun hHeld => ?_)
  clear hK K
  refine norm_ (a' := ?_) ?_ ?_
  rotate_left
  · show Act.put _ (some 8) _ = _
    simp only [aP]
    rfl
  refine pu_ 2 9 ?_ #[J,J,J,Z,Z,Z,Z,Z,Z,Z,Z,Z] rfl rfl ?_ ?_ ?_ ?_
  rotate_left
  · intro w'
    go_simp
    with_reducible rfl
  rotate_left
  · simp only [aP]
    rfl
  refine pu_ 3 10 ?_ #[J,J,J,J,Z,Z,Z,Z,Z,Z,Z,Z] rfl rfl ?_ ?_ ?_ ?_
  rotate_left
  · intro w'
    go_simp
    with_reducible rfl
  rotate_left
  · simp only [aP]
    rfl
  refine pu_ 4 11 ?_ #[J,J,J,J,J,Z,Z,Z,Z,Z,Z,Z] rfl rfl ?_ ?_ ?_ ?_
  rotate_left
  · intro w'
    go_simp
    with_reducible rfl
  rotate_left
  · simp only [aP]
    rfl
  refine pu_ 7 14 ?_ #[J,J,J,J,J,Z,Z,J,Z,Z,Z,Z] rfl rfl ?_ ?_ ?_ ?_
  rotate_left
  · intro w'
    go_simp
    with_reducible rfl
  rotate_left
  · simp only [aP]
    rfl
  refine ta_ 6 13 ?_ #[J,J,J,J,J,Z,J,J,Z,Z,Z,Z] rfl rfl ?_ hHeld ?_ ?_ ?_
  rotate_left
  · rintro w' ⟨s0, s1, s2⟩
    go_simp
    with_reducible rfl
  rotate_left
  · simp only [aP]
    rfl
  refine one_ (i := 5) (N := some 12) #[J,J,J,J,J,J,J,J,Z,Z,Z,Z] rfl rfl (by kernel_rfl) (by decide) (fun K hK => ?_)
  refine goes_ Tryz.func113 (by kernel_rfl) rfl #[.int .i64 (n : Int)] (by rfl) rfl rfl (by simp only [List.map_toArray, List.map_cons, List.map_nil]; rfl) ?_
  with_reducible refine (rneed_ (n : Int) _).mono ?_
  rintro e w5 ⟨rfl, rfl⟩
  refine ⟨_, rfl, ?_⟩
  rw [HQ.out]
  refine hK.out _ _ ⟨(A0.out.cell 0).trans rfl, (A0.out.cell 1).trans rfl, (A0.out.cell 2).trans rfl⟩ (fun hHeld => ?_)
  clear hK K
  refine norm_ (a' := ?_) ?_ ?_
  rotate_left
  · show Act.put _ (some 12) _ = _
    simp only [aP]
    rfl
  refine last_ (i := 8) (N := some 15) #[J,J,J,J,J,J,J,J,J,Z,Z,Z] rfl rfl (by kernel_rfl) (by decide) (fun K hK => ?_)
  refine goes_ Tryz.func114 (by kernel_rfl) rfl #[.agg #[.int .i64 a, .int .i64 b, .int .u32 c], .int .i64 (u : Int)] (by rfl) rfl rfl (by simp only [List.map_toArray, List.map_cons, List.map_nil]; rfl) ?_
  with_reducible refine (rleft_ a b c u HU.out _).mono ?_
  rintro e w8 ⟨rfl, hb8⟩
  refine ⟨_, rfl, ?_⟩
  rw [HS.out]
  have A8 := Aside0.mk (A0.out.below hb8)
  clear hb8
  refine hK.out _ _ ?_
  clear hK K
  refine norm_ (a' := ?_) ?_ ?_
  rotate_left
  · show Act.put _ (some 15) _ = _
    simp only [aP]
    rfl
  refine pu_ 9 16 ?_ #[J,J,J,J,J,J,J,J,J,J,Z,Z] rfl rfl ?_ ?_ ?_ ?_
  rotate_left
  · intro w'
    go_simp
    with_reducible rfl
  rotate_left
  · simp only [aP]
    rfl
  refine pu_ 10 17 ?_ #[J,J,J,J,J,J,J,J,J,J,J,Z] rfl rfl ?_ ?_ ?_ ?_
  rotate_left
  · intro w'
    go_simp
    with_reducible rfl
  rotate_left
  · simp only [aP]
    rfl
  refine pu_ 11 6 ?_ #[J,J,J,J,J,J,J,J,J,J,J,J] rfl rfl ?_ ?_ ?_ ?_
  rotate_left
  · intro w'
    go_simp
    with_reducible rfl
  rotate_left
  · simp only [aP]
    rfl
  refine done_ (by kernel_rfl) ?_
  by_cases hqs : q ≤ s
  · have hd2 : decide (q ≤ s) = true := decide_eq_true hqs
    go_wp2_with fail
    go_ret
    exact ⟨by rw [HV.out, hd2]; first | rfl | (simp; done), A8.out.tail.toBelow⟩
  · have hd2 : decide (q ≤ s) = false := decide_eq_false hqs
    go_wp2_with fail
    go_ret
    exact ⟨by rw [HV.out, hd2]; first | rfl | (simp; done), A8.out.tail.toBelow⟩
end Go.Proofs.YtjngnigelkgekaaGreat.Store
namespace Go.Proofs.YtjngnigelkgekaaGreat.Store
open Go.RowKit Go.Proofs.YtjngnigelkgekaaGreatW.PrintWords Go.Proofs.YtjngnigelkgekaaGreatW.PrintLast Go.Proofs.YtjngnigelkgekaaGreatW.PrintMore Go.Proofs.YtjngnigelkgekaaGreat.Kit Go.Proofs.YtjngnigelkgekaaGreat.Plain Go.Proofs.YtjngnigelkgekaaGreat.Disk Go.Proofs.YtjngnigelkgekaaGreat.Root
open Go.Proofs.YtjngnigelkgekaaGreat.Delta (Chg KC deltaF rightF okF)
open Go.Proofs.YtjngnigelkgekaaGreat.Redo (recR logF logF_bytes appR sizeF)
open Go.Proofs.YtjngnigelkgekaaGreat.Home (pagesF)
open Go.Proofs.YtjngnigelkgekaaGreat.Tape (good)
theorem fmt_len {n : Nat} {las : List Int} {wt : Wt} {a b : Nat} (hl : las.length = 64 * n) (hw : ∀ i b, wt i = some b → b.length = 64) : (fmtL n las wt a b).length = 64 * n := by
  unfold fmtL
  exact Ref.flushed_len (Ref.flushed_len (Ref.flushed_len hl (putsW_len hw _)) (putsW_len Ref.none_len _)) (putW_len Ref.none_len)
theorem chk_len {n : Nat} {las : List Int} {wt : Wt} {a b ep : Int} {pages : List (List Int)} {named : List Int} (hl : las.length = 64 * n) (hw : ∀ i b, wt i = some b → b.length = 64) : (chkL n las wt a b ep pages named).length = 64 * n := by
  unfold chkL
  exact Ref.flushed_len (Ref.flushed_len (Ref.flushed_len hl hw) (homeW_len _ Ref.none_len)) (putW_len Ref.none_len)
end Go.Proofs.YtjngnigelkgekaaGreat.Store
