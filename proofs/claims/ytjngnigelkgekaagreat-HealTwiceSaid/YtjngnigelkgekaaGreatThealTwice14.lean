/- RefD3, RefD4, Redo2a, Redo2: what HealTwice needs. -/
import Derived.Test.YtjngnigelkgekaaGreatThealTwice13
set_option linter.unusedVariables false
set_option linter.unusedSimpArgs false
namespace Go.Proofs.YtjngnigelkgekaaGreat.Delta
open Go.RowKit Go.Proofs.YtjngnigelkgekaaGreatW.PrintWords Go.Proofs.YtjngnigelkgekaaGreatW.PrintLast Go.Proofs.YtjngnigelkgekaaGreatW.PrintMore Go.Proofs.YtjngnigelkgekaaGreat.Kit Go.Proofs.YtjngnigelkgekaaGreat.Base Go.Proofs.YtjngnigelkgekaaGreat.Plain
set_option maxHeartbeats 1600000 in
set_option maxRecDepth 100000 in
theorem rundelta_ {A : Option Addr} {n c : Nat} {b : List Int} {w : World} (hr : U8.C w A n b) (hc : n ≤ c) (hb : Bytes b) (hl : n ≤ 1000000) (pages : Int) :
    Calls Tryz.prog 112 #[.slice A n c, .int .i64 pages] w fun e w' => ∃ v, e = .returned (.tuple #[v, .bool (undeltaF b pages).isSome]) ∧ Sep w w' [Row KC 75 v ((undeltaF b pages).getD [])] := by
  obtain rfl : b.length = n := hr.1
  have HR := Aside0.mk hr
  have HB := Aside0.mk hb
  by_cases hn : b.length < 2 ∨ 64 < pages
  · have HU : Aside0 (undeltaF b pages = none) := ⟨by
      unfold undeltaF
      by_cases h2 : b.length < 2
      · rw [if_pos h2]
      · rw [if_neg h2]
        by_cases h3 : b.length ≠ 2 + 66 * countF b
        · rw [if_pos h3]
        · rw [if_neg h3, if_neg]
          unfold rightF
          rw [decide_eq_false (by omega)]
          simp⟩
    by_cases h2 : b.length < 2
    · have hu1 : (b.length : Int) < 2 := by omega
      clear h2 hn hr hb
      go_enter Tryz.func112, Tryz.ntmps112
      go_wp2_with fail
      go_ret2
      exact ⟨_, by rw [HU.out]; first | rfl | (simp; done), by rw [HU.out]; exact (Sep.start w).nilRow KC _⟩
    · have hu1 : ¬ (b.length : Int) < 2 := by omega
      have hu2 : 64 < pages := by omega
      clear h2 hn hr hb
      go_enter Tryz.func112, Tryz.ntmps112
      go_wp2_with fail
      go_ret2
      exact ⟨_, by rw [HU.out]; first | rfl | (simp; done), by rw [HU.out]; exact (Sep.start w).nilRow KC _⟩
  · obtain ⟨ad, hA, -⟩ := byte_at hr (i := 0) (by omega)
    subst hA
    have c0 : ∀ q, (w.drewN q).cell? (ad.add 0) = some (.int .u8 (rd b 0)) := fun q => by
      obtain ⟨ad', hA, hc⟩ := byte_at (Kd.C_drewN HR.out q) (i := 0) (by omega)
      cases hA; exact hc
    have c1 : ∀ q, (w.drewN q).cell? ⟨ad.block, ad.off + 1, none⟩ = some (.int .u8 (rd b 1)) := fun q => by
      obtain ⟨ad', hA, hc⟩ := byte_at (Kd.C_drewN HR.out q) (i := 1) (by omega)
      cases hA; exact hc
    rw [show ad.add 0 = ad by simp [Addr.add]] at c0
    have x0 := hb.at 0
    have x1 := hb.at 1
    have hj := join64 x0.1 x0.2 x1.1 x1.2
    obtain ⟨m, hcf⟩ : ∃ m, countF b = m := ⟨_, rfl⟩
    have hcn : (m : Int) = rd b 0 * 256 + rd b 1 := by rw [← hcf]; unfold countF; omega
    generalize rd b 0 = p at *
    generalize rd b 1 = q at *
    have hw : IntKind.i64.wrap (p * 256) = p * 256 := by rw [IntKind.wrap_i64]; omega
    have hwp : IntKind.i64.wrap p = p := by rw [IntKind.wrap_i64]; omega
    have hwq : IntKind.i64.wrap q = q := by rw [IntKind.wrap_i64]; omega
    have hn0 : 0 < b.length := by omega
    have hn1 : 1 < b.length := by omega
    have hi1 : (1 : Int) < (b.length : Int) := by omega
    have hu1 : ¬ (b.length : Int) < 2 := by omega
    have hu2 : ¬ 64 < pages := by omega
    by_cases hmm : b.length = 2 + 66 * m
    · have hne2 : ((b.length : Int) != 2 + (p * 256 + q) * 66) = false := by simp; omega
      have HC := Aside0.mk (And.intro hc (And.intro hcf (And.intro hmm (And.intro hcn hl))))
      clear hr hb hn hcf hmm hcn
      go_enter Tryz.func112, Tryz.ntmps112
      go_wp2_with fail
      go_quiet (fail)
      clear c0 c1 hw hwp hwq hj hn0 hn1 hi1
      go_wp2_with fail
      clear x0 x1
      have A0 := Aside0.mk (((Sep.start w).drewN nq).nilRow KC 75)
      go_loopg [7, 8] m (fun k v s wr => ∃ (j : Nat), s = .int .i64 (j : Int) ∧ j + k = m ∧ Sep w wr [Row KC 75 v ((List.range j).map (chunkF b))])
      case atStart => exact ⟨0, rfl, by omega, A0.out⟩
      case round =>
        obtain ⟨j, rfl, hjm, hS⟩ := hrel
        have AK := Aside0.mk hjm
        have hm2 : m ≤ 1000000 := by have := HC.out; omega
        have hlb : b.length = 2 + 66 * m := HC.out.2.2.1
        obtain ⟨A3, c3, rfl⟩ := hS.rowN (n := j) (by simp)
        by_cases hj : j < m
        · have hjp : (j : Int) < p * 256 + q := by have := HC.out; omega
          have hsum : 2 + (j : Int) * 66 = ((2 + 66 * j : Nat) : Int) := by omega
          obtain ⟨A2, hcut, hT⟩ := drop8 (A := some ad) (n := b.length) (c := c) (a := 2 + 66 * j) (J := 2 + (j : Int) * 66) (l := b) hsum rfl (by omega) hc
          obtain ⟨qx, hqx⟩ : ∃ qx, b.drop (2 + 66 * j) = qx := ⟨_, rfl⟩
          have hql : qx.length = b.length - (2 + 66 * j) := by rw [← hqx, List.length_drop]
          have hqr : ∀ i : Nat, rd qx (i : Int) = rd b ((2 + 66 * j + i : Nat) : Int) := fun i => by
            rw [← hqx]; unfold rd
            rw [Int.toNat_natCast, Int.toNat_natCast, List.getD_eq_getElem?_getD, List.getD_eq_getElem?_getD, List.getElem?_drop]
          have hqd : (qx.take 66).drop 2 = (b.drop (4 + 66 * j)).take 64 := by
            rw [← hqx, List.drop_take, List.drop_drop]
            congr 2
            omega
          have hqb : Bytes qx := by rw [← hqx]; exact HB.out.drop _
          have hch : chunkF b j = (rd qx 0 * 256 + rd qx 1, (qx.take 66).drop 2) := by
            have h0 := hqr 0
            have h1 := hqr 1
            unfold chunkF
            rw [hqd]
            simp only [Int.natCast_zero, Int.natCast_one] at h0 h1
            rw [h0, h1]
            congr 4
            · omega
          rw [hqx] at hT
          obtain ⟨qn, hqn⟩ : ∃ qn, b.length - (2 + 66 * j) = qn := ⟨_, rfl⟩
          rw [hqn] at hT hcut hql
          obtain ⟨c4, hc4⟩ : ∃ c4, c - (2 + 66 * j) = c4 := ⟨_, rfl⟩
          rw [hc4] at hcut
          have hqc : qn ≤ c4 := by omega
          have hq66 : 66 ≤ qn := by omega
          obtain ⟨ad2, hA2, z1⟩ := byte_at (hT w HR.out) (i := 0) (by omega)
          subst hA2
          obtain ⟨ad3, hA3, z2⟩ := byte_at (hT w HR.out) (i := 1) (by omega)
          cases hA3
          rw [show ad2.add 0 = ad2 by simp [Addr.add]] at z1
          replace z2 : w.cell? ⟨ad2.block, ad2.off + 1, none⟩ = some (.int .u8 (rd qx 1)) := z2
          replace z1 : w.cell? ad2 = some (.int .u8 (rd qx 0)) := z1
          obtain ⟨A5, hcut5, hT5⟩ := mid8 (A := some ad2) (n := qn) (c := c4) (a := 2) (b := 66) (J := 2) (K := 66) (l := qx) rfl rfl hql (by decide) (by omega) hqc
          have HC5 := Aside0.mk (hT5 _ (hT w HR.out))
          have hl64 : ((qx.take 66).drop 2).length = 64 := by rw [List.length_drop, List.length_take, hql]; omega
          have y0 := hqb.at 0
          have y1 := hqb.at 1
          have hjj := join64 y0.1 y0.2 y1.1 y1.2
          generalize rd qx 0 = P0 at *
          generalize rd qx 1 = P1 at *
          generalize (qx.take 66).drop 2 = qs at *
          have hww : IntKind.i64.wrap (P0 * 256) = P0 * 256 := by rw [IntKind.wrap_i64]; omega
          have hwP : IntKind.i64.wrap P0 = P0 := by rw [IntKind.wrap_i64]; omega
          have hwQ : IntKind.i64.wrap P1 = P1 := by rw [IntKind.wrap_i64]; omega
          have hq0 : 0 < qn := by omega
          have hq1 : 1 < qn := by omega
          have hqi : (1 : Int) < (qn : Int) := by omega
          have AL := Aside0.mk hl64
          have AX := Aside0.mk hch
          have BK := Aside0.mk hS.drew
          have HZ1 := Aside0.mk z1
          have HZ2 := Aside0.mk z2
          have y3 := cell_later BK.out.toBelow z1
          have y4 := cell_later BK.out.toBelow z2
          have hwm : wrap64 ((j : Int) * 66) = (j : Int) * 66 := IntWalk.wrap64_in _ (by omega)
          have hwm2 : wrap64 (2 + (j : Int) * 66) = 2 + (j : Int) * 66 := IntWalk.wrap64_in _ (by omega)
          clear hS hT hT5 hl64 hch hqr hqd hqb hqx hjm hql hqn hc4 hlb z1 z2 hne2 hsum
          go_wp2_with fail
          refine start_ (n := 19) (S := fun w' => w'.cell? ad2 = some (.int .u8 P0) ∧ w'.cell? ⟨ad2.block, ad2.off + 1, none⟩ = some (.int .u8 P1)) (ds := [17]) #[fF,fF,fF,fF,fF,fF,fF,fF,fF,fF,fF,fF,fF,fF,fF,fF,fF,fF,fF] (by kernel_rfl) rfl rfl ⟨y3, y4⟩ (fun hHeld => ?_)
          refine pu_ 0 43 ?_ #[tT,fF,fF,fF,fF,fF,fF,fF,fF,fF,fF,fF,fF,fF,fF,fF,fF,fF,fF] rfl rfl ?_ ?_ ?_ ?_
          rotate_left
          · intro w'
            go_simp
            with_reducible rfl
          rotate_left
          · simp only [aP]
            rfl
          refine pu_ 1 44 ?_ #[tT,tT,fF,fF,fF,fF,fF,fF,fF,fF,fF,fF,fF,fF,fF,fF,fF,fF,fF] rfl rfl ?_ ?_ ?_ ?_
          rotate_left
          · intro w'
            go_simp
            with_reducible rfl
          rotate_left
          · simp only [aP]
            rfl
          refine pu_ 2 45 ?_ #[tT,tT,tT,fF,fF,fF,fF,fF,fF,fF,fF,fF,fF,fF,fF,fF,fF,fF,fF] rfl rfl ?_ ?_ ?_ ?_
          rotate_left
          · intro w'
            go_simp
            with_reducible rfl
          rotate_left
          · simp only [aP]
            rfl
          refine pu_ 6 49 ?_ #[tT,tT,tT,fF,fF,fF,tT,fF,fF,fF,fF,fF,fF,fF,fF,fF,fF,fF,fF] rfl rfl ?_ ?_ ?_ ?_
          rotate_left
          · intro w'
            go_simp
            with_reducible rfl
          rotate_left
          · simp only [aP]
            rfl
          refine pu_ 7 50 ?_ #[tT,tT,tT,fF,fF,fF,tT,tT,fF,fF,fF,fF,fF,fF,fF,fF,fF,fF,fF] rfl rfl ?_ ?_ ?_ ?_
          rotate_left
          · intro w'
            go_simp
            with_reducible rfl
          rotate_left
          · simp only [aP]
            rfl
          refine pu_ 12 55 ?_ #[tT,tT,tT,fF,fF,fF,tT,tT,fF,fF,fF,fF,tT,fF,fF,fF,fF,fF,fF] rfl rfl ?_ ?_ ?_ ?_
          rotate_left
          · intro w'
            go_simp
            with_reducible rfl
          rotate_left
          · simp only [aP]
            rfl
          refine pu_ 13 56 ?_ #[tT,tT,tT,fF,fF,fF,tT,tT,fF,fF,fF,fF,tT,tT,fF,fF,fF,fF,fF] rfl rfl ?_ ?_ ?_ ?_
          rotate_left
          · intro w'
            go_simp
            with_reducible rfl
          rotate_left
          · simp only [aP]
            rfl
          refine ta_ 3 46 ?_ #[tT,tT,tT,tT,fF,fF,tT,tT,fF,fF,fF,fF,tT,tT,fF,fF,fF,fF,fF] rfl rfl ?_ hHeld ?_ ?_ ?_
          rotate_left
          · rintro w' ⟨s0, s1⟩
            go_simp
            with_reducible rfl
          rotate_left
          · simp only [aP]
            rfl
          refine pu_ 4 47 ?_ #[tT,tT,tT,tT,tT,fF,tT,tT,fF,fF,fF,fF,tT,tT,fF,fF,fF,fF,fF] rfl rfl ?_ ?_ ?_ ?_
          rotate_left
          · intro w'
            go_simp
            with_reducible rfl
          rotate_left
          · simp only [aP]
            rfl
          refine pu_ 5 48 ?_ #[tT,tT,tT,tT,tT,tT,tT,tT,fF,fF,fF,fF,tT,tT,fF,fF,fF,fF,fF] rfl rfl ?_ ?_ ?_ ?_
          rotate_left
          · intro w'
            go_simp
            with_reducible rfl
          rotate_left
          · simp only [aP]
            rfl
          refine ta_ 8 51 ?_ #[tT,tT,tT,tT,tT,tT,tT,tT,tT,fF,fF,fF,tT,tT,fF,fF,fF,fF,fF] rfl rfl ?_ hHeld ?_ ?_ ?_
          rotate_left
          · rintro w' ⟨s0, s1⟩
            go_simp
            with_reducible rfl
          rotate_left
          · simp only [aP]
            rfl
          refine pu_ 9 52 ?_ #[tT,tT,tT,tT,tT,tT,tT,tT,tT,tT,fF,fF,tT,tT,fF,fF,fF,fF,fF] rfl rfl ?_ ?_ ?_ ?_
          rotate_left
          · intro w'
            go_simp
            with_reducible rfl
          rotate_left
          · simp only [aP]
            rfl
          refine pu_ 10 53 ?_ #[tT,tT,tT,tT,tT,tT,tT,tT,tT,tT,tT,fF,tT,tT,fF,fF,fF,fF,fF] rfl rfl ?_ ?_ ?_ ?_
          rotate_left
          · intro w'
            go_simp
            with_reducible rfl
          rotate_left
          · simp only [aP]
            rfl
          refine one_ (i := 11) (N := some 54) #[tT,tT,tT,tT,tT,tT,tT,tT,tT,tT,tT,tT,tT,tT,fF,fF,fF,fF,fF] rfl rfl (by kernel_rfl) (by decide) (fun K hK => ?_)
          have B4 := Aside0.mk (BK.out.litRow (enc := Value.int .u8) (h1 := fun _ => rfl) (e := 5) [] (by simp))
          refine value_ (w1 := ?_) (v := ?_) (by rfl) rfl ?_ ?_
          rotate_left 2
          · go_simp
            constructor
            · rfl
            · rfl
          refine hK.out _ _ ⟨cell_later B4.out.toBelow HZ1.out, cell_later B4.out.toBelow HZ2.out⟩ (fun hHeld => ?_)
          clear hK K
          refine norm_ (a' := ?_) ?_ ?_
          rotate_left
          · show Act.put _ (some 54) _ = _
            simp only [aP]
            rfl
          refine one_ (i := 14) (N := some 57) #[tT,tT,tT,tT,tT,tT,tT,tT,tT,tT,tT,tT,tT,tT,tT,fF,fF,fF,fF] rfl rfl (by kernel_rfl) (by decide) (fun K hK => ?_)
          refine B4.out.appendStep (by rfl) (.tmp 54) (.tmp 56) 24 (.int .u8 0) 1 rfl Tryz.underlying24 infoB rfl (by decide) A5 64 (c4 - 2) (by rfl) (by rfl) (Kd.C_below HC5.out B4.out.toBelow) (by have := AL.out; simp; omega) ?_
          intro v5 w5 hS5
          obtain ⟨A6, c6, rfl⟩ := hS5.rowN (n := 64) (by have := AL.out; simpa using this)
          have B5 := Aside0.mk hS5
          clear hS5
          refine hK.out _ _ ⟨cell_later B5.out.toBelow HZ1.out, cell_later B5.out.toBelow HZ2.out⟩ (fun hHeld => ?_)
          clear hK K
          refine norm_ (a' := ?_) ?_ ?_
          rotate_left
          · show Act.put _ (some 57) _ = _
            simp only [aP]
            rfl
          refine pu_ 15 58 ?_ #[tT,tT,tT,tT,tT,tT,tT,tT,tT,tT,tT,tT,tT,tT,tT,tT,fF,fF,fF] rfl rfl ?_ ?_ ?_ ?_
          rotate_left
          · intro w'
            go_simp
            with_reducible rfl
          rotate_left
          · simp only [aP]
            rfl
          refine one_ (i := 16) (N := some 59) #[tT,tT,tT,tT,tT,tT,tT,tT,tT,tT,tT,tT,tT,tT,tT,tT,tT,fF,fF] rfl rfl (by kernel_rfl) (by decide) (fun K hK => ?_)
          have E3 := Aside0.mk ((B5.out.elSlice.elPair (a := Kd.int .i64) (x := P0 * 256 + P1) (p := [.int .i64 (P0 * 256 + P1)]) (fun _ _ _ => rfl)).at2)
          refine value_ (w1 := ?_) (v := ?_) (by rfl) rfl ?_ ?_
          rotate_left 2
          · go_simp
            constructor
            · rfl
            · rfl
          refine hK.out _ _ ⟨cell_later (below_alloc B5.out.toBelow _) HZ1.out, cell_later (below_alloc B5.out.toBelow _) HZ2.out⟩ (fun hHeld => ?_)
          clear hK K
          refine norm_ (a' := ?_) ?_ ?_
          rotate_left
          · show Act.put _ (some 59) _ = _
            simp only [aP]
            rfl
          refine last_ (i := 17) (N := some 60) #[tT,tT,tT,tT,tT,tT,tT,tT,tT,tT,tT,tT,tT,tT,tT,tT,tT,tT,fF] rfl rfl (by kernel_rfl) (by decide) (fun K hK => ?_)
          refine E3.out.appendDeepStep (by rfl) (.tmp 43) (.tmp 59) 60 _ 32 rfl Tryz.underlying60 infoCh rfl (by decide) (by decide) (by rfl) (by rfl) (by simp; omega) ?_
          intro v7 w7 hs7 hS7
          have B7 := Aside0.mk hS7
          clear hS7
          refine hK.out _ _ ?_
          clear hK K
          refine norm_ (a' := ?_) ?_ ?_
          rotate_left
          · show Act.put _ (some 60) _ = _
            simp only [aP]
            rfl
          refine pu_ 18 7 ?_ #[tT,tT,tT,tT,tT,tT,tT,tT,tT,tT,tT,tT,tT,tT,tT,tT,tT,tT,tT] rfl rfl ?_ ?_ ?_ ?_
          rotate_left
          · intro w'
            go_simp
            with_reducible rfl
          rotate_left
          · simp only [aP]
            rfl
          refine done_ (by kernel_rfl) ?_
          go_wp2_with fail
          go_roundg (gk - 1)
          case measure => have := AK.out; omega
          case rel => exact ⟨j + 1, by go_num, by have := AK.out; omega, by rw [List.range_succ, List.map_append, List.map_cons, List.map_nil, AX.out]; exact B7.out⟩
        · have hjm2 : j = m := by omega
          subst hjm2
          have hjp : ¬ (j : Int) < p * 256 + q := by have := HC.out; omega
          have hrw : (List.range j).map (chunkF b) = rawF b := by unfold rawF; rw [HC.out.2.1]
          have hlen : (rawF b).length = j := by rw [← hrw]; simp
          rw [hrw] at hS
          have AS := Aside0.mk hS
          have AL := Aside0.mk hlen
          clear hS hjm hrw hlen hne2 hlb
          go_wp2_with fail
          refine (rchanges_ (l := rawF b) (by have := AS.out.rowC.2.2; rwa [AL.out] at this) pages).mono ?_
          rintro e w9 ⟨rfl, hb9⟩
          have B9 := Aside0.mk (AS.out.below hb9)
          clear hb9
          cases hrt : rightF (rawF b) pages with
          | false =>
            have HU : Aside0 (undeltaF b pages = none) := ⟨by
              unfold undeltaF
              have := HC.out
              rw [if_neg (by omega), if_neg (by rw [this.2.1]; omega), hrt]; rfl⟩
            clear hrt
            go_wp2_with fail
            go_ret2
            exact ⟨_, by rw [HU.out]; first | rfl | (simp; done), by rw [HU.out]; exact B9.out.tail.nilRow KC _⟩
          | true =>
            have HU : Aside0 (undeltaF b pages = some (rawF b)) := ⟨by
              unfold undeltaF
              have := HC.out
              rw [if_neg (by omega), if_neg (by rw [this.2.1]; omega), hrt]; rfl⟩
            clear hrt
            go_wp2_with fail
            go_ret2
            exact ⟨_, by rw [HU.out]; first | rfl | (simp; done), by rw [HU.out]; exact B9.out⟩
    · have hne : ((b.length : Int) != 2 + (p * 256 + q) * 66) = true := by simp; omega
      have HU : Aside0 (undeltaF b pages = none) := ⟨by
        unfold undeltaF
        rw [if_neg (by omega), if_pos (by rw [hcf]; exact hmm)]⟩
      clear hr hb hn hcf hmm hcn
      go_enter Tryz.func112, Tryz.ntmps112
      go_wp2_with fail
      go_quiet (fail)
      go_wp2_with fail
      go_ret2
      exact ⟨_, by rw [HU.out]; first | rfl | (simp; done), by rw [HU.out]; exact ((Sep.start w).drewN _).nilRow KC _⟩
end Go.Proofs.YtjngnigelkgekaaGreat.Delta
namespace Go.Proofs.YtjngnigelkgekaaGreat.Delta
end Go.Proofs.YtjngnigelkgekaaGreat.Delta
namespace Go.Proofs.YtjngnigelkgekaaGreat.Redo
open Go.RowKit Go.Proofs.YtjngnigelkgekaaGreatW.PrintWords Go.Proofs.YtjngnigelkgekaaGreatW.PrintLast Go.Proofs.YtjngnigelkgekaaGreatW.PrintMore Go.Proofs.YtjngnigelkgekaaGreat.Kit Go.Proofs.YtjngnigelkgekaaGreat.Plain Go.Proofs.YtjngnigelkgekaaGreat.Disk Go.Proofs.YtjngnigelkgekaaGreat.Root
theorem append_nil (a b c at_ : Int) {A : Option Addr} {m cp : Nat} (w : World) : Calls Tryz.prog 73 #[.pointer none, .agg #[.int .i64 a, .int .i64 b, .int .u32 c], .int .i64 at_, .slice A m cp] w fun e w' => e = .returned (.bool false) ∧ Below w.heap.size w w' := by
  have A0 := Aside0.mk ((Sep.start w).newBlk 80 #[.int .i64 a, .int .i64 b, .int .u32 c])
  go_enter Tryz.func73, Tryz.ntmps73
  go_wp2_with fail
  go_quiet (fail)
  go_wp2_with fail
  go_ret
  exact ⟨by first | rfl | (simp; done), pw_below_drewN A0.out.toBelow _⟩
theorem ok_in {n : Nat} {a b c at_ : Int} {m : Nat} (h : okA n a b c at_ m = true) : 1 ≤ a ∧ a ≤ 64 ∧ 2 + a + b ≤ n ∧ 1 ≤ b ∧ 0 ≤ at_ ∧ at_ + m ≤ 64 * a := by
  unfold okA rightR sizeF at h
  simp only [Bool.and_eq_true, decide_eq_true_eq] at h
  have h1 := h.1
  have h2 := h.2
  rw [if_neg (by omega)] at h2
  omega
def appR (n : Nat) (las : List Int) (wt : Wt) (a b c at_ : Int) (xs : List Int) : Wt := if okA n a b c at_ xs.length = true then appW las wt at_.toNat xs else wt
section
variable {w0 W : World} {F : List HP} {g n : Nat} {las : List Int} {wt : Wt}
set_option maxHeartbeats 1600000 in
set_option maxRecDepth 100000 in
theorem append_no (h : Sep w0 W (Dsk g las wt :: F)) (hl : las.length = 64 * n) (hn : n ≤ 160) (hw : ∀ i b, wt i = some b → b.length = 64) (a b c at_ : Int) (hat : -9223372036854775808 ≤ at_ ∧ at_ ≤ 9223372036854775807) {A : Option Addr} {m cp : Nat} {xs : List Int} (hx : ∀ W', Sep w0 W' F → U8.C W' A m xs) (hcp : m ≤ cp) (hno : okA n a b c at_ m = false) :
    Calls Tryz.prog 73 #[.pointer (some ⟨g, 0, none⟩), .agg #[.int .i64 a, .int .i64 b, .int .u32 c], .int .i64 at_, .slice A m cp] W fun e w' => e = .returned (.bool (okA n a b c at_ m)) ∧ Sep w0 w' (Dsk g las (appR n las wt a b c at_ xs) :: F) := by
  have A0 := Aside0.mk (h.newBlk 80 #[.int .i64 a, .int .i64 b, .int .u32 c]).drew
  have HLN : Aside0 ((las.length : Int) / 64 = (n : Int)) := ⟨by omega⟩
  have hxl := (hx W h.tail).1
  have hm : m ≤ 9223372036854775807 := (hx W h.tail).2.1
  have HL := Aside0.mk (And.intro hl (And.intro hn hw))
  have HX := Aside0.mk (And.intro hx hcp)
  have HXL := Aside0.mk hxl
  obtain ⟨sz, hsz⟩ : ∃ s, sizeF a = s := ⟨_, rfl⟩
  have hs0 := sizeF_in a
  rw [hsz] at hs0
  have HSZ := Aside0.mk hsz
  have hws : wrap64 (sz - (m : Int)) = sz - (m : Int) := IntWalk.wrap64_in _ (by omega)
  have hws2 : IntKind.i64.wrap (sz - (m : Int)) = sz - (m : Int) := by rw [IntKind.wrap_i64]; omega
  clear h hl hn hw hx hxl hsz
  cases hrt : rightR a b c n with
  | false =>
    have HRT := Aside0.mk hrt
    have HV : Aside0 (okA n a b c at_ m = false) := ⟨by unfold okA; rw [hrt]; rfl⟩
    have HRR : Aside0 (appR n las wt a b c at_ xs = wt) := ⟨by unfold appR; rw [HXL.out, HV.out]; rfl⟩
    clear hrt hcp hno
    go_enter Tryz.func73, Tryz.ntmps73
    go_wp2_with fail
    refine start_ (n := 22) (S := fun w' => w'.cell? ⟨W.heap.size, 0, none⟩ = some (.int .i64 a) ∧ w'.cell? ⟨W.heap.size, 1, none⟩ = some (.int .i64 b) ∧ w'.cell? ⟨W.heap.size, 2, none⟩ = some (.int .u32 c)) (ds := [6]) #[Z,Z,Z,Z,Z,Z,Z,Z,Z,Z,Z,Z,Z,Z,Z,Z,Z,Z,Z,Z,Z,Z] (by kernel_rfl) rfl rfl ⟨(A0.out.cell 0).trans rfl, (A0.out.cell 1).trans rfl, (A0.out.cell 2).trans rfl⟩ (fun hHeld => ?_)
    refine pu_ 0 14 ?_ #[J,Z,Z,Z,Z,Z,Z,Z,Z,Z,Z,Z,Z,Z,Z,Z,Z,Z,Z,Z,Z,Z] rfl rfl ?_ ?_ ?_ ?_
    rotate_left
    · intro w'
      go_simp
      with_reducible rfl
    rotate_left
    · simp only [aP]
      rfl
    refine pu_ 1 15 ?_ #[J,J,Z,Z,Z,Z,Z,Z,Z,Z,Z,Z,Z,Z,Z,Z,Z,Z,Z,Z,Z,Z] rfl rfl ?_ ?_ ?_ ?_
    rotate_left
    · intro w'
      go_simp
      with_reducible rfl
    rotate_left
    · simp only [aP]
      rfl
    refine pu_ 2 16 ?_ #[J,J,J,Z,Z,Z,Z,Z,Z,Z,Z,Z,Z,Z,Z,Z,Z,Z,Z,Z,Z,Z] rfl rfl ?_ ?_ ?_ ?_
    rotate_left
    · intro w'
      go_simp
      with_reducible rfl
    rotate_left
    · simp only [aP]
      rfl
    refine pu_ 4 18 ?_ #[J,J,J,Z,J,Z,Z,Z,Z,Z,Z,Z,Z,Z,Z,Z,Z,Z,Z,Z,Z,Z] rfl rfl ?_ ?_ ?_ ?_
    rotate_left
    · intro w'
      go_simp
      with_reducible rfl
    rotate_left
    · simp only [aP]
      rfl
    refine ta_ 3 17 ?_ #[J,J,J,J,J,Z,Z,Z,Z,Z,Z,Z,Z,Z,Z,Z,Z,Z,Z,Z,Z,Z] rfl rfl ?_ hHeld ?_ ?_ ?_
    rotate_left
    · rintro w' ⟨s0, s1, s2⟩
      go_simp
      with_reducible rfl
    rotate_left
    · simp only [aP]
      rfl
    refine one_ (i := 5) (N := some 19) #[J,J,J,J,J,J,Z,Z,Z,Z,Z,Z,Z,Z,Z,Z,Z,Z,Z,Z,Z,Z] rfl rfl (by kernel_rfl) (by decide) (fun K hK => ?_)
    refine goes_ Tryz.func65 (by kernel_rfl) rfl #[.pointer (some ⟨g, 0, none⟩)] (by rfl) rfl rfl (by simp only [List.map_toArray, List.map_cons, List.map_nil]; rfl) ?_
    with_reducible refine (len_ A0.out.at2).mono ?_
    rintro e w4 ⟨rfl, rfl⟩
    refine ⟨_, rfl, ?_⟩
    rw [HLN.out]
    refine hK.out _ _ ⟨(A0.out.cell 0).trans rfl, (A0.out.cell 1).trans rfl, (A0.out.cell 2).trans rfl⟩ (fun hHeld => ?_)
    clear hK K
    refine norm_ (a' := ?_) ?_ ?_
    rotate_left
    · show Act.put _ (some 19) _ = _
      simp only [aP]
      rfl
    refine last_ (i := 6) (N := some 20) #[J,J,J,J,J,J,J,Z,Z,Z,Z,Z,Z,Z,Z,Z,Z,Z,Z,Z,Z,Z] rfl rfl (by kernel_rfl) (by decide) (fun K hK => ?_)
    refine goes_ Tryz.func64 (by kernel_rfl) rfl #[.agg #[.int .i64 a, .int .i64 b, .int .u32 c], .int .i64 (n : Int)] (by rfl) rfl rfl (by simp only [List.map_toArray, List.map_cons, List.map_nil]; rfl) ?_
    with_reducible refine (right_ a b c (n : Int) _).mono ?_
    rintro e w5 ⟨rfl, hb5⟩
    refine ⟨_, rfl, ?_⟩
    rw [HRT.out]
    have A5 := Aside0.mk (A0.out.below hb5)
    clear hb5
    refine hK.out _ _ ?_
    clear hK K
    refine norm_ (a' := ?_) ?_ ?_
    rotate_left
    · show Act.put _ (some 20) _ = _
      simp only [aP]
      rfl
    refine pu_ 7 21 ?_ #[J,J,J,J,J,J,J,J,Z,Z,Z,Z,Z,Z,Z,Z,Z,Z,Z,Z,Z,Z] rfl rfl ?_ ?_ ?_ ?_
    rotate_left
    · intro w'
      go_simp
      with_reducible rfl
    rotate_left
    · simp only [aP]
      rfl
    refine pu_ 8 22 ?_ #[J,J,J,J,J,J,J,J,J,Z,Z,Z,Z,Z,Z,Z,Z,Z,Z,Z,Z,Z] rfl rfl ?_ ?_ ?_ ?_
    rotate_left
    · intro w'
      go_simp
      with_reducible rfl
    rotate_left
    · simp only [aP]
      rfl
    refine pu_ 9 23 ?_ #[J,J,J,J,J,J,J,J,J,J,Z,Z,Z,Z,Z,Z,Z,Z,Z,Z,Z,Z] rfl rfl ?_ ?_ ?_ ?_
    rotate_left
    · intro w'
      go_simp
      with_reducible rfl
    rotate_left
    · simp only [aP]
      rfl
    refine pure_ (i := 10) (N := some 24) (v := undef) (a' := ?_) #[J,J,J,J,J,J,J,J,J,J,J,Z,Z,Z,Z,Z,Z,Z,Z,Z,Z,Z] rfl rfl (by kernel_rfl) (fun _ _ _ h => h) (Or.inr ⟨by rfl, rfl⟩) ?_ ?_
    rotate_left
    · simp only [aP]
      rfl
    refine pure_ (i := 11) (N := some 25) (v := undef) (a' := ?_) #[J,J,J,J,J,J,J,J,J,J,J,J,Z,Z,Z,Z,Z,Z,Z,Z,Z,Z] rfl rfl (by kernel_rfl) (fun _ _ _ h => h) (Or.inr ⟨by rfl, rfl⟩) ?_ ?_
    rotate_left
    · simp only [aP]
      rfl
    refine pu_ 12 26 ?_ #[J,J,J,J,J,J,J,J,J,J,J,J,J,Z,Z,Z,Z,Z,Z,Z,Z,Z] rfl rfl ?_ ?_ ?_ ?_
    rotate_left
    · intro w'
      go_simp
      with_reducible rfl
    rotate_left
    · simp only [aP]
      rfl
    refine pu_ 13 27 ?_ #[J,J,J,J,J,J,J,J,J,J,J,J,J,J,Z,Z,Z,Z,Z,Z,Z,Z] rfl rfl ?_ ?_ ?_ ?_
    rotate_left
    · intro w'
      go_simp
      with_reducible rfl
    rotate_left
    · simp only [aP]
      rfl
    refine pure_ (i := 14) (N := some 28) (v := undef) (a' := ?_) #[J,J,J,J,J,J,J,J,J,J,J,J,J,J,J,Z,Z,Z,Z,Z,Z,Z] rfl rfl (by kernel_rfl) (fun _ _ _ h => h) (Or.inr ⟨by rfl, rfl⟩) ?_ ?_
    rotate_left
    · simp only [aP]
      rfl
    refine pure_ (i := 15) (N := some 29) (v := undef) (a' := ?_) #[J,J,J,J,J,J,J,J,J,J,J,J,J,J,J,J,Z,Z,Z,Z,Z,Z] rfl rfl (by kernel_rfl) (fun _ _ _ h => h) (Or.inr ⟨by rfl, rfl⟩) ?_ ?_
    rotate_left
    · simp only [aP]
      rfl
    refine pure_ (i := 16) (N := some 30) (v := undef) (a' := ?_) #[J,J,J,J,J,J,J,J,J,J,J,J,J,J,J,J,J,Z,Z,Z,Z,Z] rfl rfl (by kernel_rfl) (fun _ _ _ h => h) (Or.inr ⟨by rfl, rfl⟩) ?_ ?_
    rotate_left
    · simp only [aP]
      rfl
    refine pure_ (i := 17) (N := some 31) (v := undef) (a' := ?_) #[J,J,J,J,J,J,J,J,J,J,J,J,J,J,J,J,J,J,Z,Z,Z,Z] rfl rfl (by kernel_rfl) (fun _ _ _ h => h) (Or.inr ⟨by rfl, rfl⟩) ?_ ?_
    rotate_left
    · simp only [aP]
      rfl
    refine pure_ (i := 18) (N := some 32) (v := undef) (a' := ?_) #[J,J,J,J,J,J,J,J,J,J,J,J,J,J,J,J,J,J,J,Z,Z,Z] rfl rfl (by kernel_rfl) (fun _ _ _ h => h) (Or.inr ⟨by rfl, rfl⟩) ?_ ?_
    rotate_left
    · simp only [aP]
      rfl
    refine pure_ (i := 19) (N := some 33) (v := undef) (a' := ?_) #[J,J,J,J,J,J,J,J,J,J,J,J,J,J,J,J,J,J,J,J,Z,Z] rfl rfl (by kernel_rfl) (fun _ _ _ h => h) (Or.inr ⟨by rfl, rfl⟩) ?_ ?_
    rotate_left
    · simp only [aP]
      rfl
    refine pure_ (i := 20) (N := some 34) (v := undef) (a' := ?_) #[J,J,J,J,J,J,J,J,J,J,J,J,J,J,J,J,J,J,J,J,J,Z] rfl rfl (by kernel_rfl) (fun _ _ _ h => h) (Or.inr ⟨by rfl, rfl⟩) ?_ ?_
    rotate_left
    · simp only [aP]
      rfl
    refine pu_ 21 35 ?_ #[J,J,J,J,J,J,J,J,J,J,J,J,J,J,J,J,J,J,J,J,J,J] rfl rfl ?_ ?_ ?_ ?_
    rotate_left
    · intro w'
      go_simp
      with_reducible rfl
    rotate_left
    · simp only [aP]
      rfl
    refine done_ (by kernel_rfl) ?_
    go_wp2_with fail
    go_ret
    exact ⟨by rw [HV.out]; first | rfl | (simp; done), by rw [HRR.out]; exact A5.out.tail⟩
  | true =>
  have HRT := Aside0.mk hrt
  by_cases hneg : at_ < 0
  case pos =>
    have hd : decide (at_ < 0) = true := decide_eq_true hneg
    have HV : Aside0 (okA n a b c at_ m = false) := ⟨by unfold okA; rw [decide_eq_false (show ¬ 0 ≤ at_ by omega)]; simp⟩
    have HRR : Aside0 (appR n las wt a b c at_ xs = wt) := ⟨by unfold appR; rw [HXL.out, HV.out]; rfl⟩
    clear hrt hcp hno
    go_enter Tryz.func73, Tryz.ntmps73
    go_wp2_with fail
    refine start_ (n := 22) (S := fun w' => w'.cell? ⟨W.heap.size, 0, none⟩ = some (.int .i64 a) ∧ w'.cell? ⟨W.heap.size, 1, none⟩ = some (.int .i64 b) ∧ w'.cell? ⟨W.heap.size, 2, none⟩ = some (.int .u32 c)) (ds := []) #[Z,Z,Z,Z,Z,Z,Z,Z,Z,Z,Z,Z,Z,Z,Z,Z,Z,Z,Z,Z,Z,Z] (by kernel_rfl) rfl rfl ⟨(A0.out.cell 0).trans rfl, (A0.out.cell 1).trans rfl, (A0.out.cell 2).trans rfl⟩ (fun hHeld => ?_)
    refine pu_ 0 14 ?_ #[J,Z,Z,Z,Z,Z,Z,Z,Z,Z,Z,Z,Z,Z,Z,Z,Z,Z,Z,Z,Z,Z] rfl rfl ?_ ?_ ?_ ?_
    rotate_left
    · intro w'
      go_simp
      with_reducible rfl
    rotate_left
    · simp only [aP]
      rfl
    refine pu_ 1 15 ?_ #[J,J,Z,Z,Z,Z,Z,Z,Z,Z,Z,Z,Z,Z,Z,Z,Z,Z,Z,Z,Z,Z] rfl rfl ?_ ?_ ?_ ?_
    rotate_left
    · intro w'
      go_simp
      with_reducible rfl
    rotate_left
    · simp only [aP]
      rfl
    refine pu_ 2 16 ?_ #[J,J,J,Z,Z,Z,Z,Z,Z,Z,Z,Z,Z,Z,Z,Z,Z,Z,Z,Z,Z,Z] rfl rfl ?_ ?_ ?_ ?_
    rotate_left
    · intro w'
      go_simp
      with_reducible rfl
    rotate_left
    · simp only [aP]
      rfl
    refine pu_ 4 18 ?_ #[J,J,J,Z,J,Z,Z,Z,Z,Z,Z,Z,Z,Z,Z,Z,Z,Z,Z,Z,Z,Z] rfl rfl ?_ ?_ ?_ ?_
    rotate_left
    · intro w'
      go_simp
      with_reducible rfl
    rotate_left
    · simp only [aP]
      rfl
    refine ta_ 3 17 ?_ #[J,J,J,J,J,Z,Z,Z,Z,Z,Z,Z,Z,Z,Z,Z,Z,Z,Z,Z,Z,Z] rfl rfl ?_ hHeld ?_ ?_ ?_
    rotate_left
    · rintro w' ⟨s0, s1, s2⟩
      go_simp
      with_reducible rfl
    rotate_left
    · simp only [aP]
      rfl
    refine one_ (i := 5) (N := some 19) #[J,J,J,J,J,J,Z,Z,Z,Z,Z,Z,Z,Z,Z,Z,Z,Z,Z,Z,Z,Z] rfl rfl (by kernel_rfl) (by decide) (fun K hK => ?_)
    refine goes_ Tryz.func65 (by kernel_rfl) rfl #[.pointer (some ⟨g, 0, none⟩)] (by rfl) rfl rfl (by simp only [List.map_toArray, List.map_cons, List.map_nil]; rfl) ?_
    with_reducible refine (len_ A0.out.at2).mono ?_
    rintro e w4 ⟨rfl, rfl⟩
    refine ⟨_, rfl, ?_⟩
    rw [HLN.out]
    refine hK.out _ _ ⟨(A0.out.cell 0).trans rfl, (A0.out.cell 1).trans rfl, (A0.out.cell 2).trans rfl⟩ (fun hHeld => ?_)
    clear hK K
    refine norm_ (a' := ?_) ?_ ?_
    rotate_left
    · show Act.put _ (some 19) _ = _
      simp only [aP]
      rfl
    refine one_ (i := 6) (N := some 20) #[J,J,J,J,J,J,J,Z,Z,Z,Z,Z,Z,Z,Z,Z,Z,Z,Z,Z,Z,Z] rfl rfl (by kernel_rfl) (by decide) (fun K hK => ?_)
    refine goes_ Tryz.func64 (by kernel_rfl) rfl #[.agg #[.int .i64 a, .int .i64 b, .int .u32 c], .int .i64 (n : Int)] (by rfl) rfl rfl (by simp only [List.map_toArray, List.map_cons, List.map_nil]; rfl) ?_
    with_reducible refine (right_ a b c (n : Int) _).mono ?_
    rintro e w5 ⟨rfl, hb5⟩
    refine ⟨_, rfl, ?_⟩
    rw [HRT.out]
    have A5 := Aside0.mk (A0.out.below hb5)
    clear hb5
    refine hK.out _ _ ⟨(A5.out.cell 0).trans rfl, (A5.out.cell 1).trans rfl, (A5.out.cell 2).trans rfl⟩ (fun hHeld => ?_)
    clear hK K
    refine norm_ (a' := ?_) ?_ ?_
    rotate_left
    · show Act.put _ (some 20) _ = _
      simp only [aP]
      rfl
    refine pu_ 7 21 ?_ #[J,J,J,J,J,J,J,J,Z,Z,Z,Z,Z,Z,Z,Z,Z,Z,Z,Z,Z,Z] rfl rfl ?_ ?_ ?_ ?_
    rotate_left
    · intro w'
      go_simp
      with_reducible rfl
    rotate_left
    · simp only [aP]
      rfl
    refine pu_ 8 22 ?_ #[J,J,J,J,J,J,J,J,J,Z,Z,Z,Z,Z,Z,Z,Z,Z,Z,Z,Z,Z] rfl rfl ?_ ?_ ?_ ?_
    rotate_left
    · intro w'
      go_simp
      with_reducible rfl
    rotate_left
    · simp only [aP]
      rfl
    refine pu_ 9 23 ?_ #[J,J,J,J,J,J,J,J,J,J,Z,Z,Z,Z,Z,Z,Z,Z,Z,Z,Z,Z] rfl rfl ?_ ?_ ?_ ?_
    rotate_left
    · intro w'
      go_simp
      with_reducible rfl
    rotate_left
    · simp only [aP]
      rfl
    refine pu_ 10 24 ?_ #[J,J,J,J,J,J,J,J,J,J,J,Z,Z,Z,Z,Z,Z,Z,Z,Z,Z,Z] rfl rfl ?_ ?_ ?_ ?_
    rotate_left
    · intro w'
      go_simp
      with_reducible rfl
    rotate_left
    · simp only [aP]
      rfl
    refine pu_ 11 25 ?_ #[J,J,J,J,J,J,J,J,J,J,J,J,Z,Z,Z,Z,Z,Z,Z,Z,Z,Z] rfl rfl ?_ ?_ ?_ ?_
    rotate_left
    · intro w'
      go_simp
      with_reducible rfl
    rotate_left
    · simp only [aP]
      rfl
    refine pu_ 12 26 ?_ #[J,J,J,J,J,J,J,J,J,J,J,J,J,Z,Z,Z,Z,Z,Z,Z,Z,Z] rfl rfl ?_ ?_ ?_ ?_
    rotate_left
    · intro w'
      go_simp
      with_reducible rfl
    rotate_left
    · simp only [aP]
      rfl
    refine pu_ 13 27 ?_ #[J,J,J,J,J,J,J,J,J,J,J,J,J,J,Z,Z,Z,Z,Z,Z,Z,Z] rfl rfl ?_ ?_ ?_ ?_
    rotate_left
    · intro w'
      go_simp
      with_reducible rfl
    rotate_left
    · simp only [aP]
      rfl
    refine pure_ (i := 14) (N := some 28) (v := undef) (a' := ?_) #[J,J,J,J,J,J,J,J,J,J,J,J,J,J,J,Z,Z,Z,Z,Z,Z,Z] rfl rfl (by kernel_rfl) (fun _ _ _ h => h) (Or.inr ⟨by rfl, rfl⟩) ?_ ?_
    rotate_left
    · simp only [aP]
      rfl
    refine pure_ (i := 15) (N := some 29) (v := undef) (a' := ?_) #[J,J,J,J,J,J,J,J,J,J,J,J,J,J,J,J,Z,Z,Z,Z,Z,Z] rfl rfl (by kernel_rfl) (fun _ _ _ h => h) (Or.inr ⟨by rfl, rfl⟩) ?_ ?_
    rotate_left
    · simp only [aP]
      rfl
    refine pure_ (i := 16) (N := some 30) (v := undef) (a' := ?_) #[J,J,J,J,J,J,J,J,J,J,J,J,J,J,J,J,J,Z,Z,Z,Z,Z] rfl rfl (by kernel_rfl) (fun _ _ _ h => h) (Or.inr ⟨by rfl, rfl⟩) ?_ ?_
    rotate_left
    · simp only [aP]
      rfl
    refine pure_ (i := 17) (N := some 31) (v := undef) (a' := ?_) #[J,J,J,J,J,J,J,J,J,J,J,J,J,J,J,J,J,J,Z,Z,Z,Z] rfl rfl (by kernel_rfl) (fun _ _ _ h => h) (Or.inr ⟨by rfl, rfl⟩) ?_ ?_
    rotate_left
    · simp only [aP]
      rfl
    refine pure_ (i := 18) (N := some 32) (v := undef) (a' := ?_) #[J,J,J,J,J,J,J,J,J,J,J,J,J,J,J,J,J,J,J,Z,Z,Z] rfl rfl (by kernel_rfl) (fun _ _ _ h => h) (Or.inr ⟨by rfl, rfl⟩) ?_ ?_
    rotate_left
    · simp only [aP]
      rfl
    refine pure_ (i := 19) (N := some 33) (v := undef) (a' := ?_) #[J,J,J,J,J,J,J,J,J,J,J,J,J,J,J,J,J,J,J,J,Z,Z] rfl rfl (by kernel_rfl) (fun _ _ _ h => h) (Or.inr ⟨by rfl, rfl⟩) ?_ ?_
    rotate_left
    · simp only [aP]
      rfl
    refine pure_ (i := 20) (N := some 34) (v := undef) (a' := ?_) #[J,J,J,J,J,J,J,J,J,J,J,J,J,J,J,J,J,J,J,J,J,Z] rfl rfl (by kernel_rfl) (fun _ _ _ h => h) (Or.inr ⟨by rfl, rfl⟩) ?_ ?_
    rotate_left
    · simp only [aP]
      rfl
    refine pu_ 21 35 ?_ #[J,J,J,J,J,J,J,J,J,J,J,J,J,J,J,J,J,J,J,J,J,J] rfl rfl ?_ ?_ ?_ ?_
    rotate_left
    · intro w'
      go_simp
      with_reducible rfl
    rotate_left
    · simp only [aP]
      rfl
    refine done_ (by kernel_rfl) ?_
    go_wp2_with fail
    go_ret
    exact ⟨by rw [HV.out]; first | rfl | (simp; done), by rw [HRR.out]; exact A5.out.tail⟩
  case neg =>
  have hd : decide (at_ < 0) = false := decide_eq_false hneg
  by_cases hbig : sz - (m : Int) < at_
  case pos =>
    have hd2 : decide (sz - (m : Int) < at_) = true := decide_eq_true hbig
    have HV : Aside0 (okA n a b c at_ m = false) := ⟨by unfold okA; rw [HSZ.out, decide_eq_false (show ¬ at_ ≤ sz - (m : Int) by omega)]; simp⟩
    have HRR : Aside0 (appR n las wt a b c at_ xs = wt) := ⟨by unfold appR; rw [HXL.out, HV.out]; rfl⟩
    clear hrt hcp hno
    go_enter Tryz.func73, Tryz.ntmps73
    go_wp2_with fail
    refine start_ (n := 22) (S := fun w' => w'.cell? ⟨W.heap.size, 0, none⟩ = some (.int .i64 a) ∧ w'.cell? ⟨W.heap.size, 1, none⟩ = some (.int .i64 b) ∧ w'.cell? ⟨W.heap.size, 2, none⟩ = some (.int .u32 c)) (ds := [16]) #[Z,Z,Z,Z,Z,Z,Z,Z,Z,Z,Z,Z,Z,Z,Z,Z,Z,Z,Z,Z,Z,Z] (by kernel_rfl) rfl rfl ⟨(A0.out.cell 0).trans rfl, (A0.out.cell 1).trans rfl, (A0.out.cell 2).trans rfl⟩ (fun hHeld => ?_)
    refine pu_ 0 14 ?_ #[J,Z,Z,Z,Z,Z,Z,Z,Z,Z,Z,Z,Z,Z,Z,Z,Z,Z,Z,Z,Z,Z] rfl rfl ?_ ?_ ?_ ?_
    rotate_left
    · intro w'
      go_simp
      with_reducible rfl
    rotate_left
    · simp only [aP]
      rfl
    refine pu_ 1 15 ?_ #[J,J,Z,Z,Z,Z,Z,Z,Z,Z,Z,Z,Z,Z,Z,Z,Z,Z,Z,Z,Z,Z] rfl rfl ?_ ?_ ?_ ?_
    rotate_left
    · intro w'
      go_simp
      with_reducible rfl
    rotate_left
    · simp only [aP]
      rfl
    refine pu_ 2 16 ?_ #[J,J,J,Z,Z,Z,Z,Z,Z,Z,Z,Z,Z,Z,Z,Z,Z,Z,Z,Z,Z,Z] rfl rfl ?_ ?_ ?_ ?_
    rotate_left
    · intro w'
      go_simp
      with_reducible rfl
    rotate_left
    · simp only [aP]
      rfl
    refine pu_ 4 18 ?_ #[J,J,J,Z,J,Z,Z,Z,Z,Z,Z,Z,Z,Z,Z,Z,Z,Z,Z,Z,Z,Z] rfl rfl ?_ ?_ ?_ ?_
    rotate_left
    · intro w'
      go_simp
      with_reducible rfl
    rotate_left
    · simp only [aP]
      rfl
    refine ta_ 3 17 ?_ #[J,J,J,J,J,Z,Z,Z,Z,Z,Z,Z,Z,Z,Z,Z,Z,Z,Z,Z,Z,Z] rfl rfl ?_ hHeld ?_ ?_ ?_
    rotate_left
    · rintro w' ⟨s0, s1, s2⟩
      go_simp
      with_reducible rfl
    rotate_left
    · simp only [aP]
      rfl
    refine one_ (i := 5) (N := some 19) #[J,J,J,J,J,J,Z,Z,Z,Z,Z,Z,Z,Z,Z,Z,Z,Z,Z,Z,Z,Z] rfl rfl (by kernel_rfl) (by decide) (fun K hK => ?_)
    refine goes_ Tryz.func65 (by kernel_rfl) rfl #[.pointer (some ⟨g, 0, none⟩)] (by rfl) rfl rfl (by simp only [List.map_toArray, List.map_cons, List.map_nil]; rfl) ?_
    with_reducible refine (len_ A0.out.at2).mono ?_
    rintro e w4 ⟨rfl, rfl⟩
    refine ⟨_, rfl, ?_⟩
    rw [HLN.out]
    refine hK.out _ _ ⟨(A0.out.cell 0).trans rfl, (A0.out.cell 1).trans rfl, (A0.out.cell 2).trans rfl⟩ (fun hHeld => ?_)
    clear hK K
    refine norm_ (a' := ?_) ?_ ?_
    rotate_left
    · show Act.put _ (some 19) _ = _
      simp only [aP]
      rfl
    refine one_ (i := 6) (N := some 20) #[J,J,J,J,J,J,J,Z,Z,Z,Z,Z,Z,Z,Z,Z,Z,Z,Z,Z,Z,Z] rfl rfl (by kernel_rfl) (by decide) (fun K hK => ?_)
    refine goes_ Tryz.func64 (by kernel_rfl) rfl #[.agg #[.int .i64 a, .int .i64 b, .int .u32 c], .int .i64 (n : Int)] (by rfl) rfl rfl (by simp only [List.map_toArray, List.map_cons, List.map_nil]; rfl) ?_
    with_reducible refine (right_ a b c (n : Int) _).mono ?_
    rintro e w5 ⟨rfl, hb5⟩
    refine ⟨_, rfl, ?_⟩
    rw [HRT.out]
    have A5 := Aside0.mk (A0.out.below hb5)
    clear hb5
    refine hK.out _ _ ⟨(A5.out.cell 0).trans rfl, (A5.out.cell 1).trans rfl, (A5.out.cell 2).trans rfl⟩ (fun hHeld => ?_)
    clear hK K
    refine norm_ (a' := ?_) ?_ ?_
    rotate_left
    · show Act.put _ (some 20) _ = _
      simp only [aP]
      rfl
    refine pu_ 7 21 ?_ #[J,J,J,J,J,J,J,J,Z,Z,Z,Z,Z,Z,Z,Z,Z,Z,Z,Z,Z,Z] rfl rfl ?_ ?_ ?_ ?_
    rotate_left
    · intro w'
      go_simp
      with_reducible rfl
    rotate_left
    · simp only [aP]
      rfl
    refine pu_ 8 22 ?_ #[J,J,J,J,J,J,J,J,J,Z,Z,Z,Z,Z,Z,Z,Z,Z,Z,Z,Z,Z] rfl rfl ?_ ?_ ?_ ?_
    rotate_left
    · intro w'
      go_simp
      with_reducible rfl
    rotate_left
    · simp only [aP]
      rfl
    refine pu_ 9 23 ?_ #[J,J,J,J,J,J,J,J,J,J,Z,Z,Z,Z,Z,Z,Z,Z,Z,Z,Z,Z] rfl rfl ?_ ?_ ?_ ?_
    rotate_left
    · intro w'
      go_simp
      with_reducible rfl
    rotate_left
    · simp only [aP]
      rfl
    refine pu_ 10 24 ?_ #[J,J,J,J,J,J,J,J,J,J,J,Z,Z,Z,Z,Z,Z,Z,Z,Z,Z,Z] rfl rfl ?_ ?_ ?_ ?_
    rotate_left
    · intro w'
      go_simp
      with_reducible rfl
    rotate_left
    · simp only [aP]
      rfl
    refine pu_ 11 25 ?_ #[J,J,J,J,J,J,J,J,J,J,J,J,Z,Z,Z,Z,Z,Z,Z,Z,Z,Z] rfl rfl ?_ ?_ ?_ ?_
    rotate_left
    · intro w'
      go_simp
      with_reducible rfl
    rotate_left
    · simp only [aP]
      rfl
    refine pu_ 12 26 ?_ #[J,J,J,J,J,J,J,J,J,J,J,J,J,Z,Z,Z,Z,Z,Z,Z,Z,Z] rfl rfl ?_ ?_ ?_ ?_
    rotate_left
    · intro w'
      go_simp
      with_reducible rfl
    rotate_left
    · simp only [aP]
      rfl
    refine pu_ 13 27 ?_ #[J,J,J,J,J,J,J,J,J,J,J,J,J,J,Z,Z,Z,Z,Z,Z,Z,Z] rfl rfl ?_ ?_ ?_ ?_
    rotate_left
    · intro w'
      go_simp
      with_reducible rfl
    rotate_left
    · simp only [aP]
      rfl
    refine pu_ 14 28 ?_ #[J,J,J,J,J,J,J,J,J,J,J,J,J,J,J,Z,Z,Z,Z,Z,Z,Z] rfl rfl ?_ ?_ ?_ ?_
    rotate_left
    · intro w'
      go_simp
      with_reducible rfl
    rotate_left
    · simp only [aP]
      rfl
    refine pu_ 17 31 ?_ #[J,J,J,J,J,J,J,J,J,J,J,J,J,J,J,Z,Z,J,Z,Z,Z,Z] rfl rfl ?_ ?_ ?_ ?_
    rotate_left
    · intro w'
      go_simp
      with_reducible rfl
    rotate_left
    · simp only [aP]
      rfl
    refine pu_ 18 32 ?_ #[J,J,J,J,J,J,J,J,J,J,J,J,J,J,J,Z,Z,J,J,Z,Z,Z] rfl rfl ?_ ?_ ?_ ?_
    rotate_left
    · intro w'
      go_simp
      with_reducible rfl
    rotate_left
    · simp only [aP]
      rfl
    refine ta_ 15 29 ?_ #[J,J,J,J,J,J,J,J,J,J,J,J,J,J,J,J,Z,J,J,Z,Z,Z] rfl rfl ?_ hHeld ?_ ?_ ?_
    rotate_left
    · rintro w' ⟨s0, s1, s2⟩
      go_simp
      with_reducible rfl
    rotate_left
    · simp only [aP]
      rfl
    refine last_ (i := 16) (N := some 30) #[J,J,J,J,J,J,J,J,J,J,J,J,J,J,J,J,J,J,J,Z,Z,Z] rfl rfl (by kernel_rfl) (by decide) (fun K hK => ?_)
    refine goes_ Tryz.func107 (by kernel_rfl) rfl #[.agg #[.int .i64 a, .int .i64 b, .int .u32 c]] (by rfl) rfl rfl (by simp only [List.map_toArray, List.map_cons, List.map_nil]; rfl) ?_
    with_reducible refine (size_ a b c _).mono ?_
    rintro e w6 ⟨rfl, hb6⟩
    refine ⟨_, rfl, ?_⟩
    rw [HSZ.out]
    have A6 := Aside0.mk (A5.out.below hb6)
    clear hb6
    refine hK.out _ _ ?_
    clear hK K
    refine norm_ (a' := ?_) ?_ ?_
    rotate_left
    · show Act.put _ (some 30) _ = _
      simp only [aP]
      rfl
    refine pu_ 19 33 ?_ #[J,J,J,J,J,J,J,J,J,J,J,J,J,J,J,J,J,J,J,J,Z,Z] rfl rfl ?_ ?_ ?_ ?_
    rotate_left
    · intro w'
      go_simp
      with_reducible rfl
    rotate_left
    · simp only [aP]
      rfl
    refine pu_ 20 34 ?_ #[J,J,J,J,J,J,J,J,J,J,J,J,J,J,J,J,J,J,J,J,J,Z] rfl rfl ?_ ?_ ?_ ?_
    rotate_left
    · intro w'
      go_simp
      with_reducible rfl
    rotate_left
    · simp only [aP]
      rfl
    refine pu_ 21 35 ?_ #[J,J,J,J,J,J,J,J,J,J,J,J,J,J,J,J,J,J,J,J,J,J] rfl rfl ?_ ?_ ?_ ?_
    rotate_left
    · intro w'
      go_simp
      with_reducible rfl
    rotate_left
    · simp only [aP]
      rfl
    refine done_ (by kernel_rfl) ?_
    go_wp2_with fail
    go_ret
    exact ⟨by rw [HV.out]; first | rfl | (simp; done), by rw [HRR.out]; exact A6.out.tail⟩
  case neg =>
    exfalso
    have : okA n a b c at_ m = true := by unfold okA; rw [hrt, HSZ.out, decide_eq_true (show 0 ≤ at_ by omega), decide_eq_true (show at_ ≤ sz - (m : Int) by omega)]; rfl
    rw [hno] at this
    cases this
end
end Go.Proofs.YtjngnigelkgekaaGreat.Redo
namespace Go.Proofs.YtjngnigelkgekaaGreat.Redo
open Go.RowKit Go.Proofs.YtjngnigelkgekaaGreatW.PrintWords Go.Proofs.YtjngnigelkgekaaGreatW.PrintLast Go.Proofs.YtjngnigelkgekaaGreatW.PrintMore Go.Proofs.YtjngnigelkgekaaGreat.Kit Go.Proofs.YtjngnigelkgekaaGreat.Plain Go.Proofs.YtjngnigelkgekaaGreat.Disk Go.Proofs.YtjngnigelkgekaaGreat.Root
theorem ar5 {p t kk m r q c' : Nat} (h1 : p + t = q) (h2 : m - t = r) (h3 : t ≤ m) (h4 : r ≤ c') (h5 : kk ≤ r) : ((p + (t + kk) : Nat) : Int) = (q : Int) + (kk : Int) ∧ m - (t + kk) = r - kk ∧ p + (t + kk) = q + kk ∧ t + kk + (m - t - kk) = m ∧ r - kk ≤ c' - kk := ⟨by omega, by omega, by omega, by omega, by omega⟩
theorem fit6 {i n len : Nat} (h : len = 64 * n) (hi : i < n) : 64 * (i + 1) ≤ len := by omega
theorem min3 {r f kk N : Nat} (h : min r N = kk) (hN : 64 - f = N) (hr : 0 < r) (hf : f < 64) : 1 ≤ kk ∧ kk ≤ r ∧ kk ≤ 64 ∧ f + N ≤ 64 := by omega
theorem fit7 {f N L : Nat} (h : f + N ≤ 64) : f + min N L ≤ 64 := Nat.le_trans (Nat.add_le_add_left (Nat.min_le_left _ _) _) h
theorem tk7 {xs : List Int} {r N kk : Nat} (h : min r N = kk) (hl : xs.length = r) : xs.take N = xs.take kk := by
  by_cases hle : r ≤ N
  · rw [List.take_of_length_le (by omega), List.take_of_length_le (by omega)]
  · rw [show kk = N by omega]
theorem wq2 {q kk : Nat} (h : q ≤ 4096) (h2 : kk ≤ 64) : wrap64 ((q : Int) + (kk : Int)) = (q : Int) + (kk : Int) ∧ IntKind.i64.wrap ((q : Int) + (kk : Int)) = (q : Int) + (kk : Int) := ⟨IntWalk.wrap64_in _ (by omega), by rw [IntKind.wrap_i64]; omega⟩
section
variable {w0 W : World} {F : List HP} {g n : Nat} {las : List Int} {wt : Wt}
set_option maxHeartbeats 1600000 in
set_option maxRecDepth 100000 in
theorem append_yes (h : Sep w0 W (Dsk g las wt :: F)) (hl : las.length = 64 * n) (hn : n ≤ 160) (hw : ∀ i b, wt i = some b → b.length = 64) (a b c at_ : Int) (hat : -9223372036854775808 ≤ at_ ∧ at_ ≤ 9223372036854775807) {A : Option Addr} {m cp : Nat} {xs : List Int} (hx : ∀ W', Sep w0 W' F → U8.C W' A m xs) (hcp : m ≤ cp) (hyes : okA n a b c at_ m = true) :
    Calls Tryz.prog 73 #[.pointer (some ⟨g, 0, none⟩), .agg #[.int .i64 a, .int .i64 b, .int .u32 c], .int .i64 at_, .slice A m cp] W fun e w' => e = .returned (.bool (okA n a b c at_ m)) ∧ Sep w0 w' (Dsk g las (appR n las wt a b c at_ xs) :: F) := by
  have A0 := Aside0.mk (h.newBlk 80 #[.int .i64 a, .int .i64 b, .int .u32 c]).drew
  have HLN : Aside0 ((las.length : Int) / 64 = (n : Int)) := ⟨by omega⟩
  have hxl := (hx W h.tail).1
  have hm : m ≤ 9223372036854775807 := (hx W h.tail).2.1
  have HL := Aside0.mk (And.intro hl (And.intro hn hw))
  have HX := Aside0.mk (And.intro hx hcp)
  have HXL := Aside0.mk hxl
  obtain ⟨sz, hsz⟩ : ∃ s, sizeF a = s := ⟨_, rfl⟩
  have hs0 := sizeF_in a
  rw [hsz] at hs0
  have HSZ := Aside0.mk hsz
  have hws : wrap64 (sz - (m : Int)) = sz - (m : Int) := IntWalk.wrap64_in _ (by omega)
  have hws2 : IntKind.i64.wrap (sz - (m : Int)) = sz - (m : Int) := by rw [IntKind.wrap_i64]; omega
  clear h hl hn hw hx hxl hsz
  have HV := Aside0.mk hyes
  have hoi0 := ok_in hyes
  have hrt : rightR a b c n = true := by
    have h := hyes
    unfold okA at h
    simp only [Bool.and_eq_true] at h
    exact h.1
  have HRT := Aside0.mk hrt
  have hneg : ¬ at_ < 0 := by omega
  have hd : decide (at_ < 0) = false := decide_eq_false hneg
  have hbig : ¬ sz - (m : Int) < at_ := by
    have h : sz = 64 * a := by have h1 := HSZ.out; unfold sizeF at h1; rw [if_neg (by omega)] at h1; omega
    omega
  have hd2 : decide (sz - (m : Int) < at_) = false := decide_eq_false hbig
  have HRR : Aside0 (appR n las wt a b c at_ xs = appW las wt at_.toNat xs) := ⟨by unfold appR; rw [HXL.out, HV.out]; rfl⟩
  have hoi := ok_in HV.out
  have HOI := Aside0.mk hoi
  clear hrt hcp hyes hoi0
  go_enter Tryz.func73, Tryz.ntmps73
  go_wp2_with fail
  refine start_ (n := 22) (S := fun w' => w'.cell? ⟨W.heap.size, 0, none⟩ = some (.int .i64 a) ∧ w'.cell? ⟨W.heap.size, 1, none⟩ = some (.int .i64 b) ∧ w'.cell? ⟨W.heap.size, 2, none⟩ = some (.int .u32 c)) (ds := [16]) #[fF,fF,fF,fF,fF,fF,fF,fF,fF,fF,fF,fF,fF,fF,fF,fF,fF,fF,fF,fF,fF,fF] (by kernel_rfl) rfl rfl ⟨(A0.out.cell 0).trans rfl, (A0.out.cell 1).trans rfl, (A0.out.cell 2).trans rfl⟩ (fun hHeld => ?_)
  refine pu_ 0 14 ?_ #[tT,fF,fF,fF,fF,fF,fF,fF,fF,fF,fF,fF,fF,fF,fF,fF,fF,fF,fF,fF,fF,fF] rfl rfl ?_ ?_ ?_ ?_
  rotate_left
  · intro w'
    go_simp
    with_reducible rfl
  rotate_left
  · simp only [aP]
    rfl
  refine pu_ 1 15 ?_ #[tT,tT,fF,fF,fF,fF,fF,fF,fF,fF,fF,fF,fF,fF,fF,fF,fF,fF,fF,fF,fF,fF] rfl rfl ?_ ?_ ?_ ?_
  rotate_left
  · intro w'
    go_simp
    with_reducible rfl
  rotate_left
  · simp only [aP]
    rfl
  refine pu_ 2 16 ?_ #[tT,tT,tT,fF,fF,fF,fF,fF,fF,fF,fF,fF,fF,fF,fF,fF,fF,fF,fF,fF,fF,fF] rfl rfl ?_ ?_ ?_ ?_
  rotate_left
  · intro w'
    go_simp
    with_reducible rfl
  rotate_left
  · simp only [aP]
    rfl
  refine pu_ 4 18 ?_ #[tT,tT,tT,fF,tT,fF,fF,fF,fF,fF,fF,fF,fF,fF,fF,fF,fF,fF,fF,fF,fF,fF] rfl rfl ?_ ?_ ?_ ?_
  rotate_left
  · intro w'
    go_simp
    with_reducible rfl
  rotate_left
  · simp only [aP]
    rfl
  refine ta_ 3 17 ?_ #[tT,tT,tT,tT,tT,fF,fF,fF,fF,fF,fF,fF,fF,fF,fF,fF,fF,fF,fF,fF,fF,fF] rfl rfl ?_ hHeld ?_ ?_ ?_
  rotate_left
  · rintro w' ⟨s0, s1, s2⟩
    go_simp
    with_reducible rfl
  rotate_left
  · simp only [aP]
    rfl
  refine one_ (i := 5) (N := some 19) #[tT,tT,tT,tT,tT,tT,fF,fF,fF,fF,fF,fF,fF,fF,fF,fF,fF,fF,fF,fF,fF,fF] rfl rfl (by kernel_rfl) (by decide) (fun K hK => ?_)
  refine goes_ Tryz.func65 (by kernel_rfl) rfl #[.pointer (some ⟨g, 0, none⟩)] (by rfl) rfl rfl (by simp only [List.map_toArray, List.map_cons, List.map_nil]; rfl) ?_
  with_reducible refine (len_ A0.out.at2).mono ?_
  rintro e w4 ⟨rfl, rfl⟩
  refine ⟨_, rfl, ?_⟩
  rw [HLN.out]
  refine hK.out _ _ ⟨(A0.out.cell 0).trans rfl, (A0.out.cell 1).trans rfl, (A0.out.cell 2).trans rfl⟩ (fun hHeld => ?_)
  clear hK K
  refine norm_ (a' := ?_) ?_ ?_
  rotate_left
  · show Act.put _ (some 19) _ = _
    simp only [aP]
    rfl
  refine one_ (i := 6) (N := some 20) #[tT,tT,tT,tT,tT,tT,tT,fF,fF,fF,fF,fF,fF,fF,fF,fF,fF,fF,fF,fF,fF,fF] rfl rfl (by kernel_rfl) (by decide) (fun K hK => ?_)
  refine goes_ Tryz.func64 (by kernel_rfl) rfl #[.agg #[.int .i64 a, .int .i64 b, .int .u32 c], .int .i64 (n : Int)] (by rfl) rfl rfl (by simp only [List.map_toArray, List.map_cons, List.map_nil]; rfl) ?_
  with_reducible refine (right_ a b c (n : Int) _).mono ?_
  rintro e w5 ⟨rfl, hb5⟩
  refine ⟨_, rfl, ?_⟩
  rw [HRT.out]
  have A5 := Aside0.mk (A0.out.below hb5)
  clear hb5
  refine hK.out _ _ ⟨(A5.out.cell 0).trans rfl, (A5.out.cell 1).trans rfl, (A5.out.cell 2).trans rfl⟩ (fun hHeld => ?_)
  clear hK K
  refine norm_ (a' := ?_) ?_ ?_
  rotate_left
  · show Act.put _ (some 20) _ = _
    simp only [aP]
    rfl
  refine pu_ 7 21 ?_ #[tT,tT,tT,tT,tT,tT,tT,tT,fF,fF,fF,fF,fF,fF,fF,fF,fF,fF,fF,fF,fF,fF] rfl rfl ?_ ?_ ?_ ?_
  rotate_left
  · intro w'
    go_simp
    with_reducible rfl
  rotate_left
  · simp only [aP]
    rfl
  refine pu_ 8 22 ?_ #[tT,tT,tT,tT,tT,tT,tT,tT,tT,fF,fF,fF,fF,fF,fF,fF,fF,fF,fF,fF,fF,fF] rfl rfl ?_ ?_ ?_ ?_
  rotate_left
  · intro w'
    go_simp
    with_reducible rfl
  rotate_left
  · simp only [aP]
    rfl
  refine pu_ 9 23 ?_ #[tT,tT,tT,tT,tT,tT,tT,tT,tT,tT,fF,fF,fF,fF,fF,fF,fF,fF,fF,fF,fF,fF] rfl rfl ?_ ?_ ?_ ?_
  rotate_left
  · intro w'
    go_simp
    with_reducible rfl
  rotate_left
  · simp only [aP]
    rfl
  refine pu_ 10 24 ?_ #[tT,tT,tT,tT,tT,tT,tT,tT,tT,tT,tT,fF,fF,fF,fF,fF,fF,fF,fF,fF,fF,fF] rfl rfl ?_ ?_ ?_ ?_
  rotate_left
  · intro w'
    go_simp
    with_reducible rfl
  rotate_left
  · simp only [aP]
    rfl
  refine pu_ 11 25 ?_ #[tT,tT,tT,tT,tT,tT,tT,tT,tT,tT,tT,tT,fF,fF,fF,fF,fF,fF,fF,fF,fF,fF] rfl rfl ?_ ?_ ?_ ?_
  rotate_left
  · intro w'
    go_simp
    with_reducible rfl
  rotate_left
  · simp only [aP]
    rfl
  refine pu_ 12 26 ?_ #[tT,tT,tT,tT,tT,tT,tT,tT,tT,tT,tT,tT,tT,fF,fF,fF,fF,fF,fF,fF,fF,fF] rfl rfl ?_ ?_ ?_ ?_
  rotate_left
  · intro w'
    go_simp
    with_reducible rfl
  rotate_left
  · simp only [aP]
    rfl
  refine pu_ 13 27 ?_ #[tT,tT,tT,tT,tT,tT,tT,tT,tT,tT,tT,tT,tT,tT,fF,fF,fF,fF,fF,fF,fF,fF] rfl rfl ?_ ?_ ?_ ?_
  rotate_left
  · intro w'
    go_simp
    with_reducible rfl
  rotate_left
  · simp only [aP]
    rfl
  refine pu_ 14 28 ?_ #[tT,tT,tT,tT,tT,tT,tT,tT,tT,tT,tT,tT,tT,tT,tT,fF,fF,fF,fF,fF,fF,fF] rfl rfl ?_ ?_ ?_ ?_
  rotate_left
  · intro w'
    go_simp
    with_reducible rfl
  rotate_left
  · simp only [aP]
    rfl
  refine pu_ 17 31 ?_ #[tT,tT,tT,tT,tT,tT,tT,tT,tT,tT,tT,tT,tT,tT,tT,fF,fF,tT,fF,fF,fF,fF] rfl rfl ?_ ?_ ?_ ?_
  rotate_left
  · intro w'
    go_simp
    with_reducible rfl
  rotate_left
  · simp only [aP]
    rfl
  refine pu_ 18 32 ?_ #[tT,tT,tT,tT,tT,tT,tT,tT,tT,tT,tT,tT,tT,tT,tT,fF,fF,tT,tT,fF,fF,fF] rfl rfl ?_ ?_ ?_ ?_
  rotate_left
  · intro w'
    go_simp
    with_reducible rfl
  rotate_left
  · simp only [aP]
    rfl
  refine ta_ 15 29 ?_ #[tT,tT,tT,tT,tT,tT,tT,tT,tT,tT,tT,tT,tT,tT,tT,tT,fF,tT,tT,fF,fF,fF] rfl rfl ?_ hHeld ?_ ?_ ?_
  rotate_left
  · rintro w' ⟨s0, s1, s2⟩
    go_simp
    with_reducible rfl
  rotate_left
  · simp only [aP]
    rfl
  refine last_ (i := 16) (N := some 30) #[tT,tT,tT,tT,tT,tT,tT,tT,tT,tT,tT,tT,tT,tT,tT,tT,tT,tT,tT,fF,fF,fF] rfl rfl (by kernel_rfl) (by decide) (fun K hK => ?_)
  refine goes_ Tryz.func107 (by kernel_rfl) rfl #[.agg #[.int .i64 a, .int .i64 b, .int .u32 c]] (by rfl) rfl rfl (by simp only [List.map_toArray, List.map_cons, List.map_nil]; rfl) ?_
  with_reducible refine (size_ a b c _).mono ?_
  rintro e w6 ⟨rfl, hb6⟩
  refine ⟨_, rfl, ?_⟩
  rw [HSZ.out]
  have A6 := Aside0.mk (A5.out.below hb6)
  clear hb6
  refine hK.out _ _ ?_
  clear hK K
  refine norm_ (a' := ?_) ?_ ?_
  rotate_left
  · show Act.put _ (some 30) _ = _
    simp only [aP]
    rfl
  refine pu_ 19 33 ?_ #[tT,tT,tT,tT,tT,tT,tT,tT,tT,tT,tT,tT,tT,tT,tT,tT,tT,tT,tT,tT,fF,fF] rfl rfl ?_ ?_ ?_ ?_
  rotate_left
  · intro w'
    go_simp
    with_reducible rfl
  rotate_left
  · simp only [aP]
    rfl
  refine pu_ 20 34 ?_ #[tT,tT,tT,tT,tT,tT,tT,tT,tT,tT,tT,tT,tT,tT,tT,tT,tT,tT,tT,tT,tT,fF] rfl rfl ?_ ?_ ?_ ?_
  rotate_left
  · intro w'
    go_simp
    with_reducible rfl
  rotate_left
  · simp only [aP]
    rfl
  refine pu_ 21 35 ?_ #[tT,tT,tT,tT,tT,tT,tT,tT,tT,tT,tT,tT,tT,tT,tT,tT,tT,tT,tT,tT,tT,tT] rfl rfl ?_ ?_ ?_ ?_
  rotate_left
  · intro w'
    go_simp
    with_reducible rfl
  rotate_left
  · simp only [aP]
    rfl
  refine done_ (by kernel_rfl) ?_
  obtain ⟨p, rfl⟩ := Int.eq_ofNat_of_zero_le (show 0 ≤ at_ by omega)
  have A7 := Aside0.mk A6.out.tail
  have HP0 : Aside0 (p + m ≤ 4096 ∧ 128 + p + m ≤ 64 * n) := ⟨by omega⟩
  clear hd hd2 hneg hbig hat hoi hws hws2 hs0
  go_wp2_with fail
  go_loopg [2, 3] m (fun k_ s v wr => ∃ (t : Nat) (A' : Option Addr) (c' : Nat) (wt' : Wt), s = .int .i64 ((p + t : Nat) : Int) ∧ v = .slice A' (m - t) c' ∧ t + k_ = m ∧ m - t ≤ c' ∧ (∀ W', Sep w0 W' F → U8.C W' A' (m - t) (xs.drop t)) ∧ (∀ i b, wt' i = some b → b.length = 64) ∧ appW las wt' (p + t) (xs.drop t) = appW las wt p xs ∧ Sep w0 wr (Dsk g las wt' :: F))
  case atStart => exact ⟨0, A, cp, wt, rfl, rfl, by omega, HX.out.2, HX.out.1, HL.out.2.2, rfl, A7.out⟩
  case round =>
    obtain ⟨t, A', c', wt', rfl, rfl, htk, hc', hC', hw', hap, hS⟩ := hrel
    have AK := Aside0.mk htk
    have AS := Aside0.mk hS
    have HC' := Aside0.mk (And.intro hC' (And.intro hw' (And.intro hap hc')))
    obtain ⟨r, hr⟩ : ∃ r, m - t = r := ⟨_, rfl⟩
    rw [hr] at HC' hc' ⊢
    have HR := Aside0.mk hr
    have hr0 : r ≤ 4096 := by have := HP0.out; omega
    by_cases h0 : r = 0
    case pos =>
      subst h0
      have HF : Aside0 (wt' = appW las wt p xs) := ⟨by
        have h := HC'.out.2.2.1
        rw [List.drop_of_length_le (by rw [HXL.out]; omega), appW_nil] at h
        exact h⟩
      clear hS hC' hw' hap htk hr
      go_wp2_with fail
      go_ret
      exact ⟨by rw [HV.out]; first | rfl | (simp; done), by rw [HRR.out, Int.toNat_natCast, ← HF.out]; exact AS.out⟩
    case neg =>
    have hr1 : 0 < r := by omega
    have hr1i : (0 : Int) < (r : Int) := by omega
    obtain ⟨q, hq⟩ : ∃ q, p + t = q := ⟨_, rfl⟩
    rw [hq] at HC' ⊢
    have HQ := Aside0.mk hq
    have HQB : Aside0 (128 + q + r ≤ 64 * n ∧ q ≤ 4096) := ⟨by have := HP0.out; omega⟩
    have hq0 : q ≤ 4096 := HQB.out.2
    obtain ⟨i, hi⟩ : ∃ i, 2 + q / 64 = i := ⟨_, rfl⟩
    obtain ⟨f, hf⟩ : ∃ f, q % 64 = f := ⟨_, rfl⟩
    have hf64 : f < 64 := by omega
    have hin : i < n := by have := HQB.out; omega
    have HI := Aside0.mk (And.intro hi (And.intro hf hin))
    have e1 : (q : Int).tdiv 64 = ((q / 64 : Nat) : Int) := by rw [Int.tdiv_eq_ediv_of_nonneg (by omega)]; omega
    have e2 : (q : Int).tmod 64 = (f : Int) := by rw [Int.tmod_eq_emod_of_nonneg (by omega)]; omega
    have e3 : (q : Int) % 64 = (f : Int) := by omega
    have e4 : (2 : Int) + (q : Int) / 64 = (i : Int) := by omega
    have e5 : (2 : Int) + ((q / 64 : Nat) : Int) = (i : Int) := by omega
    have HSL : Aside0 ((secF n las wt' i).length = 64) := ⟨by rw [secF_len HL.out.1 HC'.out.2.1, if_pos hin]⟩
    clear hS hC' hw' hap htk hr hq hi hf hin
    go_wp2_with fail
    refine (read_in AS.out i (fit6 HL.out.1 HI.out.2.2)).mono ?_
    rintro e w3 ⟨v3, rfl, hS3⟩
    have hsf : (wt' i).getD (sec las i) = secF n las wt' i := by unfold secF; rw [if_pos HI.out.2.2]
    rw [hsf] at hS3
    obtain ⟨gx, cx, rfl⟩ := hS3.rowFormN HSL.out (by decide)
    have hcx := hS3.rowC.2.1
    have hcut := Ref.cutF_ (g := gx) (N := 64) (c := cx) (j := f) (J := (f : Int)) rfl hf64 hcx
    obtain ⟨N, hN⟩ : ∃ N, 64 - f = N := ⟨_, rfl⟩
    obtain ⟨CX, hCX⟩ : ∃ N, cx - f = N := ⟨_, rfl⟩
    rw [hN, hCX] at hcut
    have HN := Aside0.mk hN
    have B3 := Aside0.mk hS3
    have HCB := Aside0.mk (HC'.out.1 _ hS3.tail.tail)
    obtain ⟨kk, hkk⟩ : ∃ kk, min r N = kk := ⟨_, rfl⟩
    have HKK := Aside0.mk hkk
    obtain ⟨hk1, hkr, hk64, hfN⟩ := min3 hkk hN hr1 hf64
    have HFN := Aside0.mk hfN
    obtain ⟨hwq, hwq2⟩ := wq2 hq0 hk64
    have htm : t ≤ m := by have h := AK.out; exact h ▸ Nat.le_add_right _ _
    have HAR := Aside0.mk (ar5 HQ.out HR.out htm hc' hkr)
    clear htm
    clear hS3 hsf hkk hN hCX hfN
    go_wp2_with (first | (refine gate_builtin (b := .copy) (xs := #[.tmp 52, .tmp 53]) rfl ?_; refine B3.out.copyRow rfl (.tmp 52) (.tmp 53) rfl Tryz.underlying24 size1 (o := f) (n' := N) (c' := CX) (m := r) (c := c') (A := A') (ys := xs.drop t) rfl rfl HCB.out HFN.out ?_; intro W4 hS4; rw [HKK.out]; have B4 : Aside0 (Sep w0 W4 (Dsk g las wt' :: Row U8 5 (.slice (some ⟨gx, 0, none⟩) 64 cx) (over (secF n las wt' i) f ((xs.drop t).take N)) :: F)) := ⟨hS4.at2⟩; clear hS4))
    have HXX : Aside0 ((over (secF n las wt' i) f ((xs.drop t).take N)).length = 64) := ⟨by rw [over_len (by rw [HSL.out, List.length_take]; exact fit7 HFN.out), HSL.out]⟩
    have hrl : (xs.drop t).length = r := by rw [List.length_drop, HXL.out]; exact HR.out
    have HST : Aside0 (appW las (putW n wt' i (over (secF n las wt' i) f ((xs.drop t).take N))) (q + kk) (xs.drop (t + kk)) = appW las wt p xs) := ⟨by
      have h := appW_step (n := n) (at_ := q) (las := las) (b := xs.drop t) (wt := wt') HL.out.1 HC'.out.2.1 (fun h => by rw [h] at hrl; simp at hrl; omega) (by rw [hrl]; exact HQB.out.1) (k := kk) (by rw [hrl, HI.out.2.1, HN.out, Nat.min_comm]; exact HKK.out.symm)
      rw [HI.out.1, HI.out.2.1, List.drop_drop] at h
      have htk : (xs.drop t).take N = (xs.drop t).take kk := tk7 HKK.out hrl
      rw [htk]
      exact h.trans HC'.out.2.2.1⟩
    have HLW := Aside0.mk (putW_len (n := n) (i := i) (b := over (secF n las wt' i) f ((xs.drop t).take N)) HC'.out.2.1)
    generalize over (secF n las wt' i) f ((xs.drop t).take N) = y at B4 HXX HST HLW
    clear hcut
    refine (dwrite_ B4.out HL.out.1 HL.out.2.1 i (b := y) B4.out.at2.rowC' hcx).mono ?_
    rintro e w5 ⟨rfl, hS5⟩
    have B5 := Aside0.mk hS5
    have hcut2 := cutLo Tryz.underlying24 Base.infoB A' r c' kk (J := (kk : Int)) rfl hkr hc'
    have HLO : Aside0 (∀ W' : World, U8.C W' A' r (xs.drop t) → U8.C W' (if c' = kk then A' else A'.map (·.add (kk * 1))) (r - kk) ((xs.drop t).drop kk)) := ⟨fun W' hC => C_lo (a := kk) (c := c') hC hkr hc'⟩
    obtain ⟨AL, hAL⟩ : ∃ AL, (if c' = kk then A' else A'.map (·.add (kk * 1))) = AL := ⟨_, rfl⟩
    rw [hAL] at HLO
    simp only [hAL] at hcut2
    clear hAL
    clear hS5 hrl
    go_wp2_with fail
    go_quiet (fail)
    go_wp2_with fail
    go_roundg (gk - kk)
    case measure => have := AK.out; have := HR.out; omega
    case rel =>
      refine ⟨t + kk, AL, c' - kk, putW n wt' i y, by rw [HAR.out.1], by rw [HAR.out.2.1], by have h1 := AK.out; have h2 := HR.out; have h3 := HAR.out.2.2.2.1; omega, by rw [HAR.out.2.1]; exact HAR.out.2.2.2.2, fun W' hW => ?_, HLW.out, by rw [HAR.out.2.2.1]; exact HST.out, ?_⟩
      · have h := HLO.out W' (HC'.out.1 W' hW)
        rw [List.drop_drop] at h
        rw [HAR.out.2.1]
        exact h
      · exact (B5.out.drewN _).drop2
theorem append_ (h : Sep w0 W (Dsk g las wt :: F)) (hl : las.length = 64 * n) (hn : n ≤ 160) (hw : ∀ i b, wt i = some b → b.length = 64) (a b c at_ : Int) (hat : -9223372036854775808 ≤ at_ ∧ at_ ≤ 9223372036854775807) {A : Option Addr} {m cp : Nat} {xs : List Int} (hx : ∀ W', Sep w0 W' F → U8.C W' A m xs) (hcp : m ≤ cp) :
    Calls Tryz.prog 73 #[.pointer (some ⟨g, 0, none⟩), .agg #[.int .i64 a, .int .i64 b, .int .u32 c], .int .i64 at_, .slice A m cp] W fun e w' => e = .returned (.bool (okA n a b c at_ m)) ∧ Sep w0 w' (Dsk g las (appR n las wt a b c at_ xs) :: F) := by
  cases ho : okA n a b c at_ m with
  | false =>
    refine (append_no h hl hn hw a b c at_ hat hx hcp ho).mono ?_
    rintro e w' ⟨rfl, hS⟩
    exact ⟨by rw [ho], hS⟩
  | true =>
    refine (append_yes h hl hn hw a b c at_ hat hx hcp ho).mono ?_
    rintro e w' ⟨rfl, hS⟩
    exact ⟨by rw [ho], hS⟩
end
end Go.Proofs.YtjngnigelkgekaaGreat.Redo
