/- RefD3, RefD4: what HealCounts needs. -/
import Derived.Test.YtjngnigelkgekaaGreatThealCounts15
set_option linter.unusedVariables false
set_option linter.unusedSimpArgs false
namespace Go.Proofs.YtjngnigelkgekaaGreat.Delta
open Go.RowKit Go.Proofs.YtjngnigelkgekaaGreatW.PrintWords Go.Proofs.YtjngnigelkgekaaGreatW.PrintLast Go.Proofs.YtjngnigelkgekaaGreatW.PrintMore Go.Proofs.YtjngnigelkgekaaGreat.Kit Go.Proofs.YtjngnigelkgekaaGreat.Base Go.Proofs.YtjngnigelkgekaaGreat.Plain
set_option maxHeartbeats 1600000 in
set_option maxRecDepth 100000 in
theorem rundelta_ {A : Option Addr} {n c : Nat} {b : List Int} {w : World} (hr : U8.C w A n b) (hc : n ≤ c) (hb : Bytes b) (hl : n ≤ 1000000) (pages : Int) :
    Calls Tryz.prog 112 #[.slice A n c, .int .i64 pages] w fun e w' => ∃ v, e = .returned (.tuple #[v, .bool (undeltaF b pages).isSome]) ∧ Sep w w' [Row KC 75 v ((undeltaF b pages).getD [])] := by
  obtain rfl : b.length = n := hr.1
  have HR := Aside0.mk hr
  have HB := Aside0.mk hb
  by_cases hn : b.length < 2 ∨ 64 < pages
  · have HU : Aside0 (undeltaF b pages = none) := ⟨by
      unfold undeltaF
      by_cases h2 : b.length < 2
      · rw [if_pos h2]
      · rw [if_neg h2]
        by_cases h3 : b.length ≠ 2 + 66 * countF b
        · rw [if_pos h3]
        · rw [if_neg h3, if_neg]
          unfold rightF
          rw [decide_eq_false (by omega)]
          simp⟩
    by_cases h2 : b.length < 2
    · have hu1 : (b.length : Int) < 2 := by omega
      clear h2 hn hr hb
      go_enter Tryz.func112, Tryz.ntmps112
      go_wp2_with fail
      go_ret2
      exact ⟨_, by rw [HU.out]; first | rfl | (simp; done), by rw [HU.out]; exact (Sep.start w).nilRow KC _⟩
    · have hu1 : ¬ (b.length : Int) < 2 := by omega
      have hu2 : 64 < pages := by omega
      clear h2 hn hr hb
      go_enter Tryz.func112, Tryz.ntmps112
      go_wp2_with fail
      go_ret2
      exact ⟨_, by rw [HU.out]; first | rfl | (simp; done), by rw [HU.out]; exact (Sep.start w).nilRow KC _⟩
  · obtain ⟨ad, hA, -⟩ := byte_at hr (i := 0) (by omega)
    subst hA
    have c0 : ∀ q, (w.drewN q).cell? (ad.add 0) = some (.int .u8 (rd b 0)) := fun q => by
      obtain ⟨ad', hA, hc⟩ := byte_at (Kd.C_drewN HR.out q) (i := 0) (by omega)
      cases hA; exact hc
    have c1 : ∀ q, (w.drewN q).cell? ⟨ad.block, ad.off + 1, none⟩ = some (.int .u8 (rd b 1)) := fun q => by
      obtain ⟨ad', hA, hc⟩ := byte_at (Kd.C_drewN HR.out q) (i := 1) (by omega)
      cases hA; exact hc
    rw [show ad.add 0 = ad by simp [Addr.add]] at c0
    have x0 := hb.at 0
    have x1 := hb.at 1
    have hj := join64 x0.1 x0.2 x1.1 x1.2
    obtain ⟨m, hcf⟩ : ∃ m, countF b = m := ⟨_, rfl⟩
    have hcn : (m : Int) = rd b 0 * 256 + rd b 1 := by rw [← hcf]; unfold countF; omega
    generalize rd b 0 = p at *
    generalize rd b 1 = q at *
    have hw : IntKind.i64.wrap (p * 256) = p * 256 := by rw [IntKind.wrap_i64]; omega
    have hwp : IntKind.i64.wrap p = p := by rw [IntKind.wrap_i64]; omega
    have hwq : IntKind.i64.wrap q = q := by rw [IntKind.wrap_i64]; omega
    have hn0 : 0 < b.length := by omega
    have hn1 : 1 < b.length := by omega
    have hi1 : (1 : Int) < (b.length : Int) := by omega
    have hu1 : ¬ (b.length : Int) < 2 := by omega
    have hu2 : ¬ 64 < pages := by omega
    by_cases hmm : b.length = 2 + 66 * m
    · have hne2 : ((b.length : Int) != 2 + (p * 256 + q) * 66) = false := by simp; omega
      have HC := Aside0.mk (And.intro hc (And.intro hcf (And.intro hmm (And.intro hcn hl))))
      clear hr hb hn hcf hmm hcn
      go_enter Tryz.func112, Tryz.ntmps112
      go_wp2_with fail
      go_quiet (fail)
      clear c0 c1 hw hwp hwq hj hn0 hn1 hi1
      go_wp2_with fail
      clear x0 x1
      have A0 := Aside0.mk (((Sep.start w).drewN nq).nilRow KC 75)
      go_loopg [7, 8] m (fun k v s wr => ∃ (j : Nat), s = .int .i64 (j : Int) ∧ j + k = m ∧ Sep w wr [Row KC 75 v ((List.range j).map (chunkF b))])
      case atStart => exact ⟨0, rfl, by omega, A0.out⟩
      case round =>
        obtain ⟨j, rfl, hjm, hS⟩ := hrel
        have AK := Aside0.mk hjm
        have hm2 : m ≤ 1000000 := by have := HC.out; omega
        have hlb : b.length = 2 + 66 * m := HC.out.2.2.1
        obtain ⟨A3, c3, rfl⟩ := hS.rowN (n := j) (by simp)
        by_cases hj : j < m
        · have hjp : (j : Int) < p * 256 + q := by have := HC.out; omega
          have hsum : 2 + (j : Int) * 66 = ((2 + 66 * j : Nat) : Int) := by omega
          obtain ⟨A2, hcut, hT⟩ := drop8 (A := some ad) (n := b.length) (c := c) (a := 2 + 66 * j) (J := 2 + (j : Int) * 66) (l := b) hsum rfl (by omega) hc
          obtain ⟨qx, hqx⟩ : ∃ qx, b.drop (2 + 66 * j) = qx := ⟨_, rfl⟩
          have hql : qx.length = b.length - (2 + 66 * j) := by rw [← hqx, List.length_drop]
          have hqr : ∀ i : Nat, rd qx (i : Int) = rd b ((2 + 66 * j + i : Nat) : Int) := fun i => by
            rw [← hqx]; unfold rd
            rw [Int.toNat_natCast, Int.toNat_natCast, List.getD_eq_getElem?_getD, List.getD_eq_getElem?_getD, List.getElem?_drop]
          have hqd : (qx.take 66).drop 2 = (b.drop (4 + 66 * j)).take 64 := by
            rw [← hqx, List.drop_take, List.drop_drop]
            congr 2
            omega
          have hqb : Bytes qx := by rw [← hqx]; exact HB.out.drop _
          have hch : chunkF b j = (rd qx 0 * 256 + rd qx 1, (qx.take 66).drop 2) := by
            have h0 := hqr 0
            have h1 := hqr 1
            unfold chunkF
            rw [hqd]
            simp only [Int.natCast_zero, Int.natCast_one] at h0 h1
            rw [h0, h1]
            congr 4
            · omega
          rw [hqx] at hT
          obtain ⟨qn, hqn⟩ : ∃ qn, b.length - (2 + 66 * j) = qn := ⟨_, rfl⟩
          rw [hqn] at hT hcut hql
          obtain ⟨c4, hc4⟩ : ∃ c4, c - (2 + 66 * j) = c4 := ⟨_, rfl⟩
          rw [hc4] at hcut
          have hqc : qn ≤ c4 := by omega
          have hq66 : 66 ≤ qn := by omega
          obtain ⟨ad2, hA2, z1⟩ := byte_at (hT w HR.out) (i := 0) (by omega)
          subst hA2
          obtain ⟨ad3, hA3, z2⟩ := byte_at (hT w HR.out) (i := 1) (by omega)
          cases hA3
          rw [show ad2.add 0 = ad2 by simp [Addr.add]] at z1
          replace z2 : w.cell? ⟨ad2.block, ad2.off + 1, none⟩ = some (.int .u8 (rd qx 1)) := z2
          replace z1 : w.cell? ad2 = some (.int .u8 (rd qx 0)) := z1
          obtain ⟨A5, hcut5, hT5⟩ := mid8 (A := some ad2) (n := qn) (c := c4) (a := 2) (b := 66) (J := 2) (K := 66) (l := qx) rfl rfl hql (by decide) (by omega) hqc
          have HC5 := Aside0.mk (hT5 _ (hT w HR.out))
          have hl64 : ((qx.take 66).drop 2).length = 64 := by rw [List.length_drop, List.length_take, hql]; omega
          have y0 := hqb.at 0
          have y1 := hqb.at 1
          have hjj := join64 y0.1 y0.2 y1.1 y1.2
          generalize rd qx 0 = P0 at *
          generalize rd qx 1 = P1 at *
          generalize (qx.take 66).drop 2 = qs at *
          have hww : IntKind.i64.wrap (P0 * 256) = P0 * 256 := by rw [IntKind.wrap_i64]; omega
          have hwP : IntKind.i64.wrap P0 = P0 := by rw [IntKind.wrap_i64]; omega
          have hwQ : IntKind.i64.wrap P1 = P1 := by rw [IntKind.wrap_i64]; omega
          have hq0 : 0 < qn := by omega
          have hq1 : 1 < qn := by omega
          have hqi : (1 : Int) < (qn : Int) := by omega
          have AL := Aside0.mk hl64
          have AX := Aside0.mk hch
          have BK := Aside0.mk hS.drew
          have HZ1 := Aside0.mk z1
          have HZ2 := Aside0.mk z2
          have y3 := cell_later BK.out.toBelow z1
          have y4 := cell_later BK.out.toBelow z2
          have hwm : wrap64 ((j : Int) * 66) = (j : Int) * 66 := IntWalk.wrap64_in _ (by omega)
          have hwm2 : wrap64 (2 + (j : Int) * 66) = 2 + (j : Int) * 66 := IntWalk.wrap64_in _ (by omega)
          clear hS hT hT5 hl64 hch hqr hqd hqb hqx hjm hql hqn hc4 hlb z1 z2 hne2 hsum
          go_wp2_with fail
          refine start_ (n := 19) (S := fun w' => w'.cell? ad2 = some (.int .u8 P0) ∧ w'.cell? ⟨ad2.block, ad2.off + 1, none⟩ = some (.int .u8 P1)) (ds := [17]) #[false, false, false, false, false, false, false, false, false, false, false, false, false, false, false, false, false, false, false] (by kernel_rfl) rfl rfl ⟨y3, y4⟩ (fun hHeld => ?_)
          refine pure_ (i := 0) (N := some 43) (v := ?_) (a' := ?_) #[true, false, false, false, false, false, false, false, false, false, false, false, false, false, false, false, false, false, false] rfl rfl (by kernel_rfl) (fun _ _ _ h => h) (Or.inl ⟨by rfl, ?_⟩) ?_ ?_
          rotate_left
          · intro w'
            go_simp
            with_reducible rfl
          rotate_left
          · simp only [Act.put, sIB, sCz, sCs, i64_w, i32_w]
            rfl
          refine pure_ (i := 1) (N := some 44) (v := ?_) (a' := ?_) #[true, true, false, false, false, false, false, false, false, false, false, false, false, false, false, false, false, false, false] rfl rfl (by kernel_rfl) (fun _ _ _ h => h) (Or.inl ⟨by rfl, ?_⟩) ?_ ?_
          rotate_left
          · intro w'
            go_simp
            with_reducible rfl
          rotate_left
          · simp only [Act.put, sIB, sCz, sCs, i64_w, i32_w]
            rfl
          refine pure_ (i := 2) (N := some 45) (v := ?_) (a' := ?_) #[true, true, true, false, false, false, false, false, false, false, false, false, false, false, false, false, false, false, false] rfl rfl (by kernel_rfl) (fun _ _ _ h => h) (Or.inl ⟨by rfl, ?_⟩) ?_ ?_
          rotate_left
          · intro w'
            go_simp
            with_reducible rfl
          rotate_left
          · simp only [Act.put, sIB, sCz, sCs, i64_w, i32_w]
            rfl
          refine pure_ (i := 6) (N := some 49) (v := ?_) (a' := ?_) #[true, true, true, false, false, false, true, false, false, false, false, false, false, false, false, false, false, false, false] rfl rfl (by kernel_rfl) (fun _ _ _ h => h) (Or.inl ⟨by rfl, ?_⟩) ?_ ?_
          rotate_left
          · intro w'
            go_simp
            with_reducible rfl
          rotate_left
          · simp only [Act.put, sIB, sCz, sCs, i64_w, i32_w]
            rfl
          refine pure_ (i := 7) (N := some 50) (v := ?_) (a' := ?_) #[true, true, true, false, false, false, true, true, false, false, false, false, false, false, false, false, false, false, false] rfl rfl (by kernel_rfl) (fun _ _ _ h => h) (Or.inl ⟨by rfl, ?_⟩) ?_ ?_
          rotate_left
          · intro w'
            go_simp
            with_reducible rfl
          rotate_left
          · simp only [Act.put, sIB, sCz, sCs, i64_w, i32_w]
            rfl
          refine pure_ (i := 12) (N := some 55) (v := ?_) (a' := ?_) #[true, true, true, false, false, false, true, true, false, false, false, false, true, false, false, false, false, false, false] rfl rfl (by kernel_rfl) (fun _ _ _ h => h) (Or.inl ⟨by rfl, ?_⟩) ?_ ?_
          rotate_left
          · intro w'
            go_simp
            with_reducible rfl
          rotate_left
          · simp only [Act.put, sIB, sCz, sCs, i64_w, i32_w]
            rfl
          refine pure_ (i := 13) (N := some 56) (v := ?_) (a' := ?_) #[true, true, true, false, false, false, true, true, false, false, false, false, true, true, false, false, false, false, false] rfl rfl (by kernel_rfl) (fun _ _ _ h => h) (Or.inl ⟨by rfl, ?_⟩) ?_ ?_
          rotate_left
          · intro w'
            go_simp
            with_reducible rfl
          rotate_left
          · simp only [Act.put, sIB, sCz, sCs, i64_w, i32_w]
            rfl
          refine take_ (i := 3) (N := some 46) (v := ?_) (a' := ?_) #[true, true, true, true, false, false, true, true, false, false, false, false, true, true, false, false, false, false, false] rfl rfl (by kernel_rfl) (fun _ _ _ h => h) (Or.inl ⟨by rfl, ?_⟩) hHeld ?_ ?_
          rotate_left
          · rintro w' ⟨s0, s1⟩
            go_simp
            with_reducible rfl
          rotate_left
          · simp only [Act.put, sIB, sCz, sCs, i64_w, i32_w]
            rfl
          refine pure_ (i := 4) (N := some 47) (v := ?_) (a' := ?_) #[true, true, true, true, true, false, true, true, false, false, false, false, true, true, false, false, false, false, false] rfl rfl (by kernel_rfl) (fun _ _ _ h => h) (Or.inl ⟨by rfl, ?_⟩) ?_ ?_
          rotate_left
          · intro w'
            go_simp
            with_reducible rfl
          rotate_left
          · simp only [Act.put, sIB, sCz, sCs, i64_w, i32_w]
            rfl
          refine pure_ (i := 5) (N := some 48) (v := ?_) (a' := ?_) #[true, true, true, true, true, true, true, true, false, false, false, false, true, true, false, false, false, false, false] rfl rfl (by kernel_rfl) (fun _ _ _ h => h) (Or.inl ⟨by rfl, ?_⟩) ?_ ?_
          rotate_left
          · intro w'
            go_simp
            with_reducible rfl
          rotate_left
          · simp only [Act.put, sIB, sCz, sCs, i64_w, i32_w]
            rfl
          refine take_ (i := 8) (N := some 51) (v := ?_) (a' := ?_) #[true, true, true, true, true, true, true, true, true, false, false, false, true, true, false, false, false, false, false] rfl rfl (by kernel_rfl) (fun _ _ _ h => h) (Or.inl ⟨by rfl, ?_⟩) hHeld ?_ ?_
          rotate_left
          · rintro w' ⟨s0, s1⟩
            go_simp
            with_reducible rfl
          rotate_left
          · simp only [Act.put, sIB, sCz, sCs, i64_w, i32_w]
            rfl
          refine pure_ (i := 9) (N := some 52) (v := ?_) (a' := ?_) #[true, true, true, true, true, true, true, true, true, true, false, false, true, true, false, false, false, false, false] rfl rfl (by kernel_rfl) (fun _ _ _ h => h) (Or.inl ⟨by rfl, ?_⟩) ?_ ?_
          rotate_left
          · intro w'
            go_simp
            with_reducible rfl
          rotate_left
          · simp only [Act.put, sIB, sCz, sCs, i64_w, i32_w]
            rfl
          refine pure_ (i := 10) (N := some 53) (v := ?_) (a' := ?_) #[true, true, true, true, true, true, true, true, true, true, true, false, true, true, false, false, false, false, false] rfl rfl (by kernel_rfl) (fun _ _ _ h => h) (Or.inl ⟨by rfl, ?_⟩) ?_ ?_
          rotate_left
          · intro w'
            go_simp
            with_reducible rfl
          rotate_left
          · simp only [Act.put, sIB, sCz, sCs, i64_w, i32_w]
            rfl
          refine one_ (i := 11) (N := some 54) #[true, true, true, true, true, true, true, true, true, true, true, true, true, true, false, false, false, false, false] rfl rfl (by kernel_rfl) (by decide) (fun K hK => ?_)
          have B4 := Aside0.mk (BK.out.litRow (enc := Value.int .u8) (h1 := fun _ => rfl) (e := 5) [] (by simp))
          refine value_ (w1 := ?_) (v := ?_) (by rfl) rfl ?_ ?_
          rotate_left 2
          · go_simp
            constructor
            · rfl
            · rfl
          refine hK.out _ _ ⟨cell_later B4.out.toBelow HZ1.out, cell_later B4.out.toBelow HZ2.out⟩ (fun hHeld => ?_)
          clear hK K
          refine norm_ (a' := ?_) ?_ ?_
          rotate_left
          · show Act.put _ (some 54) _ = _
            simp only [Act.put, sIB, sCz, sCs, i64_w, i32_w]
            rfl
          refine one_ (i := 14) (N := some 57) #[true, true, true, true, true, true, true, true, true, true, true, true, true, true, true, false, false, false, false] rfl rfl (by kernel_rfl) (by decide) (fun K hK => ?_)
          refine B4.out.appendStep (by rfl) (.tmp 54) (.tmp 56) 24 (.int .u8 0) 1 rfl Tryz.underlying24 infoB rfl (by decide) A5 64 (c4 - 2) (by rfl) (by rfl) (Kd.C_below HC5.out B4.out.toBelow) (by have := AL.out; simp; omega) ?_
          intro v5 w5 hS5
          obtain ⟨A6, c6, rfl⟩ := hS5.rowN (n := 64) (by have := AL.out; simpa using this)
          have B5 := Aside0.mk hS5
          clear hS5
          refine hK.out _ _ ⟨cell_later B5.out.toBelow HZ1.out, cell_later B5.out.toBelow HZ2.out⟩ (fun hHeld => ?_)
          clear hK K
          refine norm_ (a' := ?_) ?_ ?_
          rotate_left
          · show Act.put _ (some 57) _ = _
            simp only [Act.put, sIB, sCz, sCs, i64_w, i32_w]
            rfl
          refine pure_ (i := 15) (N := some 58) (v := ?_) (a' := ?_) #[true, true, true, true, true, true, true, true, true, true, true, true, true, true, true, true, false, false, false] rfl rfl (by kernel_rfl) (fun _ _ _ h => h) (Or.inl ⟨by rfl, ?_⟩) ?_ ?_
          rotate_left
          · intro w'
            go_simp
            with_reducible rfl
          rotate_left
          · simp only [Act.put, sIB, sCz, sCs, i64_w, i32_w]
            rfl
          refine one_ (i := 16) (N := some 59) #[true, true, true, true, true, true, true, true, true, true, true, true, true, true, true, true, true, false, false] rfl rfl (by kernel_rfl) (by decide) (fun K hK => ?_)
          have E3 := Aside0.mk ((B5.out.elSlice.elPair (a := Kd.int .i64) (x := P0 * 256 + P1) (p := [.int .i64 (P0 * 256 + P1)]) (fun _ _ _ => rfl)).at2)
          refine value_ (w1 := ?_) (v := ?_) (by rfl) rfl ?_ ?_
          rotate_left 2
          · go_simp
            constructor
            · rfl
            · rfl
          refine hK.out _ _ ⟨cell_later (below_alloc B5.out.toBelow _) HZ1.out, cell_later (below_alloc B5.out.toBelow _) HZ2.out⟩ (fun hHeld => ?_)
          clear hK K
          refine norm_ (a' := ?_) ?_ ?_
          rotate_left
          · show Act.put _ (some 59) _ = _
            simp only [Act.put, sIB, sCz, sCs, i64_w, i32_w]
            rfl
          refine last_ (i := 17) (N := some 60) #[true, true, true, true, true, true, true, true, true, true, true, true, true, true, true, true, true, true, false] rfl rfl (by kernel_rfl) (by decide) (fun K hK => ?_)
          refine E3.out.appendDeepStep (by rfl) (.tmp 43) (.tmp 59) 60 _ 32 rfl Tryz.underlying60 infoCh rfl (by decide) (by decide) (by rfl) (by rfl) (by simp; omega) ?_
          intro v7 w7 hs7 hS7
          have B7 := Aside0.mk hS7
          clear hS7
          refine hK.out _ _ ?_
          clear hK K
          refine norm_ (a' := ?_) ?_ ?_
          rotate_left
          · show Act.put _ (some 60) _ = _
            simp only [Act.put, sIB, sCz, sCs, i64_w, i32_w]
            rfl
          refine pure_ (i := 18) (N := some 7) (v := ?_) (a' := ?_) #[true, true, true, true, true, true, true, true, true, true, true, true, true, true, true, true, true, true, true] rfl rfl (by kernel_rfl) (fun _ _ _ h => h) (Or.inl ⟨by rfl, ?_⟩) ?_ ?_
          rotate_left
          · intro w'
            go_simp
            with_reducible rfl
          rotate_left
          · simp only [Act.put, sIB, sCz, sCs, i64_w, i32_w]
            rfl
          refine done_ (by kernel_rfl) ?_
          go_wp2_with fail
          go_roundg (gk - 1)
          case measure => have := AK.out; omega
          case rel => exact ⟨j + 1, by go_num, by have := AK.out; omega, by rw [List.range_succ, List.map_append, List.map_cons, List.map_nil, AX.out]; exact B7.out⟩
        · have hjm2 : j = m := by omega
          subst hjm2
          have hjp : ¬ (j : Int) < p * 256 + q := by have := HC.out; omega
          have hrw : (List.range j).map (chunkF b) = rawF b := by unfold rawF; rw [HC.out.2.1]
          have hlen : (rawF b).length = j := by rw [← hrw]; simp
          rw [hrw] at hS
          have AS := Aside0.mk hS
          have AL := Aside0.mk hlen
          clear hS hjm hrw hlen hne2 hlb
          go_wp2_with fail
          refine (rchanges_ (l := rawF b) (by have := AS.out.rowC.2.2; rwa [AL.out] at this) pages).mono ?_
          rintro e w9 ⟨rfl, hb9⟩
          have B9 := Aside0.mk (AS.out.below hb9)
          clear hb9
          cases hrt : rightF (rawF b) pages with
          | false =>
            have HU : Aside0 (undeltaF b pages = none) := ⟨by
              unfold undeltaF
              have := HC.out
              rw [if_neg (by omega), if_neg (by rw [this.2.1]; omega), hrt]; rfl⟩
            clear hrt
            go_wp2_with fail
            go_ret2
            exact ⟨_, by rw [HU.out]; first | rfl | (simp; done), by rw [HU.out]; exact B9.out.tail.nilRow KC _⟩
          | true =>
            have HU : Aside0 (undeltaF b pages = some (rawF b)) := ⟨by
              unfold undeltaF
              have := HC.out
              rw [if_neg (by omega), if_neg (by rw [this.2.1]; omega), hrt]; rfl⟩
            clear hrt
            go_wp2_with fail
            go_ret2
            exact ⟨_, by rw [HU.out]; first | rfl | (simp; done), by rw [HU.out]; exact B9.out⟩
    · have hne : ((b.length : Int) != 2 + (p * 256 + q) * 66) = true := by simp; omega
      have HU : Aside0 (undeltaF b pages = none) := ⟨by
        unfold undeltaF
        rw [if_neg (by omega), if_pos (by rw [hcf]; exact hmm)]⟩
      clear hr hb hn hcf hmm hcn
      go_enter Tryz.func112, Tryz.ntmps112
      go_wp2_with fail
      go_quiet (fail)
      go_wp2_with fail
      go_ret2
      exact ⟨_, by rw [HU.out]; first | rfl | (simp; done), by rw [HU.out]; exact ((Sep.start w).drewN _).nilRow KC _⟩
end Go.Proofs.YtjngnigelkgekaaGreat.Delta
namespace Go.Proofs.YtjngnigelkgekaaGreat.Delta
end Go.Proofs.YtjngnigelkgekaaGreat.Delta
