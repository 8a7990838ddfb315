/- RefD3, RefD4, Root3, Root4, Str, Root5, MapInt, Disk1, Disk2, Copy: what RedoNumbers needs. -/
import Derived.Test.YtjngnigelkgekaaTredoNumbers3
import Derived.Laws.ResultCell
import Derived.WalkKit
import Derived.KernelRfl
import Derived.Carry
import Derived.Test.YtjngnigelkgekaaProg
import Derived.WalkSpells
import Derived.Deep.QuietTactic
import Derived.BigQuiet
import Derived.Laws.IdiomCopy
namespace Go.Proofs.Ytjngnigelkgekaa.Delta
set_option linter.unusedVariables false
set_option linter.unusedSimpArgs false
open Go.RowKit Go.Proofs.YtjngnigelkgekaaW.PrintWords Go.Proofs.YtjngnigelkgekaaW.PrintLast Go.Proofs.YtjngnigelkgekaaW.PrintMore Go.Proofs.Ytjngnigelkgekaa.Kit Go.Proofs.Ytjngnigelkgekaa.Base Go.Proofs.Ytjngnigelkgekaa.Plain
set_option maxHeartbeats 1600000 in
set_option maxRecDepth 100000 in
theorem rundelta_ {A : Option Addr} {n c : Nat} {b : List Int} {w : World} (hr : U8.C w A n b) (hc : n ≤ c) (hb : Bytes b) (hl : n ≤ 1000000) (pages : Int) :
    Calls Try.prog 139 #[.slice A n c, .int .i64 pages] w fun e w' => ∃ v, e = .returned (.tuple #[v, .bool (undeltaF b pages).isSome]) ∧ Sep w w' [Row KC 106 v ((undeltaF b pages).getD [])] := by
  obtain rfl : b.length = n := hr.1
  have HR := Aside0.mk hr
  have HB := Aside0.mk hb
  by_cases hn : b.length < 2 ∨ 64 < pages
  · have HU : Aside0 (undeltaF b pages = none) := ⟨by
      unfold undeltaF
      by_cases h2 : b.length < 2
      · rw [if_pos h2]
      · rw [if_neg h2]
        by_cases h3 : b.length ≠ 2 + 66 * countF b
        · rw [if_pos h3]
        · rw [if_neg h3, if_neg]
          unfold rightF
          rw [decide_eq_false (by omega)]
          simp⟩
    by_cases h2 : b.length < 2
    · have hu1 : (b.length : Int) < 2 := by omega
      clear h2 hn hr hb
      go_enter Try.func139, Try.ntmps139
      go_wp2_with fail
      go_ret2
      exact ⟨_, by rw [HU.out]; first | rfl | (simp; done), by rw [HU.out]; exact (Sep.start w).nilRow KC _⟩
    · have hu1 : ¬ (b.length : Int) < 2 := by omega
      have hu2 : 64 < pages := by omega
      clear h2 hn hr hb
      go_enter Try.func139, Try.ntmps139
      go_wp2_with fail
      go_ret2
      exact ⟨_, by rw [HU.out]; first | rfl | (simp; done), by rw [HU.out]; exact (Sep.start w).nilRow KC _⟩
  · obtain ⟨ad, hA, -⟩ := byte_at hr (i := 0) (by omega)
    subst hA
    have c0 : ∀ q, (w.drewN q).cell? (ad.add 0) = some (.int .u8 (rd b 0)) := fun q => by
      obtain ⟨ad', hA, hc⟩ := byte_at (Kd.C_drewN HR.out q) (i := 0) (by omega)
      cases hA; exact hc
    have c1 : ∀ q, (w.drewN q).cell? ⟨ad.block, ad.off + 1, none⟩ = some (.int .u8 (rd b 1)) := fun q => by
      obtain ⟨ad', hA, hc⟩ := byte_at (Kd.C_drewN HR.out q) (i := 1) (by omega)
      cases hA; exact hc
    rw [show ad.add 0 = ad by simp [Addr.add]] at c0
    have x0 := hb.at 0
    have x1 := hb.at 1
    have hj := join64 x0.1 x0.2 x1.1 x1.2
    obtain ⟨m, hcf⟩ : ∃ m, countF b = m := ⟨_, rfl⟩
    have hcn : (m : Int) = rd b 0 * 256 + rd b 1 := by rw [← hcf]; unfold countF; omega
    generalize rd b 0 = p at *
    generalize rd b 1 = q at *
    have hw : IntKind.i64.wrap (p * 256) = p * 256 := by rw [IntKind.wrap_i64]; omega
    have hwp : IntKind.i64.wrap p = p := by rw [IntKind.wrap_i64]; omega
    have hwq : IntKind.i64.wrap q = q := by rw [IntKind.wrap_i64]; omega
    have hn0 : 0 < b.length := by omega
    have hn1 : 1 < b.length := by omega
    have hi1 : (1 : Int) < (b.length : Int) := by omega
    have hu1 : ¬ (b.length : Int) < 2 := by omega
    have hu2 : ¬ 64 < pages := by omega
    by_cases hmm : b.length = 2 + 66 * m
    · have hne2 : ((b.length : Int) != 2 + (p * 256 + q) * 66) = false := by simp; omega
      have HC := Aside0.mk (And.intro hc (And.intro hcf (And.intro hmm (And.intro hcn hl))))
      clear hr hb hn hcf hmm hcn
      go_enter Try.func139, Try.ntmps139
      go_wp2_with fail
      go_quiet (fail)
      clear c0 c1 hw hwp hwq hj hn0 hn1 hi1
      go_wp2_with fail
      clear x0 x1
      have A0 := Aside0.mk (((Sep.start w).drewN nq).nilRow KC 106)
      go_loopg [7, 8] m (fun k v s wr => ∃ (j : Nat), s = .int .i64 (j : Int) ∧ j + k = m ∧ Sep w wr [Row KC 106 v ((List.range j).map (chunkF b))])
      case atStart => exact ⟨0, rfl, by omega, A0.out⟩
      case round =>
        obtain ⟨j, rfl, hjm, hS⟩ := hrel
        have AK := Aside0.mk hjm
        have hm2 : m ≤ 1000000 := by have := HC.out; omega
        have hlb : b.length = 2 + 66 * m := HC.out.2.2.1
        obtain ⟨A3, c3, rfl⟩ := hS.rowN (n := j) (by simp)
        by_cases hj : j < m
        · have hjp : (j : Int) < p * 256 + q := by have := HC.out; omega
          have hsum : 2 + (j : Int) * 66 = ((2 + 66 * j : Nat) : Int) := by omega
          obtain ⟨A2, hcut, hT⟩ := drop8 (A := some ad) (n := b.length) (c := c) (a := 2 + 66 * j) (J := 2 + (j : Int) * 66) (l := b) hsum rfl (by omega) hc
          obtain ⟨qx, hqx⟩ : ∃ qx, b.drop (2 + 66 * j) = qx := ⟨_, rfl⟩
          have hql : qx.length = b.length - (2 + 66 * j) := by rw [← hqx, List.length_drop]
          have hqr : ∀ i : Nat, rd qx (i : Int) = rd b ((2 + 66 * j + i : Nat) : Int) := fun i => by
            rw [← hqx]; unfold rd
            rw [Int.toNat_natCast, Int.toNat_natCast, List.getD_eq_getElem?_getD, List.getD_eq_getElem?_getD, List.getElem?_drop]
          have hqd : (qx.take 66).drop 2 = (b.drop (4 + 66 * j)).take 64 := by
            rw [← hqx, List.drop_take, List.drop_drop]
            congr 2
            omega
          have hqb : Bytes qx := by rw [← hqx]; exact HB.out.drop _
          have hch : chunkF b j = (rd qx 0 * 256 + rd qx 1, (qx.take 66).drop 2) := by
            have h0 := hqr 0
            have h1 := hqr 1
            unfold chunkF
            rw [hqd]
            simp only [Int.natCast_zero, Int.natCast_one] at h0 h1
            rw [h0, h1]
            congr 4
            · omega
          rw [hqx] at hT
          obtain ⟨qn, hqn⟩ : ∃ qn, b.length - (2 + 66 * j) = qn := ⟨_, rfl⟩
          rw [hqn] at hT hcut hql
          obtain ⟨c4, hc4⟩ : ∃ c4, c - (2 + 66 * j) = c4 := ⟨_, rfl⟩
          rw [hc4] at hcut
          have hqc : qn ≤ c4 := by omega
          have hq66 : 66 ≤ qn := by omega
          obtain ⟨ad2, hA2, z1⟩ := byte_at (hT w HR.out) (i := 0) (by omega)
          subst hA2
          obtain ⟨ad3, hA3, z2⟩ := byte_at (hT w HR.out) (i := 1) (by omega)
          cases hA3
          rw [show ad2.add 0 = ad2 by simp [Addr.add]] at z1
          replace z2 : w.cell? ⟨ad2.block, ad2.off + 1, none⟩ = some (.int .u8 (rd qx 1)) := z2
          replace z1 : w.cell? ad2 = some (.int .u8 (rd qx 0)) := z1
          obtain ⟨A5, hcut5, hT5⟩ := mid8 (A := some ad2) (n := qn) (c := c4) (a := 2) (b := 66) (J := 2) (K := 66) (l := qx) rfl rfl hql (by decide) (by omega) hqc
          have HC5 := Aside0.mk (hT5 _ (hT w HR.out))
          have hl64 : ((qx.take 66).drop 2).length = 64 := by rw [List.length_drop, List.length_take, hql]; omega
          have y0 := hqb.at 0
          have y1 := hqb.at 1
          have hjj := join64 y0.1 y0.2 y1.1 y1.2
          generalize rd qx 0 = P0 at *
          generalize rd qx 1 = P1 at *
          generalize (qx.take 66).drop 2 = qs at *
          have hww : IntKind.i64.wrap (P0 * 256) = P0 * 256 := by rw [IntKind.wrap_i64]; omega
          have hwP : IntKind.i64.wrap P0 = P0 := by rw [IntKind.wrap_i64]; omega
          have hwQ : IntKind.i64.wrap P1 = P1 := by rw [IntKind.wrap_i64]; omega
          have hq0 : 0 < qn := by omega
          have hq1 : 1 < qn := by omega
          have hqi : (1 : Int) < (qn : Int) := by omega
          have AL := Aside0.mk hl64
          have AX := Aside0.mk hch
          have BK := Aside0.mk hS.drew
          have HZ1 := Aside0.mk z1
          have HZ2 := Aside0.mk z2
          have y3 := cell_later BK.out.toBelow z1
          have y4 := cell_later BK.out.toBelow z2
          have hwm : wrap64 ((j : Int) * 66) = (j : Int) * 66 := IntWalk.wrap64_in _ (by omega)
          have hwm2 : wrap64 (2 + (j : Int) * 66) = 2 + (j : Int) * 66 := IntWalk.wrap64_in _ (by omega)
          clear hS hT hT5 hl64 hch hqr hqd hqb hqx hjm hql hqn hc4 hlb z1 z2 hne2 hsum
          go_wp2_with fail
          refine start_ (n := 19) (S := fun w' => w'.cell? ad2 = some (.int .u8 P0) ∧ w'.cell? ⟨ad2.block, ad2.off + 1, none⟩ = some (.int .u8 P1)) (ds := [17]) #[false, false, false, false, false, false, false, false, false, false, false, false, false, false, false, false, false, false, false] (by kernel_rfl) rfl rfl ⟨y3, y4⟩ (fun hHeld => ?_)
          refine pure_ (i := 0) (N := some 43) (v := ?_) (a' := ?_) #[true, false, false, false, false, false, false, false, false, false, false, false, false, false, false, false, false, false, false] rfl rfl (by kernel_rfl) (fun _ _ _ h => h) (Or.inl ⟨by rfl, ?_⟩) ?_ ?_
          rotate_left
          · intro w'
            go_simp
            with_reducible rfl
          rotate_left
          · simp only [Act.put, List.setIfInBounds_toArray, List.set_cons_zero, List.set_cons_succ, i64_w, i32_w]
            rfl
          refine pure_ (i := 1) (N := some 44) (v := ?_) (a' := ?_) #[true, true, false, false, false, false, false, false, false, false, false, false, false, false, false, false, false, false, false] rfl rfl (by kernel_rfl) (fun _ _ _ h => h) (Or.inl ⟨by rfl, ?_⟩) ?_ ?_
          rotate_left
          · intro w'
            go_simp
            with_reducible rfl
          rotate_left
          · simp only [Act.put, List.setIfInBounds_toArray, List.set_cons_zero, List.set_cons_succ, i64_w, i32_w]
            rfl
          refine pure_ (i := 2) (N := some 45) (v := ?_) (a' := ?_) #[true, true, true, false, false, false, false, false, false, false, false, false, false, false, false, false, false, false, false] rfl rfl (by kernel_rfl) (fun _ _ _ h => h) (Or.inl ⟨by rfl, ?_⟩) ?_ ?_
          rotate_left
          · intro w'
            go_simp
            with_reducible rfl
          rotate_left
          · simp only [Act.put, List.setIfInBounds_toArray, List.set_cons_zero, List.set_cons_succ, i64_w, i32_w]
            rfl
          refine pure_ (i := 6) (N := some 49) (v := ?_) (a' := ?_) #[true, true, true, false, false, false, true, false, false, false, false, false, false, false, false, false, false, false, false] rfl rfl (by kernel_rfl) (fun _ _ _ h => h) (Or.inl ⟨by rfl, ?_⟩) ?_ ?_
          rotate_left
          · intro w'
            go_simp
            with_reducible rfl
          rotate_left
          · simp only [Act.put, List.setIfInBounds_toArray, List.set_cons_zero, List.set_cons_succ, i64_w, i32_w]
            rfl
          refine pure_ (i := 7) (N := some 50) (v := ?_) (a' := ?_) #[true, true, true, false, false, false, true, true, false, false, false, false, false, false, false, false, false, false, false] rfl rfl (by kernel_rfl) (fun _ _ _ h => h) (Or.inl ⟨by rfl, ?_⟩) ?_ ?_
          rotate_left
          · intro w'
            go_simp
            with_reducible rfl
          rotate_left
          · simp only [Act.put, List.setIfInBounds_toArray, List.set_cons_zero, List.set_cons_succ, i64_w, i32_w]
            rfl
          refine pure_ (i := 12) (N := some 55) (v := ?_) (a' := ?_) #[true, true, true, false, false, false, true, true, false, false, false, false, true, false, false, false, false, false, false] rfl rfl (by kernel_rfl) (fun _ _ _ h => h) (Or.inl ⟨by rfl, ?_⟩) ?_ ?_
          rotate_left
          · intro w'
            go_simp
            with_reducible rfl
          rotate_left
          · simp only [Act.put, List.setIfInBounds_toArray, List.set_cons_zero, List.set_cons_succ, i64_w, i32_w]
            rfl
          refine pure_ (i := 13) (N := some 56) (v := ?_) (a' := ?_) #[true, true, true, false, false, false, true, true, false, false, false, false, true, true, false, false, false, false, false] rfl rfl (by kernel_rfl) (fun _ _ _ h => h) (Or.inl ⟨by rfl, ?_⟩) ?_ ?_
          rotate_left
          · intro w'
            go_simp
            with_reducible rfl
          rotate_left
          · simp only [Act.put, List.setIfInBounds_toArray, List.set_cons_zero, List.set_cons_succ, i64_w, i32_w]
            rfl
          refine take_ (i := 3) (N := some 46) (v := ?_) (a' := ?_) #[true, true, true, true, false, false, true, true, false, false, false, false, true, true, false, false, false, false, false] rfl rfl (by kernel_rfl) (fun _ _ _ h => h) (Or.inl ⟨by rfl, ?_⟩) hHeld ?_ ?_
          rotate_left
          · rintro w' ⟨s0, s1⟩
            go_simp
            with_reducible rfl
          rotate_left
          · simp only [Act.put, List.setIfInBounds_toArray, List.set_cons_zero, List.set_cons_succ, i64_w, i32_w]
            rfl
          refine pure_ (i := 4) (N := some 47) (v := ?_) (a' := ?_) #[true, true, true, true, true, false, true, true, false, false, false, false, true, true, false, false, false, false, false] rfl rfl (by kernel_rfl) (fun _ _ _ h => h) (Or.inl ⟨by rfl, ?_⟩) ?_ ?_
          rotate_left
          · intro w'
            go_simp
            with_reducible rfl
          rotate_left
          · simp only [Act.put, List.setIfInBounds_toArray, List.set_cons_zero, List.set_cons_succ, i64_w, i32_w]
            rfl
          refine pure_ (i := 5) (N := some 48) (v := ?_) (a' := ?_) #[true, true, true, true, true, true, true, true, false, false, false, false, true, true, false, false, false, false, false] rfl rfl (by kernel_rfl) (fun _ _ _ h => h) (Or.inl ⟨by rfl, ?_⟩) ?_ ?_
          rotate_left
          · intro w'
            go_simp
            with_reducible rfl
          rotate_left
          · simp only [Act.put, List.setIfInBounds_toArray, List.set_cons_zero, List.set_cons_succ, i64_w, i32_w]
            rfl
          refine take_ (i := 8) (N := some 51) (v := ?_) (a' := ?_) #[true, true, true, true, true, true, true, true, true, false, false, false, true, true, false, false, false, false, false] rfl rfl (by kernel_rfl) (fun _ _ _ h => h) (Or.inl ⟨by rfl, ?_⟩) hHeld ?_ ?_
          rotate_left
          · rintro w' ⟨s0, s1⟩
            go_simp
            with_reducible rfl
          rotate_left
          · simp only [Act.put, List.setIfInBounds_toArray, List.set_cons_zero, List.set_cons_succ, i64_w, i32_w]
            rfl
          refine pure_ (i := 9) (N := some 52) (v := ?_) (a' := ?_) #[true, true, true, true, true, true, true, true, true, true, false, false, true, true, false, false, false, false, false] rfl rfl (by kernel_rfl) (fun _ _ _ h => h) (Or.inl ⟨by rfl, ?_⟩) ?_ ?_
          rotate_left
          · intro w'
            go_simp
            with_reducible rfl
          rotate_left
          · simp only [Act.put, List.setIfInBounds_toArray, List.set_cons_zero, List.set_cons_succ, i64_w, i32_w]
            rfl
          refine pure_ (i := 10) (N := some 53) (v := ?_) (a' := ?_) #[true, true, true, true, true, true, true, true, true, true, true, false, true, true, false, false, false, false, false] rfl rfl (by kernel_rfl) (fun _ _ _ h => h) (Or.inl ⟨by rfl, ?_⟩) ?_ ?_
          rotate_left
          · intro w'
            go_simp
            with_reducible rfl
          rotate_left
          · simp only [Act.put, List.setIfInBounds_toArray, List.set_cons_zero, List.set_cons_succ, i64_w, i32_w]
            rfl
          refine one_ (i := 11) (N := some 54) #[true, true, true, true, true, true, true, true, true, true, true, true, true, true, false, false, false, false, false] rfl rfl (by kernel_rfl) (by decide) (fun K hK => ?_)
          have B4 := Aside0.mk (BK.out.litRow (enc := Value.int .u8) (h1 := fun _ => rfl) (e := 5) [] (by simp))
          refine value_ (w1 := ?_) (v := ?_) (by rfl) rfl ?_ ?_
          rotate_left 2
          · go_simp
            constructor
            · rfl
            · rfl
          refine hK.out _ _ ⟨cell_later B4.out.toBelow HZ1.out, cell_later B4.out.toBelow HZ2.out⟩ (fun hHeld => ?_)
          clear hK K
          refine norm_ (a' := ?_) ?_ ?_
          rotate_left
          · show Act.put _ (some 54) _ = _
            simp only [Act.put, List.setIfInBounds_toArray, List.set_cons_zero, List.set_cons_succ, i64_w, i32_w]
            rfl
          refine one_ (i := 14) (N := some 57) #[true, true, true, true, true, true, true, true, true, true, true, true, true, true, true, false, false, false, false] rfl rfl (by kernel_rfl) (by decide) (fun K hK => ?_)
          refine B4.out.appendStep (by rfl) (.tmp 54) (.tmp 56) 30 (.int .u8 0) 1 rfl Try.underlying30 infoB rfl (by decide) A5 64 (c4 - 2) (by rfl) (by rfl) (Kd.C_below HC5.out B4.out.toBelow) (by have := AL.out; simp; omega) ?_
          intro v5 w5 hS5
          obtain ⟨A6, c6, rfl⟩ := hS5.rowN (n := 64) (by have := AL.out; simpa using this)
          have B5 := Aside0.mk hS5
          clear hS5
          refine hK.out _ _ ⟨cell_later B5.out.toBelow HZ1.out, cell_later B5.out.toBelow HZ2.out⟩ (fun hHeld => ?_)
          clear hK K
          refine norm_ (a' := ?_) ?_ ?_
          rotate_left
          · show Act.put _ (some 57) _ = _
            simp only [Act.put, List.setIfInBounds_toArray, List.set_cons_zero, List.set_cons_succ, i64_w, i32_w]
            rfl
          refine pure_ (i := 15) (N := some 58) (v := ?_) (a' := ?_) #[true, true, true, true, true, true, true, true, true, true, true, true, true, true, true, true, false, false, false] rfl rfl (by kernel_rfl) (fun _ _ _ h => h) (Or.inl ⟨by rfl, ?_⟩) ?_ ?_
          rotate_left
          · intro w'
            go_simp
            with_reducible rfl
          rotate_left
          · simp only [Act.put, List.setIfInBounds_toArray, List.set_cons_zero, List.set_cons_succ, i64_w, i32_w]
            rfl
          refine one_ (i := 16) (N := some 59) #[true, true, true, true, true, true, true, true, true, true, true, true, true, true, true, true, true, false, false] rfl rfl (by kernel_rfl) (by decide) (fun K hK => ?_)
          have E3 := Aside0.mk ((B5.out.elSlice.elPair (a := Kd.int .i64) (x := P0 * 256 + P1) (p := [.int .i64 (P0 * 256 + P1)]) (fun _ _ _ => rfl)).at2)
          refine value_ (w1 := ?_) (v := ?_) (by rfl) rfl ?_ ?_
          rotate_left 2
          · go_simp
            constructor
            · rfl
            · rfl
          refine hK.out _ _ ⟨cell_later (below_alloc B5.out.toBelow _) HZ1.out, cell_later (below_alloc B5.out.toBelow _) HZ2.out⟩ (fun hHeld => ?_)
          clear hK K
          refine norm_ (a' := ?_) ?_ ?_
          rotate_left
          · show Act.put _ (some 59) _ = _
            simp only [Act.put, List.setIfInBounds_toArray, List.set_cons_zero, List.set_cons_succ, i64_w, i32_w]
            rfl
          refine last_ (i := 17) (N := some 60) #[true, true, true, true, true, true, true, true, true, true, true, true, true, true, true, true, true, true, false] rfl rfl (by kernel_rfl) (by decide) (fun K hK => ?_)
          refine E3.out.appendDeepStep (by rfl) (.tmp 43) (.tmp 59) 47 _ 32 rfl Try.underlying47 infoCh rfl (by decide) (by decide) (by rfl) (by rfl) (by simp; omega) ?_
          intro v7 w7 hs7 hS7
          have B7 := Aside0.mk hS7
          clear hS7
          refine hK.out _ _ ?_
          clear hK K
          refine norm_ (a' := ?_) ?_ ?_
          rotate_left
          · show Act.put _ (some 60) _ = _
            simp only [Act.put, List.setIfInBounds_toArray, List.set_cons_zero, List.set_cons_succ, i64_w, i32_w]
            rfl
          refine pure_ (i := 18) (N := some 7) (v := ?_) (a' := ?_) #[true, true, true, true, true, true, true, true, true, true, true, true, true, true, true, true, true, true, true] rfl rfl (by kernel_rfl) (fun _ _ _ h => h) (Or.inl ⟨by rfl, ?_⟩) ?_ ?_
          rotate_left
          · intro w'
            go_simp
            with_reducible rfl
          rotate_left
          · simp only [Act.put, List.setIfInBounds_toArray, List.set_cons_zero, List.set_cons_succ, i64_w, i32_w]
            rfl
          refine done_ (by kernel_rfl) ?_
          go_wp2_with fail
          go_roundg (gk - 1)
          case measure => have := AK.out; omega
          case rel => exact ⟨j + 1, by go_num, by have := AK.out; omega, by rw [List.range_succ, List.map_append, List.map_cons, List.map_nil, AX.out]; exact B7.out⟩
        · have hjm2 : j = m := by omega
          subst hjm2
          have hjp : ¬ (j : Int) < p * 256 + q := by have := HC.out; omega
          have hrw : (List.range j).map (chunkF b) = rawF b := by unfold rawF; rw [HC.out.2.1]
          have hlen : (rawF b).length = j := by rw [← hrw]; simp
          rw [hrw] at hS
          have AS := Aside0.mk hS
          have AL := Aside0.mk hlen
          clear hS hjm hrw hlen hne2 hlb
          go_wp2_with fail
          refine (rchanges_ (l := rawF b) (by have := AS.out.rowC.2.2; rwa [AL.out] at this) pages).mono ?_
          rintro e w9 ⟨rfl, hb9⟩
          have B9 := Aside0.mk (AS.out.below hb9)
          clear hb9
          cases hrt : rightF (rawF b) pages with
          | false =>
            have HU : Aside0 (undeltaF b pages = none) := ⟨by
              unfold undeltaF
              have := HC.out
              rw [if_neg (by omega), if_neg (by rw [this.2.1]; omega), hrt]; rfl⟩
            clear hrt
            go_wp2_with fail
            go_ret2
            exact ⟨_, by rw [HU.out]; first | rfl | (simp; done), by rw [HU.out]; exact B9.out.tail.nilRow KC _⟩
          | true =>
            have HU : Aside0 (undeltaF b pages = some (rawF b)) := ⟨by
              unfold undeltaF
              have := HC.out
              rw [if_neg (by omega), if_neg (by rw [this.2.1]; omega), hrt]; rfl⟩
            clear hrt
            go_wp2_with fail
            go_ret2
            exact ⟨_, by rw [HU.out]; first | rfl | (simp; done), by rw [HU.out]; exact B9.out⟩
    · have hne : ((b.length : Int) != 2 + (p * 256 + q) * 66) = true := by simp; omega
      have HU : Aside0 (undeltaF b pages = none) := ⟨by
        unfold undeltaF
        rw [if_neg (by omega), if_pos (by rw [hcf]; exact hmm)]⟩
      clear hr hb hn hcf hmm hcn
      go_enter Try.func139, Try.ntmps139
      go_wp2_with fail
      go_quiet (fail)
      go_wp2_with fail
      go_ret2
      exact ⟨_, by rw [HU.out]; first | rfl | (simp; done), by rw [HU.out]; exact ((Sep.start w).drewN _).nilRow KC _⟩
end Go.Proofs.Ytjngnigelkgekaa.Delta
namespace Go.Proofs.Ytjngnigelkgekaa.Delta
set_option linter.unusedVariables false
set_option linter.unusedSimpArgs false
open Go.RowKit Go.Proofs.YtjngnigelkgekaaW.PrintWords Go.Proofs.YtjngnigelkgekaaW.PrintLast Go.Proofs.YtjngnigelkgekaaW.PrintMore Go.Proofs.Ytjngnigelkgekaa.Kit Go.Proofs.Ytjngnigelkgekaa.Base Go.Proofs.Ytjngnigelkgekaa.Plain
theorem strC {W : World} {A : Option Addr} {n c : Nat} {xs : List Int} (h : U8.C W A n xs) : (convert 30 9 (.slice A n c)).run Try.prog W = .ok (.string (strOfNums xs)) W := by
  obtain rfl : xs.length = n := h.1
  exact Kd.C_string (P := Try.prog) (c := c) Try.underlying30 Try.underlying5 Try.underlying9 h
theorem beq_str (a b : ByteArray) : (a.toList == b.toList) = decide (a = b) := by
  rw [ByteArray.toList_eq, ByteArray.toList_eq]
  by_cases h : a = b
  · subst h; simp
  · rw [decide_eq_false h]
    exact beq_eq_false_iff_ne.2 (fun h2 => h (ByteArray.ext (by rw [← Array.toList_inj]; exact h2)))
theorem str_inj {xs ys : List Int} (hx : Bytes xs) (hy : Bytes ys) (h : strOfNums xs = strOfNums ys) : xs = ys := by
  have h2 : (strOfNums xs).data.toList = (strOfNums ys).data.toList := by rw [h]
  rw [strOfNums_data, strOfNums_data] at h2
  have hl : xs.length = ys.length := by simpa using congrArg List.length h2
  apply List.ext_getElem hl
  intro i h3 h4
  have h5 : (xs.map fun n => UInt8.ofNat n.toNat)[i]? = (ys.map fun n => UInt8.ofNat n.toNat)[i]? := by rw [h2]
  rw [List.getElem?_map, List.getElem?_map, List.getElem?_eq_getElem h3, List.getElem?_eq_getElem h4, Option.map_some, Option.map_some, Option.some.injEq] at h5
  have a1 := hx xs[i] (List.getElem_mem h3)
  have a2 := hy ys[i] (List.getElem_mem h4)
  have h6 := congrArg UInt8.toNat h5
  rw [UInt8.toNat_ofNat', UInt8.toNat_ofNat'] at h6
  omega
set_option maxHeartbeats 1600000 in
set_option maxRecDepth 100000 in
theorem rsame_ {A B : Option Addr} {n c m d : Nat} {xs ys : List Chg} {w : World} (h1 : KC.C w A n xs) (h2 : KC.C w B m ys) (b1 : ∀ c ∈ xs, Bytes c.2) (b2 : ∀ c ∈ ys, Bytes c.2) :
    Calls Try.prog 131 #[.slice A n c, .slice B m d] w fun e w' => e = .returned (.bool (decide (xs = ys))) ∧ Below w.heap.size w w' := by
  obtain rfl : xs.length = n := h1.1
  obtain rfl : ys.length = m := h2.1
  have hm1 : xs.length ≤ 9223372036854775807 := h1.2.1
  have hm2 : ys.length ≤ 9223372036854775807 := h2.2.1
  have H1 := Aside0.mk h1
  have H2 := Aside0.mk h2
  have HB := Aside0.mk (And.intro b1 b2)
  clear h1 h2 b1 b2
  by_cases hl : xs.length = ys.length
  · have hl' : ((xs.length : Int) != (ys.length : Int)) = false := by simp; omega
    have AEQ := Aside0.mk hl
    clear hl
    go_enter Try.func131, Try.ntmps131
    go_wp2_with fail
    go_loopg [13] xs.length (fun k p wr => ∃ j : Nat, p = .int .i64 (j : Int) ∧ j + k = xs.length ∧ Below w.heap.size w wr ∧ ∀ i, i < j → xs[i]? = ys[i]?)
    case atStart => exact ⟨0, rfl, by omega, Below.refl _ _, fun i hi => by omega⟩
    case round =>
      obtain ⟨j, rfl, hjk, hB, hp⟩ := hrel
      have AB := Aside0.mk hB
      have AP := Aside0.mk hp
      have AK := Aside0.mk hjk
      clear hp
      by_cases hj : j < xs.length
      · have hj2 : j < ys.length := by have := AEQ.out; omega
        obtain ⟨hx, a, Ba, ca, rfl, e0, e1, e2, e3⟩ := elem2_ (Kd.C_below H1.out AB.out) hj
        obtain ⟨hy, b, Bb, cb, rfl, f0, f1, f2, f3⟩ := elem2_ (Kd.C_below H2.out AB.out) hj2
        have HX : Aside0 (xs[j]? = some (xs[j]) ∧ ys[j]? = some (ys[j])) := ⟨List.getElem?_eq_getElem hx, List.getElem?_eq_getElem hy⟩
        have HNE : Aside0 (¬ ((xs[j]).1 = (ys[j]).1 ∧ (xs[j]).2 = (ys[j]).2) → xs ≠ ys) := ⟨fun h he => h (by subst he; exact ⟨rfl, rfl⟩)⟩
        have HBB : Aside0 (Bytes (xs[j]).2 ∧ Bytes (ys[j]).2) := ⟨HB.out.1 _ (List.getElem_mem hx), HB.out.2 _ (List.getElem_mem hy)⟩
        generalize hxv : xs[j] = x at *
        generalize hyv : ys[j] = y at *
        obtain ⟨x1, x2⟩ := x
        obtain ⟨y1, y2⟩ := y
        have z0 : ∀ q, (wr.drewN q).cell? (a.add (j * 2)) = some (.int .i64 x1) := fun q => cell_later (pw_below_drewN (Below.refl _ _) q) e0
        have z1 : ∀ q, (wr.drewN q).cell? ⟨(a.add (j * 2)).block, (a.add (j * 2)).off + 1, none⟩ = some (.slice Ba x2.length ca) := fun q => cell_later (pw_below_drewN (Below.refl _ _) q) e1
        have z2 : ∀ q, (wr.drewN q).cell? (b.add (j * 2)) = some (.int .i64 y1) := fun q => cell_later (pw_below_drewN (Below.refl _ _) q) f0
        have z3 : ∀ q, (wr.drewN q).cell? ⟨(b.add (j * 2)).block, (b.add (j * 2)).off + 1, none⟩ = some (.slice Bb y2.length cb) := fun q => cell_later (pw_below_drewN (Below.refl _ _) q) f1
        have k1 := fun q => strC (c := ca) (Kd.C_below e3 (pw_below_drewN (Below.refl _ _) q))
        have k2 := fun q => strC (c := cb) (Kd.C_below f3 (pw_below_drewN (Below.refl _ _) q))
        have HI : Aside0 (strOfNums x2 = strOfNums y2 → x2 = y2) := ⟨str_inj HBB.out.1 HBB.out.2⟩
        have HI2 : Aside0 (x2 = y2 → strOfNums x2 = strOfNums y2) := ⟨fun h => by rw [h]⟩
        generalize strOfNums x2 = sx at *
        generalize strOfNums y2 = sy at *
        have hjl : (j : Int) < (xs.length : Int) := by omega
        have hjl2 : (j : Int) < (ys.length : Int) := by omega
        have hlx : x2.length ≤ 9223372036854775807 := e3.2.1
        have hly : y2.length ≤ 9223372036854775807 := f3.2.1
        obtain ⟨nx, hnx⟩ : ∃ nx, x2.length = nx := ⟨_, rfl⟩
        obtain ⟨ny, hny⟩ : ∃ ny, y2.length = ny := ⟨_, rfl⟩
        rw [hnx] at z1 k1 hlx
        rw [hny] at z3 k2 hly
        clear hxv hyv e0 e1 e2 e3 f0 f1 f2 f3 hjk hB hnx hny
        by_cases hxy : x1 = y1
        · have hp1 : (x1 != y1) = false := by simpa using hxy
          have HXY := Aside0.mk hxy
          clear hxy
          by_cases hss : sx = sy
          · have hp2 : (sx.toList == sy.toList) = true := by rw [beq_str, decide_eq_true hss]
            have HSS := Aside0.mk hss
            clear hss
            go_wp2_with fail
            go_quiet (fail)
            go_wp2_with fail
            go_roundg (gk - 1)
            case measure => have := AK.out; omega
            case rel => exact ⟨j + 1, by go_num, by have := AK.out; omega, pw_below_drewN AB.out _, fun i hi => by
              by_cases hij : i < j
              · exact AP.out i hij
              · obtain rfl : i = j := by omega
                rw [HX.out.1, HX.out.2, HXY.out, HI.out HSS.out]⟩
          · have hp2 : (sx.toList == sy.toList) = false := by rw [beq_str, decide_eq_false hss]
            have ANE : Aside0 (xs ≠ ys) := ⟨HNE.out (fun h => hss (HI2.out h.2))⟩
            clear hss
            go_wp2_with fail
            go_quiet (fail)
            go_wp2_with fail
            go_ret
            exact ⟨by rw [decide_eq_false ANE.out]; rfl, pw_below_drewN AB.out _⟩
        · have hp1 : (x1 != y1) = true := by simpa using hxy
          have ANE : Aside0 (xs ≠ ys) := ⟨HNE.out (fun h => hxy h.1)⟩
          clear hxy
          go_wp2_with fail
          go_quiet (fail)
          go_wp2_with fail
          go_ret
          exact ⟨by rw [decide_eq_false ANE.out]; rfl, pw_below_drewN AB.out _⟩
      · have hq : xs = ys := List.ext_getElem? (fun i => by
          by_cases hi : i < j
          · exact AP.out i hi
          · have := AEQ.out
            rw [List.getElem?_eq_none (by omega), List.getElem?_eq_none (by omega)])
        have AQ := Aside0.mk hq
        clear hq hjk hB
        go_wp2_with fail
        go_ret
        exact ⟨by rw [decide_eq_true AQ.out]; rfl, AB.out⟩
  · have hne : xs ≠ ys := fun h => hl (by rw [h])
    have ANE := Aside0.mk hne
    have hl' : ¬ (xs.length : Int) = (ys.length : Int) := by omega
    clear hne
    go_enter Try.func131, Try.ntmps131
    go_wp2_with fail
    go_ret
    exact ⟨by rw [decide_eq_false ANE.out]; rfl, Below.refl _ _⟩
end Go.Proofs.Ytjngnigelkgekaa.Delta
namespace Go.Proofs.Ytjngnigelkgekaa.Root
set_option linter.unusedVariables false
set_option linter.unusedSimpArgs false
open Go.RowKit Go.Proofs.YtjngnigelkgekaaW.PrintWords Go.Proofs.YtjngnigelkgekaaW.PrintLast Go.Proofs.YtjngnigelkgekaaW.PrintMore Go.Proofs.Ytjngnigelkgekaa.Kit Go.Proofs.Ytjngnigelkgekaa.Base Go.Proofs.Ytjngnigelkgekaa.Plain Go.Proofs.Ytjngnigelkgekaa.Sum
end Go.Proofs.Ytjngnigelkgekaa.Root
namespace Go.Proofs.Ytjngnigelkgekaa.Root
set_option linter.unusedVariables false
set_option linter.unusedSimpArgs false
open Go.RowKit Go.Proofs.YtjngnigelkgekaaW.PrintWords Go.Proofs.YtjngnigelkgekaaW.PrintLast Go.Proofs.YtjngnigelkgekaaW.PrintMore Go.Proofs.Ytjngnigelkgekaa.Kit Go.Proofs.Ytjngnigelkgekaa.Base Go.Proofs.Ytjngnigelkgekaa.Plain Go.Proofs.Ytjngnigelkgekaa.Sum
macro "go_retc " v:term : tactic => `(tactic| ((try simp only [Exit.inBlock, Exit.then]); refine bodyPost_ret (v := $v) (by rw [results_cell_tmp rfl]; go_simp) rfl ?_))
end Go.Proofs.Ytjngnigelkgekaa.Root
namespace Go.Proofs.Ytjngnigelkgekaa.Str
set_option linter.unusedVariables false
set_option linter.unusedSimpArgs false
open Go.RowKit Go.Proofs.YtjngnigelkgekaaW.PrintWords Go.Proofs.YtjngnigelkgekaaW.PrintLast Go.Proofs.YtjngnigelkgekaaW.PrintMore Go.Proofs.Ytjngnigelkgekaa.Kit Go.Proofs.Ytjngnigelkgekaa.Plain
abbrev U8 : Kd Int := Kd.int .u8
theorem strC {W : World} {A : Option Addr} {n c : Nat} {xs : List Int} (h : U8.C W A n xs) : (convert 30 9 (.slice A n c)).run Try.prog W = .ok (.string (strOfNums xs)) W := by
  obtain rfl : xs.length = n := h.1
  exact Kd.C_string (P := Try.prog) (c := c) Try.underlying30 Try.underlying5 Try.underlying9 h
end Go.Proofs.Ytjngnigelkgekaa.Str
namespace Go.Proofs.Ytjngnigelkgekaa.Root
set_option linter.unusedVariables false
set_option linter.unusedSimpArgs false
open Go.RowKit Go.Proofs.YtjngnigelkgekaaW.PrintWords Go.Proofs.YtjngnigelkgekaaW.PrintLast Go.Proofs.YtjngnigelkgekaaW.PrintMore Go.Proofs.Ytjngnigelkgekaa.Kit Go.Proofs.Ytjngnigelkgekaa.Base Go.Proofs.Ytjngnigelkgekaa.Plain Go.Proofs.Ytjngnigelkgekaa.Sum
end Go.Proofs.Ytjngnigelkgekaa.Root
namespace Go.Proofs.Ytjngnigelkgekaa.Kit
set_option linter.unusedVariables false
set_option linter.unusedSimpArgs false
open Go.RowKit Go.Proofs.YtjngnigelkgekaaW.PrintWords
/-- An entry: key, value, stamp. -/
structure En where
  k : Int
  v : Value
  born : Nat
def En.toE (e : En) : MapEntry := { key := .int .i64 e.k, val := e.v, born := e.born }
def ens (l : List En) : Array MapEntry := (l.map En.toE).toArray
theorem findNow_none (i : Int) : ∀ (l : List En) (j : Nat), (∀ e ∈ l, e.k ≠ i) → Instr.findNow (.int .i64) (.int .i64 i) (l.map En.toE) j = some none
  | [], _, _ => rfl
  | e :: l, j, h => by
    have h1 : (i == e.k) = false := by have := h e (by simp); simpa using fun he => this he.symm
    show (match Instr.sameNow (.int .i64) (.int .i64 i) (.int .i64 e.k) with | some true => _ | some false => _ | none => _) = _
    simp only [Instr.sameNow, if_true, h1]
    exact findNow_none i l (j + 1) (fun x hx => h x (by simp [hx]))
theorem findNow_some (i : Int) (e : En) (post : List En) (he : e.k = i) : ∀ (pre : List En) (j : Nat), (∀ x ∈ pre, x.k ≠ i) → Instr.findNow (.int .i64) (.int .i64 i) ((pre ++ e :: post).map En.toE) j = some (some (j + pre.length, e.v))
  | [], j, _ => by
    have h1 : (i == e.k) = true := by simp [he]
    simp [Instr.findNow, En.toE, Instr.sameNow, h1]
  | x :: pre, j, h => by
    have h1 : (i == x.k) = false := by have := h x (by simp); simpa using fun he => this he.symm
    have h2 := findNow_some i e post he pre (j + 1) (fun y hy => h y (by simp [hy]))
    show (match Instr.sameNow (.int .i64) (.int .i64 i) (.int .i64 x.k) with | some true => _ | some false => _ | none => _) = _
    simp only [Instr.sameNow, if_true, h1]
    refine h2.trans ?_
    rw [List.length_cons]
    congr 3; omega
theorem modify_mid {α : Type} (f : α → α) (x : α) (post : List α) : ∀ pre : List α, (pre ++ x :: post).modify pre.length f = pre ++ f x :: post
  | [] => rfl
  | y :: pre => by
    have := modify_mid f x post pre
    simpa using this
section
variable {P : Program} {T K E : TypeId} {m clock : Nat} {W : World} {l pre post : List En} {e : En}
theorem get_map {es : Array MapEntry} (hm : W.heap[m]? = some (.map es clock)) : (getObj m).run P W = .ok (.map es clock) W := by simp [getObj, Sem.run, hm]
theorem set_map {es : Array MapEntry} (hm : W.heap[m]? = some (.map es clock)) (o : Obj) : (setObj m o).run P W = .ok () { W with heap := W.heap.setIfInBounds m o } := by simp [setObj, Sem.run, hm]
theorem check_int (hK : P.underlying K = some (.int .i64)) (b : Bool) (i : Int) : (Instr.checkKey b 10000 K (.int .i64 i)).run P W = .ok () W := by
  show (Instr.checkKey b (9999 + 1) K (.int .i64 i)).run P W = _
  unfold Instr.checkKey
  simp [run_underlying hK]
theorem lookup_none (hT : P.underlying T = some (.map K E)) (hK : P.underlying K = some (.int .i64)) {z : Value} (hz : ∀ W : World, (zeroValue E).run P W = .ok z W) (hm : W.heap[m]? = some (.map (ens l) clock)) (i : Int) (h : ∀ e ∈ l, e.k ≠ i) :
    (Instr.lookup T (.map (some m)) (.int .i64 i) true).run P W = .ok (.tuple #[z, .bool false]) W := by
  have h1 := findNow_none i l 0 h
  have hc := fun b => check_int (W := W) hK b i
  simp [Instr.lookup, run_underlying hT, get_map hm, hc, run_underlying hK, Instr.findKey, ens, h1, hz]
theorem lookup_some (hT : P.underlying T = some (.map K E)) (hK : P.underlying K = some (.int .i64)) (hm : W.heap[m]? = some (.map (ens (pre ++ e :: post)) clock)) (h : ∀ x ∈ pre, x.k ≠ e.k) :
    (Instr.lookup T (.map (some m)) (.int .i64 e.k) true).run P W = .ok (.tuple #[e.v, .bool true]) W := by
  have h1 := findNow_some e.k e post rfl pre 0 h
  have hc := fun b => check_int (W := W) hK b e.k
  rw [List.map_append, List.map_cons] at h1
  simp [Instr.lookup, run_underlying hT, get_map hm, hc, run_underlying hK, Instr.findKey, ens, h1]
theorem lookup1_some (hT : P.underlying T = some (.map K E)) (hK : P.underlying K = some (.int .i64)) (hm : W.heap[m]? = some (.map (ens (pre ++ e :: post)) clock)) (h : ∀ x ∈ pre, x.k ≠ e.k) :
    (Instr.lookup T (.map (some m)) (.int .i64 e.k) false).run P W = .ok e.v W := by
  have h1 := findNow_some e.k e post rfl pre 0 h
  have hc := fun b => check_int (W := W) hK b e.k
  rw [List.map_append, List.map_cons] at h1
  simp [Instr.lookup, run_underlying hT, get_map hm, hc, run_underlying hK, Instr.findKey, ens, h1]
def World.putMap (W : World) (m : Nat) (l : List En) (clock : Nat) : World := { W with heap := W.heap.setIfInBounds m (.map (ens l) clock) }
theorem update_new (hT : P.underlying T = some (.map K E)) (hK : P.underlying K = some (.int .i64)) (hm : W.heap[m]? = some (.map (ens l) clock)) (i : Int) (v : Value) (h : ∀ e ∈ l, e.k ≠ i) :
    (Instr.mapUpdate T (.map (some m)) (.int .i64 i) v).run P W = .ok () (World.putMap W m (l ++ [⟨i, v, clock⟩]) (clock + 1)) := by
  have h1 := findNow_none i l 0 h
  have hc := fun b => check_int (W := W) hK b i
  simp [Instr.mapUpdate, run_underlying hT, get_map hm, set_map hm, hc, run_underlying hK, Instr.findKey, ens, h1, World.putMap, En.toE]
theorem update_old (hT : P.underlying T = some (.map K E)) (hK : P.underlying K = some (.int .i64)) (hm : W.heap[m]? = some (.map (ens (pre ++ e :: post)) clock)) (v : Value) (h : ∀ x ∈ pre, x.k ≠ e.k) :
    (Instr.mapUpdate T (.map (some m)) (.int .i64 e.k) v).run P W = .ok () (World.putMap W m (pre ++ ⟨e.k, v, e.born⟩ :: post) clock) := by
  have h1 := findNow_some e.k e post rfl pre 0 h
  have h2 : Instr.sameBits 10000 (.int .i64 e.k) (.int .i64 e.k) = true := by simp [Instr.sameBits]
  have h3 := modify_mid (fun x : MapEntry => ({ key := .int .i64 e.k, val := v, born := x.born } : MapEntry)) e.toE (post.map En.toE) (pre.map En.toE)
  rw [List.length_map] at h3
  have hc := fun b => check_int (W := W) hK b e.k
  rw [List.map_append, List.map_cons] at h1
  simp only [En.toE] at h1 h3
  simp [Instr.mapUpdate, run_underlying hT, get_map hm, set_map hm, hc, run_underlying hK, Instr.findKey, ens, h1, World.putMap, Instr.keyThatStays, En.toE, h2]
  rw [h3]
end
end Go.Proofs.Ytjngnigelkgekaa.Kit
namespace Go.Proofs.Ytjngnigelkgekaa.Disk
set_option linter.unusedVariables false
set_option linter.unusedSimpArgs false
open Go.RowKit Go.Proofs.YtjngnigelkgekaaW.PrintWords Go.Proofs.YtjngnigelkgekaaW.PrintLast Go.Proofs.YtjngnigelkgekaaW.PrintMore Go.Proofs.Ytjngnigelkgekaa.Kit
theorem infoB : (Try.prog.info? 5).map (fun i => (i.zero, i.size, i.bytes)) = some (some (.int .u8 0), 1, 1) := by kernel_rfl
abbrev U8 : Kd Int := Kd.int .u8
/-- A sector that waits, as the map has it. -/
structure Ent where
  k : Nat
  b : List Int
  A : Option Addr
  c : Nat
  born : Nat
def Ent.en (e : Ent) : En := ⟨(e.k : Int), .slice e.A 64 e.c, e.born⟩
def Ent.rd (e : Ent) : HP := Rd U8 e.A 64 e.b
structure DskOk (las : List Int) (ents : List Ent) (clock : Nat) (wt : Nat → Option (List Int)) : Prop where
  len : ∃ n, las.length = 64 * n ∧ 1 ≤ n ∧ n ≤ 160
  keys : (ents.map (·.k)).Nodup
  borns : (ents.map (·.born)).Nodup
  each : ∀ e ∈ ents, e.born < clock ∧ 64 * e.k < las.length ∧ e.b.length = 64 ∧ 64 ≤ e.c
  wt : ∀ i, wt i = (ents.find? (fun e => e.k == i)).map (·.b)
def Dsk (g : Nat) (las : List Int) (wt : Nat → Option (List Int)) : HP := Ex fun (x : Value × Nat × List Ent × Nat) =>
  Star (Pu (DskOk las x.2.2.1 x.2.2.2 wt) :: Blk g 96 #[x.1, .map (some x.2.1)] :: Row U8 5 x.1 las :: MapB x.2.1 (ens (x.2.2.1.map Ent.en)) x.2.2.2 :: x.2.2.1.map Ent.rd)
section
variable {w0 W : World} {g : Nat} {las : List Int} {wt : Nat → Option (List Int)} {F : List HP}
theorem open_ (h : Sep w0 W (Dsk g las wt :: F)) : ∃ v m ents clock, DskOk las ents clock wt ∧ Sep w0 W (Blk g 96 #[v, .map (some m)] :: Row U8 5 v las :: MapB m (ens (ents.map Ent.en)) clock :: (ents.map Ent.rd ++ F)) := by
  obtain ⟨⟨v, m, ents, clock⟩, h⟩ := h.ex
  obtain ⟨hok, h⟩ := h.star.pu
  exact ⟨v, m, ents, clock, hok, h⟩
theorem shut_ {v : Value} {m : Nat} {ents : List Ent} {clock : Nat} (hok : DskOk las ents clock wt) (h : Sep w0 W (Blk g 96 #[v, .map (some m)] :: Row U8 5 v las :: MapB m (ens (ents.map Ent.en)) clock :: (ents.map Ent.rd ++ F))) : Sep w0 W (Dsk g las wt :: F) := by
  refine Sep.unex (v, m, ents, clock) (Sep.unstar ?_)
  exact Sep.unpu hok h
theorem DskOk.pos {ents : List Ent} {clock : Nat} (h : DskOk las ents clock wt) : 64 ≤ las.length ∧ las.length ≤ 10240 ∧ (las.length / 64) * 64 = las.length := by
  obtain ⟨n, h1, h2, h3⟩ := h.len
  omega
/-- What a walk reads of a disk. -/
theorem reads_ (h : Sep w0 W (Dsk g las wt :: F)) : ∃ gl c m, W.cell? ⟨g, 0, none⟩ = some (.slice (some ⟨gl, 0, none⟩) las.length c) ∧ W.cell? ⟨g, 1, none⟩ = some (.map (some m)) ∧ las.length ≤ c ∧ U8.C W (some ⟨gl, 0, none⟩) las.length las ∧ 64 ≤ las.length ∧ las.length ≤ 10240 ∧ (las.length / 64) * 64 = las.length := by
  obtain ⟨v, m, ents, clock, hok, h⟩ := open_ h
  obtain ⟨p1, p2, p3⟩ := hok.pos
  obtain ⟨gl, c, rfl⟩ := h.tail.rowForm (by omega)
  have hr := h.tail.rowC
  exact ⟨gl, c, m, by rw [h.cell 0]; rfl, by rw [h.cell 1]; rfl, hr.2.1, hr.2.2, p1, p2, p3⟩
end
def cloneF (l0 : List Int) : Option (List Int) := if l0.length < 140737488355328 then (some l0) else none
set_option maxHeartbeats 8000000 in
set_option maxRecDepth 100000 in
theorem clone0 (A0 : Option Addr) (c0 : Nat) (l0 : List Int) (r : List Int) (w : World) (hr0 : Kd.C (Kd.int .u8) w A0 l0.length l0) (hc0 : l0.length ≤ c0) (h : cloneF l0 = some r) :
    Calls Try.prog 94 #[.slice A0 l0.length c0] w fun e w' => ∃ v0_ : Value, e = .returned (v0_) ∧ Kd.R (Kd.int .u8) 5 w' w.heap.size (fun _ => True) v0_ r ∧ Below w.heap.size w w' := by
  have HR0 := Aside0.mk hr0
  have HC0 := Aside0.mk hc0
  clear hr0 hc0
  have HB := Aside0.mk (Below.refl w.heap.size w)
  have hl : l0.length < 140737488355328 ∧ l0 = r := by
    unfold cloneF at h
    split at h
    · exact ⟨by assumption, Option.some.inj h⟩
    · cases h
  obtain ⟨hl, rfl⟩ := hl
  have LMc3 := Aside0.mk hl
  clear h hl
  cases A0 with
  | none =>
    have hl0 : l0 = [] := by
      have := HR0.out
      cases l0 with
      | nil => rfl
      | cons a t => obtain ⟨ad, e, _⟩ := Kd.at_int HR0.out 0 (by decide) (by simp); cases e
    subst hl0
    have heq : ∀ W : World, Sem.run Try.prog (binOp .eql 30 (.slice none 0 c0) (.slice none 0 0)) W = .ok (.bool true) W := fun W => Lib.run_eql_slice_nil W 30 5 none _ c0 0 0 Try.underlying30
    show Calls Try.prog 94 #[.slice none 0 c0] w _
    go_enter Try.func94, Try.ntmps94
    go_wp2
    go_ret
    exact ⟨_, rfl, Kd.R_nil _ _ _ _ _, HB.out⟩
  | some a0 =>
    have heq : ∀ W : World, Sem.run Try.prog (binOp .eql 30 (.slice (some a0) l0.length c0) (.slice none 0 0)) W = .ok (.bool false) W := fun W => Lib.run_eql_slice_nil W 30 5 (some a0) _ c0 0 0 Try.underlying30
    go_enter Try.func94, Try.ntmps94
    go_wp2_with (first | ((with_reducible refine gate_dst (N := 5) rfl ?_); refine Kd.R_lit (Kd.int .u8) _ 5 ?hg (N := 5) ?hd (xs := ([] : List Int)) (inner := []) (ok := fun _ => True) (okp := fun _ => True) ?hr ?hp (fun _ hk => hk) trivial (Below.refl _ _) (Nat.le_refl _) (by simp) ?_; (case hd => rfl); (case hg => rfl); (case hr => first | (go_simp; done) | (go_simp; rfl)); (case hp => exact (Reps.none _ _)); intro v117 w5 ho6 hb hg_ hnew_; clear hg_ hnew_; have n0_ := Aside0.mk (Kd.R_lower ho6 (below_size (by repeat (first | (with_reducible first | exact HB.out | apply below_alloc | apply pw_below_drewN | apply below_drew1) | exact HB.out)))); have n1_ := Aside0.mk (below_step (by repeat (first | (with_reducible first | exact HB.out | apply below_alloc | apply pw_below_drewN | apply below_drew1) | exact HB.out)) hb); clear HB; have HO118 := n0_; have HB := n1_; clear n0_ n1_; clear hb ho6) | ((with_reducible refine gate_builtin (b := .append) (xs := #[.tmp 5, .tmp 6]) rfl ?_); at_builtin; refine Kd.R_append_rows (Kd.int .u8) (w0 := w) w.heap.size rfl (.tmp 5) (.tmp 6) 30 5 (.int .u8 0) 1 rfl Try.underlying30 infoB rfl (by decide) (by omega) v117 [] l0 _ _ _ (fun _ => True) (fun _ => False) rfl rfl ?aO ?aR (fun _ _ h => h) (fun _ h => h.elim) ?aF ?aB ?aS ?aL ?_; (case aR => repeat (first | exact (Kd.C_below HR0.out HB.out) | (with_reducible refine Kd.C_alloc ?_ _) | (with_reducible refine Kd.C_drewN ?_ _) | (with_reducible refine Kd.C_drew ?_))); (case aB => exact (by repeat (first | (with_reducible first | exact HB.out | apply below_alloc | apply pw_below_drewN | apply below_drew1) | exact HB.out))); (case aF => exact (fun _ _ => trivial)); (case aO => exact (by (with_reducible repeat (first | apply Kd.R_alloc | apply Kd.R_drewN | apply Kd.R_drew)); exact HO118.out)); (case aS => exact (below_size (by repeat (first | (with_reducible first | exact HB.out | apply below_alloc | apply pw_below_drewN | apply below_drew1) | exact HB.out)))); (case aL => have := LMc3.out; simp only [List.length_nil]; omega); intro v120 w7 ho hb hg hat; rw [List.nil_append] at ho; have n0_ := Aside0.mk (hb); have n1_ := Aside0.mk (ho); clear HB; clear HO118; have HB := n0_; have HO121 := n1_; clear n0_ n1_; clear ho hb hg hat))
    go_ret
    exact ⟨_, by first | rfl | (simp; done) | (simp [*]; done), by (with_reducible repeat (first | apply Kd.R_alloc | apply Kd.R_drewN | apply Kd.R_drew)); exact Kd.R_mono HO121.out (fun _ hk => trivial), by repeat (first | (with_reducible first | exact HB.out | apply below_alloc | apply pw_below_drewN | apply below_drew1) | exact HB.out)⟩
/-- slices.Clone of bytes that are read. -/
theorem clone_ {A : Option Addr} {n c : Nat} {l : List Int} {w : World} (hr : U8.C w A n l) (hc : n ≤ c) (hl : n < 140737488355328) :
    Calls Try.prog 94 #[.slice A n c] w fun e w' => ∃ v, e = .returned v ∧ Sep w w' [Row U8 5 v l] := by
  obtain rfl : l.length = n := hr.1
  refine (clone0 A c l l w hr hc (if_pos hl)).mono ?_
  rintro e w' ⟨v, rfl, hR, hB⟩
  exact ⟨v, rfl, (Sep.start w).newRow hR hB⟩
set_option maxHeartbeats 400000 in
theorem len_ {w0 W : World} {g : Nat} {las : List Int} {wt : Nat → Option (List Int)} {F : List HP} (h : Sep w0 W (Dsk g las wt :: F)) :
    Calls Try.prog 50 #[.pointer (some ⟨g, 0, none⟩)] W fun e w' => e = .returned (.int .i64 ((las.length : Int) / 64)) ∧ W = w' := by
  obtain ⟨gl, c, m, h0, h1, h2, h3, h4, h5, h6⟩ := reads_ h
  clear h h1 h3 h6
  go_enter Try.func50, Try.ntmps50
  go_wp2
  go_ret
  exact ⟨by first | rfl | (simp; done), rfl⟩
theorem ret_slice {g o o' n n' c c' : Nat} (h1 : o = o') (h2 : n = n') (h3 : c = c') : Ending.returned (.slice (some ⟨g, o, none⟩) n c) = Ending.returned (.slice (some ⟨g, o', none⟩) n' c') := by rw [h1, h2, h3]
set_option maxHeartbeats 400000 in
theorem there_ {w0 W : World} {g : Nat} {las : List Int} {wt : Nat → Option (List Int)} {F : List HP} (h : Sep w0 W (Dsk g las wt :: F)) (i : Int) :
    Calls Try.prog 93 #[.pointer (some ⟨g, 0, none⟩), .int .i64 i] W fun e w' => e = .returned (.bool (decide (0 ≤ i ∧ i < (las.length : Int) / 64))) ∧ W = w' := by
  by_cases h0 : 0 ≤ i
  all_goals
    go_enter Try.func93, Try.ntmps93
    go_wp2_with (go_at_call 50; refine (len_ h).mono ?_; rintro e w' ⟨rfl, rfl⟩)
    go_ret
    exact ⟨by simp [h0] <;> omega, rfl⟩
set_option maxHeartbeats 400000 in
theorem sector_ {W : World} {g gl L c i : Nat} (h0 : W.cell? ⟨g, 0, none⟩ = some (.slice (some ⟨gl, 0, none⟩) L c)) (hi : 64 * (i + 1) ≤ L) (hL : L ≤ 10240) (hc : L ≤ c) :
    Calls Try.prog 101 #[.pointer (some ⟨g, 0, none⟩), .int .i64 (i : Int)] W fun e w' => e = .returned (.slice (some ⟨gl, 64 * i, none⟩) 64 (c - 64 * i)) ∧ W = w' := by
  go_enter Try.func101, Try.ntmps101
  go_wp2
  go_ret
  exact ⟨ret_slice (by omega) (by omega) (by omega), rfl⟩
set_option maxHeartbeats 400000 in
theorem image_ {w0 W : World} {g : Nat} {las : List Int} {wt : Nat → Option (List Int)} {F : List HP} (h : Sep w0 W (Dsk g las wt :: F)) :
    Calls Try.prog 48 #[.pointer (some ⟨g, 0, none⟩)] W fun e w' => ∃ v, e = .returned v ∧ Sep w0 w' (Row U8 5 v las :: Dsk g las wt :: F) := by
  obtain ⟨gl, c, m, h0, h1, h2, h3, h4, h5, h6⟩ := reads_ h
  have H3 := Aside0.mk h3
  clear h1 h3 h6
  go_enter Try.func48, Try.ntmps48
  go_wp2_with (go_at_call 94; refine (clone_ H3.out h2 (by omega)).mono ?_; rintro e w' ⟨v, rfl, hS⟩)
  go_ret
  exact ⟨_, by first | rfl | (simp; done), h.lift1 hS⟩
end Go.Proofs.Ytjngnigelkgekaa.Disk
namespace Go.Proofs.Ytjngnigelkgekaa.Disk
set_option linter.unusedVariables false
set_option linter.unusedSimpArgs false
open Go.RowKit Go.Proofs.YtjngnigelkgekaaW.PrintWords Go.Proofs.YtjngnigelkgekaaW.PrintLast Go.Proofs.YtjngnigelkgekaaW.PrintMore Go.Proofs.Ytjngnigelkgekaa.Kit
set_option maxHeartbeats 400000 in
theorem of_ok {A : Option Addr} {m c : Nat} {l : List Int} {w : World} (hr : U8.C w A m l) (hc : m ≤ c) {n : Nat} (hn : m = 64 * n) (h1 : 1 ≤ n) (h2 : n ≤ 160) :
    Calls Try.prog 47 #[.slice A m c] w fun e w' => ∃ g, e = .returned (.pointer (some ⟨g, 0, none⟩)) ∧ Sep w w' [Dsk g l (fun _ => none)] := by
  obtain rfl : l.length = m := hr.1
  have HR := Aside0.mk hr
  have HC := Aside0.mk hc
  have hok : DskOk l [] 0 (fun _ => none) := ⟨⟨n, hn, h1, h2⟩, List.nodup_nil, List.nodup_nil, fun _ h => absurd h (by simp), fun _ => rfl⟩
  have HOK := Aside0.mk hok
  have b0 : ¬ l = [] := fun e => by rw [e] at hn; simp at hn; omega
  have b1 : ((l.length : Int) == 0) = false := by simp [b0]
  have b2 : l.length ≤ 10240 := by omega
  have b3 : ((l.length : Int) % 64 != 0) = false := by simp; omega
  have b5 : ¬ (10240 < (l.length : Int)) := by omega
  have hmm := @run_makeMap Try.prog
  clear hr hc hn h1 h2 hok
  go_enter Try.func47, Try.ntmps47
  go_wp2_with (go_at_call 94; refine (clone_ HR.out HC.out (by omega)).mono ?_; rintro e w1 ⟨v, rfl, hS⟩; obtain ⟨A1, c1, rfl⟩ := hS.rowV)
  go_ret
  refine ⟨_, by first | rfl | (simp; done), shut_ (v := .slice A1 l.length c1) (m := w1.heap.size) HOK.out ?_⟩
  have h3 := (hS.newMap.newBlk 96 #[.slice A1 l.length c1, .map (some w1.heap.size)]).sw23
  simpa [ens] using h3
set_option maxHeartbeats 400000 in
theorem new_ok {n : Nat} {w : World} (h1 : 1 ≤ n) (h2 : n ≤ 160) :
    Calls Try.prog 20 #[.int .i64 (n : Int)] w fun e w' => ∃ g, e = .returned (.pointer (some ⟨g, 0, none⟩)) ∧ Sep w w' [Dsk g (List.replicate (n * 64) 0) (fun _ => none)] := by
  have hmk : ∀ W : World, (Instr.makeSlice 30 (.int .i64 ((n : Int) * 64)) (.int .i64 ((n : Int) * 64))).run Try.prog W = .ok (.slice (some ⟨W.heap.size, 0, none⟩) (n * 64) (n * 64)) (W.alloc (.cells (madeCells #[.int .u8 0] (n * 64)) 5)) := by
    intro W
    have := print_make (P := Try.prog) 30 5 .u8 1 Try.underlying30 infoB (by decide) (n * 64) (by omega) W
    rwa [Int.natCast_mul] at this
  have hS := (Sep.start w).madeRow (h1 := fun _ => rfl) (e := 5) (enc := Value.int .u8) 0 (n * 64) (by omega)
  have HS := Aside0.mk hS
  have h1' : ¬ (n : Int) < 1 := by omega
  have h2' : ¬ 160 < (n : Int) := by omega
  clear hS
  go_enter Try.func20, Try.ntmps20
  go_wp2_with fail
  refine (of_ok (n := n) (l := List.replicate (n * 64) 0) HS.out.rowRd.rd (Nat.le_refl _) (by omega) h1 h2).mono ?_
  rintro e w1 ⟨g, rfl, hS1⟩
  go_wp2
  go_ret
  exact ⟨g, by first | rfl | (simp; done), ((Sep.start w).alloc _).lift1 hS1⟩
end Go.Proofs.Ytjngnigelkgekaa.Disk
namespace Go.Proofs.Ytjngnigelkgekaa.Kit
set_option linter.unusedVariables false
set_option linter.unusedSimpArgs false
open Go.RowKit Go.Proofs.YtjngnigelkgekaaW.PrintWords Go.Proofs.YtjngnigelkgekaaW.PrintLast Go.Proofs.YtjngnigelkgekaaW.PrintMore
/-- ys laid over xs from place o on. -/
def over {α : Type} (xs : List α) (o : Nat) (ys : List α) : List α := xs.take o ++ ys ++ xs.drop (o + ys.length)
theorem over_nil {α : Type} (xs : List α) (o : Nat) : over xs o [] = xs := by simp [over]
theorem over_len {α : Type} {xs : List α} {o : Nat} {ys : List α} (h : o + ys.length ≤ xs.length) : (over xs o ys).length = xs.length := by
  simp [over]; omega
theorem over_get {α : Type} {xs : List α} {o : Nat} {ys : List α} (h : o + ys.length ≤ xs.length) (j : Nat) : (over xs o ys)[j]? = if o ≤ j ∧ j < o + ys.length then ys[j - o]? else xs[j]? := by
  unfold over
  rw [List.append_assoc]
  by_cases h1 : j < o
  · rw [if_neg (by omega), List.getElem?_append_left (by simp; omega), List.getElem?_take, if_pos h1]
  · rw [List.getElem?_append_right (by simp; omega), List.length_take, Nat.min_eq_left (by omega)]
    by_cases h2 : j < o + ys.length
    · rw [if_pos ⟨by omega, h2⟩, List.getElem?_append_left (by omega)]
    · rw [if_neg (by omega), List.getElem?_append_right (by omega), List.getElem?_drop]
      congr 1; omega
theorem over_cons {α : Type} {xs : List α} {o : Nat} {y : α} {ys : List α} (h : o + (ys.length + 1) ≤ xs.length) : over (xs.set o y) (o + 1) ys = over xs o (y :: ys) := by
  apply List.ext_getElem?
  intro j
  rw [over_get (by simp; omega), over_get (by simp; omega)]
  simp only [List.length_cons]
  by_cases h1 : j = o
  · subst h1
    rw [if_neg (by omega), if_pos (by omega), List.getElem?_set_self (by omega), Nat.sub_self]; rfl
  · rw [List.getElem?_set_ne (by omega)]
    by_cases h2 : o ≤ j ∧ j < o + (ys.length + 1)
    · rw [if_pos (by omega), if_pos h2, show j - o = (j - (o + 1)) + 1 by omega]; rfl
    · rw [if_neg (by omega), if_neg h2]
namespace Sep
variable {w0 W W' : World} {F : List HP}
section
variable {α : Type} {enc : α → Value} {h1 : ∀ x, (enc x).oneCell' = true} {e g n cap : Nat}
theorem putCells : ∀ (ys : List α) (o : Nat) {xs : List α} {W : World}, Sep w0 W (Row (Kd.scalar enc h1) e (.slice (some ⟨g, 0, none⟩) n cap) xs :: F) → o + ys.length ≤ n →
    Sep w0 (W.setCells g o (ys.map enc)) (Row (Kd.scalar enc h1) e (.slice (some ⟨g, 0, none⟩) n cap) (over xs o ys) :: F)
  | [], o, xs, W, h, _ => by rw [over_nil]; exact h
  | y :: ys, o, xs, W, h, hl => by
    have hn : n = xs.length := h.rowC.1
    simp only [List.length_cons] at hl
    have := putCells ys (o + 1) (h.putRow o y) (by omega)
    rwa [over_cons (by omega)] at this
/-- copy(dst, src): dst a piece of a row of one's own. -/
theorem copyRun {P : Program} {t ty : TypeId} {xs ys : List α} {A : Option Addr} {o n' c' m c : Nat} (h : Sep w0 W (Row (Kd.scalar enc h1) e (.slice (some ⟨g, 0, none⟩) n cap) xs :: F)) (ht : P.underlying t = some (.slice e)) (hi : (P.info? e).map (·.size) = some 1)
    (hC : (Kd.scalar enc h1).C W A m ys) (hb : o + n' ≤ n) :
    (Builtin.copy_ #[t, t] ty #[.slice (some ⟨g, o, none⟩) n' c', .slice A m c]).run P W = .ok (.int .i64 ((min m n' : Nat) : Int)) (W.setCells g o ((ys.take n').map enc)) ∧
      Sep w0 (W.setCells g o ((ys.take n').map enc)) (Row (Kd.scalar enc h1) e (.slice (some ⟨g, 0, none⟩) n cap) (over xs o (ys.take n')) :: F) := by
  have hl : ys.length = m := hC.1
  have hlen : (ys.take n').length = min m n' := by rw [List.length_take, hl, Nat.min_comm]
  refine ⟨?_, h.putCells (ys.take n') o (by rw [List.length_take]; omega)⟩
  rcases Nat.eq_zero_or_pos (min m n') with h0 | h0
  · have hy : ys.take n' = [] := List.eq_nil_of_length_eq_zero (by omega)
    rw [hy, h0]
    exact run_copy_none W t t ty e _ _ _ _ _ _ ht hi h0
  · obtain ⟨ad, rfl, hc⟩ := hC.2.2 (by omega)
    have := run_copy_cells (P := P) W t t ty e g o n' c' ad m c ((ys.take n').map enc) ht hi (by rw [List.length_map]; exact hlen) ?_ ?_ ?_ ?_
    · rw [this, List.length_map, hlen]; rfl
    · intro j v hj
      rw [List.getElem?_map, List.getElem?_take] at hj
      split at hj
      · obtain ⟨y, hy, rfl⟩ := Option.map_eq_some_iff.1 hj
        obtain ⟨cs, hsz, hK, hcell⟩ := hc j y hy
        have hK : cs = [enc y] := hK
        subst hK
        have := hcell 0 _ rfl
        simpa [Kd.scalar] using this
      · cases hj
    · intro j hj
      rw [List.length_map, hlen] at hj
      have hx := h.rowC
      have : o + j < xs.length := by omega
      rw [(h.rowCell (xs[o + j]) (o + j) (by omega)).1]; rfl
    · intro j hj
      rw [List.length_map, hlen] at hj
      have hx := h.rowC
      have : o + j < xs.length := by omega
      exact (h.rowCell (xs[o + j]) (o + j) (by omega)).2
    · intro v hv
      obtain ⟨x, _, rfl⟩ := List.mem_map.1 hv
      exact h1 x
section
variable {P : Program} {ops : Array Oper} {rest : List Oper} {op : Oper} {a : Act} {Q : Exit → Act → World → Prop}
theorem copyRow {t : TypeId} {xs ys : List α} {A : Option Addr} {o n' c' m c : Nat} (h : Sep w0 W (Row (Kd.scalar enc h1) e (.slice (some ⟨g, 0, none⟩) n cap) xs :: F)) (hgd : op.guard = none) (d s : Operand)
    (ho : op.op = .call { callee := .builtin .copy, args := #[d, s], argTypes := #[t, t] }) (ht : P.underlying t = some (.slice e)) (hi : (P.info? e).map (·.size) = some 1)
    (hd : a.eval d = .slice (some ⟨g, o, none⟩) n' c') (hs : a.eval s = .slice A m c) (hC : (Kd.scalar enc h1).C W A m ys) (hb : o + n' ≤ n)
    (k : ∀ W', Sep w0 W' (Row (Kd.scalar enc h1) e (.slice (some ⟨g, 0, none⟩) n cap) (over xs o (ys.take n')) :: F) → wpList P ops Q rest (a.put op.dst (.int .i64 ((min m n' : Nat) : Int))) W') : wpList P ops Q (op :: rest) a W := by
  obtain ⟨hr, hS⟩ := h.copyRun (P := P) (ty := op.type) (c' := c') (c := c) ht hi hC hb
  refine wpList_plain hgd fun K hK => ?_
  unfold Oper.wp execOp
  simp only [ho, resolve, invoke, builtin, Sem.run_bind, Sem.run_pure, Result.andThen_ok, List.map_toArray, List.map_cons, List.map_nil, hs, hd, hr]
  exact hK _ _ (k _ hS)
end
end
end Sep
end Go.Proofs.Ytjngnigelkgekaa.Kit
