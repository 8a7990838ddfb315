/- DiskWaits: the law's walk. -/
import Derived.Test.YtjngnigelkgekaaLaw1c
import Derived.Test.YtjngnigelkgekaaSame
import Derived.Deep.Cut
import Derived.Deep.CutRange
namespace Go.Proofs.Ytjngnigelkgekaa.Disk
set_option linter.unusedVariables false
set_option linter.unusedSimpArgs false
open Go.RowKit Go.Proofs.YtjngnigelkgekaaW.PrintWords Go.Proofs.YtjngnigelkgekaaW.PrintLast Go.Proofs.YtjngnigelkgekaaW.PrintMore Go.Proofs.Ytjngnigelkgekaa.Kit
def bl (f : Nat → Bool) : Array Value := #[.bool (f 0), .bool (f 1), .bool (f 2), .bool (f 3), .bool (f 4), .bool (f 5)]
theorem bl_set (f : Nat → Bool) {m : Nat} (h : m < 6) : (bl f).setIfInBounds m (.bool true) = bl (fun i => if i = m then true else f i) := by
  rcases (by omega : m = 0 ∨ m = 1 ∨ m = 2 ∨ m = 3 ∨ m = 4 ∨ m = 5) with rfl | rfl | rfl | rfl | rfl | rfl <;> rfl
theorem bl_get (f : Nat → Bool) {m : Nat} (h : m < 6) : (bl f)[m]? = some (.bool (f m)) := by
  rcases (by omega : m = 0 ∨ m = 1 ∨ m = 2 ∨ m = 3 ∨ m = 4 ∨ m = 5) with rfl | rfl | rfl | rfl | rfl | rfl <;> rfl
def waitB (wt : Wt) : Nat → Bool := fun i => (wt i).isSome
theorem waitB_set (wt : Wt) (m : Nat) (b : List Int) : (fun i => if i = m then true else waitB wt i) = waitB (fun j => if j = m then some b else wt j) := by
  funext i; unfold waitB; dsimp only; split <;> rfl
theorem flushed_len {las : List Int} {wt : Wt} {n : Nat} (h : las.length = 64 * n) (hw : ∀ i b, wt i = some b → b.length = 64) : (flushed las wt).length = 64 * n := by
  unfold flushed
  rw [show las.length / 64 = n by omega]
  refine secs_len fun i hi => ?_
  cases hb : wt i with
  | none => exact sec_len (by omega)
  | some b => exact hw i b hb
set_option maxHeartbeats 3200000 in
set_option maxRecDepth 100000 in
theorem diskWaits_ {A0 A1 : Option Addr} {n0 c0 n1 c1 : Nat} {l b : List Int} (w : World) (h0 : I64.C w A0 n0 l) (h1 : U8.C w A1 n1 b) :
    Calls Try.prog 12 #[.slice A0 n0 c0, .slice A1 n1 c1] w fun e w' => e = .returned (.bool true) ∧ Below w.heap.size w w' := by
  have H0 := Aside0.mk h0
  have H1 := Aside0.mk h1
  have hn0 : n0 ≤ 9223372036854775807 := h0.2.1
  have hB : (padTo 64 b).length = 64 := padTo_len 64 b
  generalize hBe : padTo 64 b = B at *
  have AB := Aside0.mk hB
  have ABe := Aside0.mk hBe
  clear h0 h1 hB hBe
  go_enter Try.func12, Try.ntmps12
  go_wp2_with fail
  refine (new_ok (n := 6) (w := w) (by omega) (by omega)).mono ?_
  rintro e w1 ⟨g, rfl, hS1⟩
  go_wp2_with fail
  have hS2 : Sep w _ (Blk w1.heap.size 81 (bl (waitB (fun _ => none))) :: [Dsk g (List.replicate (6 * 64) 0) (fun _ => none)]) := hS1.newBlk 81 (bl (waitB (fun _ => none)))
  generalize w1.heap.size = gi at *
  have A2 := Aside0.mk hS2
  clear hS1 hS2
  go_loopg [7] 20 (fun q p wr => ∃ (j : Nat) (las : List Int) (wt : Wt), p = .int .i64 (j : Int) ∧ j + q = 20 ∧ las.length = 64 * 6 ∧ (∀ i b, wt i = some b → b.length = 64) ∧ Sep w wr (Blk gi 81 (bl (waitB wt)) :: [Dsk g las wt]))
  case atStart => exact ⟨0, List.replicate (6 * 64) 0, fun _ => none, rfl, by omega, by rw [List.length_replicate], fun i b h => by simp at h, A2.out⟩
  case round =>
    obtain ⟨j, las, wt, rfl, hjk, hla, hw, hS⟩ := hrel
    have AL := Aside0.mk hla
    have AW := Aside0.mk hw
    have AK := Aside0.mk hjk
    have AS := Aside0.mk hS
    clear hla hw hS
    by_cases hj : j < n0 ∧ j < 20
    · obtain ⟨hj1, hj2⟩ := hj
      obtain ⟨ad, hA, hcc⟩ := Kd.at_int (Kd.C_below H0.out AS.out.toBelow) (j : Int) (by omega) (by omega)
      subst hA
      rw [Int.toNat_natCast] at hcc
      generalize rd l (j : Int) = x at *
      clear hjk
      go_wp2_with fail
      refine (Book.within_ x 0 6 wr (by omega) (by omega) (by omega)).mono ?_
      rintro e w2 ⟨rfl, rfl⟩
      obtain ⟨q1, q2⟩ := Book.withinF_in (n := x) (lo := 0) (hi := 6) (by omega)
      obtain ⟨m, hm⟩ : ∃ m : Nat, Book.withinF x 0 6 = (m : Int) := ⟨(Book.withinF x 0 6).toNat, by omega⟩
      have hm6 : m ≤ 6 := by omega
      rw [hm]
      clear q1 q2 hm hcc
      by_cases h6 : m = 6
      · subst h6
        go_wp2_with fail
        refine (flush_ AS.out.at2).mono ?_
        rintro e w3 ⟨rfl, hS3⟩
        have hS3 := hS3.at2
        have hfl : (flushed las wt).length = 64 * 6 := flushed_len AL.out AW.out
        have AF := Aside0.mk hfl
        have AS3 := Aside0.mk hS3
        generalize flushed las wt = las' at *
        have b0 : w3.cell? ⟨gi, 0, none⟩ = some (.bool (waitB wt 0)) := by rw [hS3.cell 0]; rfl
        have z0 := hS3.frozen 0
        have b1 : w3.cell? ⟨gi, 1, none⟩ = some (.bool (waitB wt 1)) := by rw [hS3.cell 1]; rfl
        have z1 := hS3.frozen 1
        have b2 : w3.cell? ⟨gi, 2, none⟩ = some (.bool (waitB wt 2)) := by rw [hS3.cell 2]; rfl
        have z2 := hS3.frozen 2
        have b3 : w3.cell? ⟨gi, 3, none⟩ = some (.bool (waitB wt 3)) := by rw [hS3.cell 3]; rfl
        have z3 := hS3.frozen 3
        have b4 : w3.cell? ⟨gi, 4, none⟩ = some (.bool (waitB wt 4)) := by rw [hS3.cell 4]; rfl
        have z4 := hS3.frozen 4
        have b5 : w3.cell? ⟨gi, 5, none⟩ = some (.bool (waitB wt 5)) := by rw [hS3.cell 5]; rfl
        have z5 := hS3.frozen 5
        clear hfl hS3 AS
        go_wp2_with fail
        have hS5 : Sep w _ (Blk gi 81 (bl (waitB (fun _ => none))) :: [Dsk g las' (fun _ => none)]) := (((((AS3.out.setBlk 0 (.bool false)).setBlk 1 (.bool false)).setBlk 2 (.bool false)).setBlk 3 (.bool false)).setBlk 4 (.bool false)).setBlk 5 (.bool false)
        have AS5 := Aside0.mk hS5
        have HFL := Aside0.mk (flushed_none (n := 6) AF.out)
        clear hS5 AS3 b0 b1 b2 b3 b4 b5 z0 z1 z2 z3 z4 z5
        go_region_with (first
          | (go_at_call 48; refine (image_ AS5.out.at2.drew).mono ?_; rintro e w4 ⟨v4, rfl, hS6⟩; obtain ⟨A4, c4, rfl⟩ := hS6.rowN (n := 384) AF.out; have hs4 := str_ hS6; have AS6 := Aside0.mk hS6; clear hS6)
          | (go_at_call 24; refine (seen_ AS6.out.at2).mono ?_; rintro e w5 ⟨v5, rfl, hS7⟩; rw [HFL.out] at hS7; obtain ⟨A5, c5, rfl⟩ := hS7.rowN (n := 384) AF.out; have hs5 := str_ hS7; have hs4' := str_ hS7.at3; have AS7 := Aside0.mk hS7; clear hS7))
        all_goals
          go_wp2_with fail
          go_roundg (gk - 1)
          case measure => have := AK.out; omega
          case rel => exact ⟨j + 1, las', fun _ => none, by go_num, by have := AK.out; omega, AF.out, fun i b h => by simp at h, AS7.out.tail.drop2.at2⟩
      · have hm5 : m < 6 := by omega
        go_wp2_with fail
        refine (sector1_ (Kd.C_below H1.out AS.out.toBelow)).mono ?_
        rintro e w3 ⟨vx, rfl, hx⟩
        rw [ABe.out] at hx
        have hS3 := AS.out.lift1 hx
        obtain ⟨Ax, cx, rfl⟩ := hS3.rowN AB.out
        have AS3 := Aside0.mk hS3
        clear hS3 hx AS
        go_wp2_with fail
        refine (write_in AS3.out.at3 m (by rw [AL.out]; omega) (b := B) (by have := AS3.out.rowC.2.2; rwa [AB.out] at this) AS3.out.rowC.2.1).mono ?_
        rintro e w4 ⟨rfl, hS4⟩
        have hS4 := hS4.at3
        have f1 := hS4.frozen m
        have f2 := hS4.cell m
        rw [bl_get _ hm5] at f2
        have AS4 := Aside0.mk hS4
        clear hS4 AS3
        go_wp2_with fail
        go_roundg (gk - 1)
        case measure => have := AK.out; omega
        case rel => exact ⟨j + 1, las, fun i => if i = m then some B else wt i, by go_num, by have := AK.out; omega, AL.out, fun i b' h => by
          by_cases him : i = m
          · simp only [if_pos him] at h; injection h with h; rw [← h]; exact AB.out
          · simp only [if_neg him] at h; exact AW.out i b' h, by
          have h5 := AS4.out.setBlk m (.bool true)
          rw [bl_set _ hm5, waitB_set wt m B] at h5
          exact h5.sw23.drop2⟩
    · have hj' : ¬ ((j : Int) < (n0 : Int)) ∨ ¬ ((j : Int) < 20) := by omega
      clear hj hjk AK
      have AN : Aside0 (Sep w wr (Row I64 3 (.slice none 0 0) [] :: Blk gi 81 (bl (waitB wt)) :: [Dsk g las wt])) := ⟨AS.out.nilRow I64 3⟩
      clear AS
      by_cases hq : (j : Int) < (n0 : Int)
      all_goals
        first
          | (have hj2 : ¬ ((j : Int) < 20) := by omega)
          | skip
        clear hj'
        go_wp2_with fail
        go_loopg [9, 50] 6 (fun q v p wr => ∃ i : Nat, p = .int .i64 (i : Int) ∧ i + q = 6 ∧ Sep w wr (Row I64 3 v ((keysOf i wt).map (fun k : Nat => (k : Int))) :: Blk gi 81 (bl (waitB wt)) :: [Dsk g las wt]))
        case atStart => exact ⟨0, rfl, by omega, AN.out⟩
        case round =>
          obtain ⟨i, rfl, hik, hS⟩ := hrel
          have AR := Aside0.mk hS
          have AK := Aside0.mk hik
          by_cases hi : i < 6
          · have c1 := hS.at2.cell i
            rw [bl_get _ hi] at c1
            have hks := keysOf_succ i wt
            have hkl := keys_len_le wt i
            clear hS hik
            cases hb : waitB wt i with
            | false =>
              rw [hb] at c1
              have hb' : (wt i).isSome = false := hb
              rw [hb', if_neg (by decide), List.append_nil] at hks
              have AKS := Aside0.mk hks
              clear hks hb' hb
              go_wp2_with fail
              go_roundg (gk - 1)
              case measure => have := AK.out; omega
              case rel => exact ⟨i + 1, by go_num, by have := AK.out; omega, by rw [AKS.out]; exact AR.out⟩
            | true =>
              rw [hb] at c1
              have hb' : (wt i).isSome = true := hb
              rw [hb', if_pos rfl] at hks
              have AKS := Aside0.mk hks
              have AKL := Aside0.mk hkl
              have AR2 := Aside0.mk (AR.out.litRow (enc := Value.int .i64) (h1 := fun _ => rfl) (e := 3) [(i : Int)] (by simp)).at2
              clear hks hb' hb hkl
              go_wp2_with (first | (refine gate_builtin (b := .append) (xs := #[.tmp 56, .tmp 58]) rfl ?_; refine AR2.out.appendRow rfl (.tmp 56) (.tmp 58) 38 (.int .i64 0) 8 rfl Try.underlying38 (by kernel_rfl) rfl (by omega) (some ⟨wr.heap.size, 0, none⟩) 1 1 rfl rfl AR2.out.at2.rowC.2.2 (by have := AKL.out; simp; omega) ?_; intro v1 w2 hS2; have AS2 := Aside0.mk hS2; clear hS2))
              go_roundg (gk - 1)
              case measure => have := AK.out; omega
              case rel => exact ⟨i + 1, by go_num, by have := AK.out; omega, by rw [AKS.out, List.map_append]; exact AS2.out.drop2⟩
          · have h6 : i = 6 := by omega
            subst h6
            have hkI : keysI las wt = (keysOf 6 wt).map (fun k : Nat => (k : Int)) := by unfold keysI; rw [show las.length / 64 = 6 by have := AL.out; omega]
            have hkl : ((keysOf (las.length / 64) wt).length : Int) = ((keysI las wt).length : Int) := by unfold keysI; rw [List.length_map]
            rw [← hkI] at AR hS
            clear hkI
            obtain ⟨A3, c3, rfl⟩ := hS.rowV
            have HK := Aside0.mk hkl
            have hcl : (crashed las wt []).length = 64 * 6 := by
              unfold crashed
              rw [show las.length / 64 = 6 by have := AL.out; omega]
              exact secs_len (cutS_len AL.out AW.out)
            have HC := Aside0.mk hcl
            have HF := Aside0.mk (flushed_none (n := 6) hcl)
            obtain ⟨ks, hks⟩ : ∃ ks, keysI las wt = ks := ⟨_, rfl⟩
            obtain ⟨las', hla'⟩ : ∃ las', crashed las wt [] = las' := ⟨_, rfl⟩
            have HKS := Aside0.mk hks
            have HLA := Aside0.mk hla'
            rw [hks] at AR HK ⊢
            rw [hla'] at HC HF
            clear hS hik hkl hcl AL AW AK hks hla'
            go_wp2_with fail
            go_region_with (first
              | (go_at_call 49; refine (waits_ AR.out.at3.drew).mono ?_; rintro e w3 ⟨v3, rfl, hS3⟩; rw [HKS.out] at hS3; obtain ⟨A4, c4, rfl⟩ := hS3.rowV; have AS3 := Aside0.mk hS3; clear hS3)
              | (go_at_call 57; go_loud (refine (Book.sameI_ AS3.out.rowC.2.2 AS3.out.at3.rowC.2.2).mono ?_; rintro e w4 ⟨rfl, hb4⟩; have AS4 := Aside0.mk (AS3.out.below hb4).at2; clear hb4))
              | (go_at_call 55; refine (crash_ (cuts := []) AS4.out (fun W' h => Kd.C_nil _ _)).mono ?_; rintro e w5 ⟨rfl, hS5⟩; rw [HK.out]; rw [HLA.out] at hS5; have AS5 := Aside0.mk hS5; clear hS5)
              | (go_at_call 48; refine (image_ AS5.out).mono ?_; rintro e w6 ⟨v6, rfl, hS6⟩; obtain ⟨A6, c6, rfl⟩ := hS6.rowN (n := 384) HC.out; have hs6 := str_ hS6; have AS6 := Aside0.mk hS6; clear hS6)
              | (go_at_call 24; refine (seen_ AS6.out.at2).mono ?_; rintro e w7 ⟨v7, rfl, hS7⟩; rw [HF.out] at hS7; obtain ⟨A7, c7, rfl⟩ := hS7.rowN (n := 384) HC.out; have hs7 := str_ hS7; have hs6' := str_ hS7.at3; have AS7 := Aside0.mk hS7; clear hS7)
              | (go_at_call 51; refine (known_ _).mono ?_; rintro e w8 ⟨rfl, hb8⟩; have A8 := Aside0.mk (AS7.out.below hb8).toBelow; clear hb8))
            all_goals
              go_wp2_with fail
              go_ret
              exact ⟨by first | rfl | (simp; done), A8.out⟩
end Go.Proofs.Ytjngnigelkgekaa.Disk
