/- Home2, RedoP, Redo1, Round, Chunk, Delta2, Delta3: what HealTwice needs. -/
import Derived.Test.YtjngnigelkgekaaGreatThealTwice11
import Derived.RangeFuncNested
import Derived.RangeFuncBound
import Derived.RangeFuncCalls
import Derived.RangeFuncLeaves
import Derived.Shelf.Abstract
import Derived.WalkKit
import Derived.OwnWalkIn
import Derived.TacticsInMore
import Derived.LoopNIn
import Derived.LoopIn
import Derived.Deep.AppendLies
set_option linter.unusedVariables false
set_option linter.unusedSimpArgs false
namespace Go.Proofs.YtjngnigelkgekaaGreat.Ref
end Go.Proofs.YtjngnigelkgekaaGreat.Ref
namespace Go.Proofs.YtjngnigelkgekaaGreat.Home
open Go.RowKit Go.Proofs.YtjngnigelkgekaaGreatW.PrintWords Go.Proofs.YtjngnigelkgekaaGreatW.PrintLast Go.Proofs.YtjngnigelkgekaaGreatW.PrintMore Go.Proofs.YtjngnigelkgekaaGreat.Kit Go.Proofs.YtjngnigelkgekaaGreat.Plain Go.Proofs.YtjngnigelkgekaaGreat.Disk Go.Proofs.YtjngnigelkgekaaGreat.Root
abbrev RT (g n : Nat) (las : List Int) (wt : Wt) (d : Nat) : HP := Ref.RD g n las (flushed las wt) (Ref.waitL n wt) (-1) (d : Int)
abbrev RTL (g n : Nat) (las : List Int) (wt : Wt) (left d : Int) : HP := Ref.RD g n las (flushed las wt) (Ref.waitL n wt) left d
section
variable {w0 W : World} {F : List HP} {g n : Nat} {las : List Int} {wt : Wt} {left d : Int}
set_option maxHeartbeats 800000 in
set_option maxRecDepth 100000 in
theorem rall_ (h : Sep w0 W (RTL g n las wt left d :: F)) (hl : las.length = 64 * n) (hw : ∀ i b, wt i = some b → b.length = 64) (a b c : Int) :
    Calls Tryz.prog 80 #[.pointer (some ⟨g, 0, none⟩), .agg #[.int .i64 a, .int .i64 b, .int .u32 c]] W fun e w' => ∃ v, e = .returned v ∧ Sep w0 w' (Row K2 24 v (pagesF n las wt a b c) :: RTL g n las wt left d :: F) := by
  have A0 := Aside0.mk (h.newBlk 80 #[.int .i64 a, .int .i64 b, .int .u32 c]).drew
  have HL := Aside0.mk (And.intro hl hw)
  clear h hl hw
  cases hr : rightR a b c n with
  | false =>
    have HRT := Aside0.mk hr
    have HP : Aside0 (pagesF n las wt a b c = []) := ⟨by unfold pagesF; rw [hr]; rfl⟩
    clear hr
    go_enter Tryz.func80, Tryz.ntmps80
    go_wp2_with fail
    refine start_ (n := 5) (S := fun w' => w'.cell? ⟨W.heap.size, 0, none⟩ = some (.int .i64 a) ∧ w'.cell? ⟨W.heap.size, 1, none⟩ = some (.int .i64 b) ∧ w'.cell? ⟨W.heap.size, 2, none⟩ = some (.int .u32 c)) (ds := [3]) #[Z,Z,Z,Z,Z] (by kernel_rfl) rfl rfl ⟨(A0.out.cell 0).trans rfl, (A0.out.cell 1).trans rfl, (A0.out.cell 2).trans rfl⟩ (fun hHeld => ?_)
    refine pu_ 1 10 ?_ #[Z,J,Z,Z,Z] rfl rfl ?_ ?_ ?_ ?_
    rotate_left
    · intro w'
      go_simp
      with_reducible rfl
    rotate_left
    · simp only [aP]
      rfl
    refine ta_ 0 9 ?_ #[J,J,Z,Z,Z] rfl rfl ?_ hHeld ?_ ?_ ?_
    rotate_left
    · rintro w' ⟨s0, s1, s2⟩
      go_simp
      with_reducible rfl
    rotate_left
    · simp only [aP]
      rfl
    refine one_ (i := 2) (N := some 11) #[J,J,J,Z,Z] rfl rfl (by kernel_rfl) (by decide) (fun K hK => ?_)
    refine goes_ Tryz.func78 (by kernel_rfl) rfl #[.pointer (some ⟨g, 0, none⟩)] (by rfl) rfl rfl (by simp only [List.map_toArray, List.map_cons, List.map_nil]; rfl) ?_
    with_reducible refine (Ref.len_ A0.out.at2).mono ?_
    rintro e w4 ⟨rfl, rfl⟩
    refine ⟨_, rfl, ?_⟩
    refine hK.out _ _ ⟨(A0.out.cell 0).trans rfl, (A0.out.cell 1).trans rfl, (A0.out.cell 2).trans rfl⟩ (fun hHeld => ?_)
    clear hK K
    refine norm_ (a' := ?_) ?_ ?_
    rotate_left
    · show Act.put _ (some 11) _ = _
      simp only [aP]
      rfl
    refine last_ (i := 3) (N := some 12) #[J,J,J,J,Z] rfl rfl (by kernel_rfl) (by decide) (fun K hK => ?_)
    refine goes_ Tryz.func77 (by kernel_rfl) rfl #[.agg #[.int .i64 a, .int .i64 b, .int .u32 c], .int .i64 (n : Int)] (by rfl) rfl rfl (by simp only [List.map_toArray, List.map_cons, List.map_nil]; rfl) ?_
    with_reducible refine (rright_ a b c (n : Int) _).mono ?_
    rintro e w5 ⟨rfl, hb5⟩
    refine ⟨_, rfl, ?_⟩
    rw [HRT.out]
    have A5 := Aside0.mk (A0.out.below hb5)
    clear hb5
    refine hK.out _ _ ?_
    clear hK K
    refine norm_ (a' := ?_) ?_ ?_
    rotate_left
    · show Act.put _ (some 12) _ = _
      simp only [aP]
      rfl
    refine pu_ 4 13 ?_ #[J,J,J,J,J] rfl rfl ?_ ?_ ?_ ?_
    rotate_left
    · intro w'
      go_simp
      with_reducible rfl
    rotate_left
    · simp only [aP]
      rfl
    refine done_ (by kernel_rfl) ?_
    go_wp2_with fail
    go_ret
    exact ⟨_, by first | rfl | (simp; done), by rw [HP.out]; exact A5.out.tail.nilRow _ _⟩
  | true =>
    have HRT := Aside0.mk hr
    have h1 := of_decide_eq_true hr
    obtain ⟨B, rfl⟩ := Int.eq_ofNat_of_zero_le (show 0 ≤ b by omega)
    have HP : Aside0 (pagesF n las wt a (B : Int) c = (List.range B).map (fun i : Nat => pageF n las wt a (B : Int) c (i : Int))) := ⟨by unfold pagesF; rw [if_pos hr, Int.toNat_natCast]⟩
    have hB : B ≤ 64 := by omega
    have HMI : Aside0 (∀ i : Nat, i < B → mayF n a (B : Int) c (i : Int) = true) := ⟨fun i hi => by
      unfold mayF; rw [hr, decide_eq_true (show (0 : Int) ≤ (i : Int) by omega), decide_eq_true (show (i : Int) < (B : Int) by omega)]; rfl⟩
    clear hr h1
    go_enter Tryz.func80, Tryz.ntmps80
    go_wp2_with fail
    refine start_ (n := 5) (S := fun w' => w'.cell? ⟨W.heap.size, 0, none⟩ = some (.int .i64 a) ∧ w'.cell? ⟨W.heap.size, 1, none⟩ = some (.int .i64 (B : Int)) ∧ w'.cell? ⟨W.heap.size, 2, none⟩ = some (.int .u32 c)) (ds := [3]) #[Z,Z,Z,Z,Z] (by kernel_rfl) rfl rfl ⟨(A0.out.cell 0).trans rfl, (A0.out.cell 1).trans rfl, (A0.out.cell 2).trans rfl⟩ (fun hHeld => ?_)
    refine pu_ 1 10 ?_ #[Z,J,Z,Z,Z] rfl rfl ?_ ?_ ?_ ?_
    rotate_left
    · intro w'
      go_simp
      with_reducible rfl
    rotate_left
    · simp only [aP]
      rfl
    refine ta_ 0 9 ?_ #[J,J,Z,Z,Z] rfl rfl ?_ hHeld ?_ ?_ ?_
    rotate_left
    · rintro w' ⟨s0, s1, s2⟩
      go_simp
      with_reducible rfl
    rotate_left
    · simp only [aP]
      rfl
    refine one_ (i := 2) (N := some 11) #[J,J,J,Z,Z] rfl rfl (by kernel_rfl) (by decide) (fun K hK => ?_)
    refine goes_ Tryz.func78 (by kernel_rfl) rfl #[.pointer (some ⟨g, 0, none⟩)] (by rfl) rfl rfl (by simp only [List.map_toArray, List.map_cons, List.map_nil]; rfl) ?_
    with_reducible refine (Ref.len_ A0.out.at2).mono ?_
    rintro e w4 ⟨rfl, rfl⟩
    refine ⟨_, rfl, ?_⟩
    refine hK.out _ _ ⟨(A0.out.cell 0).trans rfl, (A0.out.cell 1).trans rfl, (A0.out.cell 2).trans rfl⟩ (fun hHeld => ?_)
    clear hK K
    refine norm_ (a' := ?_) ?_ ?_
    rotate_left
    · show Act.put _ (some 11) _ = _
      simp only [aP]
      rfl
    refine last_ (i := 3) (N := some 12) #[J,J,J,J,Z] rfl rfl (by kernel_rfl) (by decide) (fun K hK => ?_)
    refine goes_ Tryz.func77 (by kernel_rfl) rfl #[.agg #[.int .i64 a, .int .i64 (B : Int), .int .u32 c], .int .i64 (n : Int)] (by rfl) rfl rfl (by simp only [List.map_toArray, List.map_cons, List.map_nil]; rfl) ?_
    with_reducible refine (rright_ a (B : Int) c (n : Int) _).mono ?_
    rintro e w5 ⟨rfl, hb5⟩
    refine ⟨_, rfl, ?_⟩
    rw [HRT.out]
    have A5 := Aside0.mk (A0.out.below hb5)
    clear hb5
    refine hK.out _ _ ?_
    clear hK K
    refine norm_ (a' := ?_) ?_ ?_
    rotate_left
    · show Act.put _ (some 12) _ = _
      simp only [aP]
      rfl
    refine pu_ 4 13 ?_ #[J,J,J,J,J] rfl rfl ?_ ?_ ?_ ?_
    rotate_left
    · intro w'
      go_simp
      with_reducible rfl
    rotate_left
    · simp only [aP]
      rfl
    refine done_ (by kernel_rfl) ?_
    have A6 := Aside0.mk (A5.out.nilRow K2 24)
    go_wp2_with fail
    go_loopg [5, 6] B (fun m v p wr => ∃ j : Nat, p = .int .i64 (j : Int) ∧ j + m = B ∧ Sep w0 wr (Row K2 24 v ((List.range j).map (fun i : Nat => pageF n las wt a (B : Int) c (i : Int))) :: Blk W.heap.size 80 #[.int .i64 a, .int .i64 (B : Int), .int .u32 c] :: RTL g n las wt left d :: F))
    case atStart => exact ⟨0, rfl, by omega, A6.out⟩
    case round =>
      obtain ⟨j, rfl, hjm, hS⟩ := hrel
      have AK := Aside0.mk hjm
      have AS := Aside0.mk hS
      obtain ⟨A3, c3, rfl⟩ := hS.rowN (n := j) (by simp)
      clear hS
      have z0 := (AS.out.at2.cell 0).trans rfl
      have z1 := (AS.out.at2.cell 1).trans rfl
      have z2 := (AS.out.at2.cell 2).trans rfl
      by_cases hj : j < B
      · have hjl : (j : Int) < (B : Int) := by omega
        have HSN : Aside0 ((List.range (j + 1)).map (fun i : Nat => pageF n las wt a (B : Int) c (i : Int)) = (List.range j).map (fun i : Nat => pageF n las wt a (B : Int) c (i : Int)) ++ [pageF n las wt a (B : Int) c (j : Int)]) := ⟨by rw [List.range_succ, List.map_append]; rfl⟩
        have HA := Aside0.mk (home_at (HMI.out j hj))
        have HPG : Aside0 (pageF n las wt a (B : Int) c (j : Int) = (wt (atF a (j : Int))).getD (sec las (atF a (j : Int)))) := ⟨by unfold pageF; rw [if_pos (HMI.out j hj)]; unfold secF; rw [if_pos HA.out.2]⟩
        clear hjm
        go_wp2_with fail
        refine (rhome_ a (B : Int) c (j : Int) _).mono ?_
        rintro e w2 ⟨rfl, hb2⟩
        have A7 := Aside0.mk (AS.out.below hb2)
        rw [HA.out.1]
        clear hb2 z0 z1 z2
        go_wp2_with fail
        refine (Ref.rread_ A7.out.at3 HL.out.1 HL.out.2 (atF a (j : Int)) HA.out.2).mono ?_
        rintro e w3 ⟨v3, rfl, hS3⟩
        rw [← HPG.out] at hS3
        obtain ⟨A4, c4, rfl⟩ := hS3.rowV
        have L3 := Aside0.mk (hS3.elSlice.at3)
        clear hS3
        generalize pageF n las wt a (B : Int) c (j : Int) = x at *
        go_wp2_with (first | (refine gate_builtin (b := .append) (xs := #[.tmp 29, .tmp 31]) rfl ?_; go_loud (refine L3.out.appendDeep rfl (.tmp 29) (.tmp 31) 49 _ 24 rfl Tryz.underlying49 infoS rfl (by decide) (by decide) rfl rfl (by simp; omega) ?_; intro v6 w6 hs6 hS6; have B6 := Aside0.mk hS6; clear hS6)))
        go_roundg (gk - 1)
        case measure => have := AK.out; omega
        case rel => exact ⟨j + 1, by go_num, by have := AK.out; omega, by rw [HSN.out]; exact B6.out.sw23⟩
      · obtain rfl : j = B := by omega
        have hjl : ¬ (j : Int) < (j : Int) := by omega
        clear hjm
        go_wp2_with fail
        go_ret
        exact ⟨_, by first | rfl | (simp; done), by rw [HP.out]; exact AS.out.drop2⟩
end
end Go.Proofs.YtjngnigelkgekaaGreat.Home
namespace Go.Proofs.YtjngnigelkgekaaGreat.Redo
open Go.RowKit Go.Proofs.YtjngnigelkgekaaGreatW.PrintWords Go.Proofs.YtjngnigelkgekaaGreatW.PrintLast Go.Proofs.YtjngnigelkgekaaGreatW.PrintMore Go.Proofs.YtjngnigelkgekaaGreat.Kit Go.Proofs.YtjngnigelkgekaaGreat.Plain Go.Proofs.YtjngnigelkgekaaGreat.Disk Go.Proofs.YtjngnigelkgekaaGreat.Root
def appW (las : List Int) (wt : Wt) (at_ : Nat) (b : List Int) : Wt := fun j =>
  if b ≠ [] ∧ 64 * j < 128 + at_ + b.length ∧ 128 + at_ < 64 * j + 64 then some (sec (over (flushed las wt) (128 + at_) b) j) else wt j
theorem appW_nil (las : List Int) (wt : Wt) (at_ : Nat) : appW las wt at_ [] = wt := by
  funext j
  unfold appW
  exact if_neg (fun h => h.1 rfl)
theorem over_over {α : Type} {xs ys zs : List α} {o : Nat} (h : o + (ys.length + zs.length) ≤ xs.length) : over (over xs o ys) (o + ys.length) zs = over xs o (ys ++ zs) := by
  apply List.ext_getElem?
  intro j
  rw [over_get (by rw [over_len (by omega)]; omega), over_get (by omega), over_get (by rw [List.length_append]; omega), List.length_append]
  by_cases h1 : o + ys.length ≤ j ∧ j < o + ys.length + zs.length
  · rw [if_pos h1, if_pos (by omega), List.getElem?_append_right (by omega)]
    congr 1
    omega
  · rw [if_neg h1]
    by_cases h2 : o ≤ j ∧ j < o + ys.length
    · rw [if_pos h2, if_pos (by omega), List.getElem?_append_left (by omega)]
    · rw [if_neg h2, if_neg (by omega)]
theorem sec_over_out {xs ys : List Int} {o i : Nat} (h : o + ys.length ≤ xs.length) (ho : 64 * i + 64 ≤ o ∨ o + ys.length ≤ 64 * i) : sec (over xs o ys) i = sec xs i := by
  apply List.ext_getElem?
  intro j
  by_cases hj : j < 64
  · rw [sec_get _ _ _ hj, sec_get _ _ _ hj, over_get h, if_neg (by omega)]
  · have l1 : (sec (over xs o ys) i).length ≤ 64 := by unfold sec; rw [List.length_take]; omega
    have l2 : (sec xs i).length ≤ 64 := by unfold sec; rw [List.length_take]; omega
    rw [List.getElem?_eq_none (by omega), List.getElem?_eq_none (by omega)]
theorem over_sec {xs ys : List Int} {i f : Nat} (hl : 64 * (i + 1) ≤ xs.length) (hf : f + ys.length ≤ 64) : over xs (64 * i) (over (sec xs i) f ys) = over xs (64 * i + f) ys := by
  have hs := sec_len hl
  have hol : (over (sec xs i) f ys).length = 64 := by rw [over_len (by omega), hs]
  apply List.ext_getElem?
  intro j
  rw [over_get (xs := xs) (o := 64 * i) (ys := over (sec xs i) f ys) (by omega), over_get (xs := xs) (o := 64 * i + f) (ys := ys) (by omega), hol]
  by_cases h1 : 64 * i ≤ j ∧ j < 64 * i + 64
  · rw [if_pos h1, over_get (by omega)]
    by_cases h2 : f ≤ j - 64 * i ∧ j - 64 * i < f + ys.length
    · rw [if_pos h2, if_pos (by omega)]
      congr 1
      omega
    · rw [if_neg h2, if_neg (by omega), sec_get _ _ _ (by omega)]
      congr 1
      omega
  · rw [if_neg h1, if_neg (by omega)]
theorem appW_step {n at_ : Nat} {las b : List Int} {wt : Wt} (hl : las.length = 64 * n) (hw : ∀ i b, wt i = some b → b.length = 64) (hb : b ≠ []) (hfit : 128 + at_ + b.length ≤ 64 * n) {k : Nat} (hk : k = min (64 - at_ % 64) b.length) :
    appW las (putW n wt (2 + at_ / 64) (over (secF n las wt (2 + at_ / 64)) (at_ % 64) (b.take k))) (at_ + k) (b.drop k) = appW las wt at_ b := by
  have hbl : 0 < b.length := List.length_pos_iff.2 hb
  obtain ⟨i, hi⟩ : ∃ i, 2 + at_ / 64 = i := ⟨_, rfl⟩
  have hin : i < n := by omega
  have hsF : secF n las wt i = sec (flushed las wt) i := by
    unfold secF; rw [if_pos hin, Ref.sec_flushed hl hw hin]
  have hFl := Ref.flushed_len hl hw
  have htk : (b.take k).length = k := by rw [List.length_take]; omega
  have hx : (over (secF n las wt i) (at_ % 64) (b.take k)).length = 64 := by
    rw [hsF, over_len (by rw [sec_len (by omega)]; omega), sec_len (by omega)]
  rw [hi]
  have hp : putW n wt i (over (secF n las wt i) (at_ % 64) (b.take k)) = (fun j => if j = i then some (over (secF n las wt i) (at_ % 64) (b.take k)) else wt j) := if_pos ⟨hin, hx⟩
  have hF1 : flushed las (putW n wt i (over (secF n las wt i) (at_ % 64) (b.take k))) = over (flushed las wt) (128 + at_) (b.take k) := by
    rw [hp, ← Ref.flushed_write hl hw hin hx, hsF, over_sec (by omega) (by omega), show 64 * i + at_ % 64 = 128 + at_ by omega]
  have hG : over (over (flushed las wt) (128 + at_) (b.take k)) (128 + (at_ + k)) (b.drop k) = over (flushed las wt) (128 + at_) b := by
    have h := over_over (xs := flushed las wt) (ys := b.take k) (zs := b.drop k) (o := 128 + at_) (by rw [htk, List.length_drop]; omega)
    rw [htk, List.take_append_drop, show 128 + at_ + k = 128 + (at_ + k) by omega] at h
    exact h
  funext j
  unfold appW
  rw [hF1, hG, List.length_drop]
  have hdk : b.drop k ≠ [] ↔ k < b.length := by
    constructor
    · intro h
      have := List.length_pos_iff.2 h
      rw [List.length_drop] at this
      omega
    · intro h h2
      have := congrArg List.length h2
      rw [List.length_drop, List.length_nil] at this
      omega
  by_cases h2 : b.drop k ≠ [] ∧ 64 * j < 128 + (at_ + k) + (b.length - k) ∧ 128 + (at_ + k) < 64 * j + 64
  · have h3 := hdk.1 h2.1
    rw [if_pos h2, if_pos ⟨hb, by omega, by omega⟩]
  · rw [if_neg h2, hp]
    dsimp only
    by_cases hj : j = i
    · subst hj
      rw [if_pos rfl, if_pos ⟨hb, by omega, by omega⟩]
      congr 1
      have hsec : sec (over (flushed las wt) (128 + at_) (b.take k)) j = over (secF n las wt j) (at_ % 64) (b.take k) := by
        rw [← hF1, Ref.sec_flushed hl (putW_len hw) hin, hp]
        simp
      rw [← hsec, ← hG]
      by_cases hkb : k < b.length
      · exact (sec_over_out (by rw [over_len (by rw [htk]; omega), List.length_drop]; omega) (.inl (by omega))).symm
      · rw [List.drop_of_length_le (by omega), over_nil]
    · rw [if_neg hj]
      by_cases h1 : b ≠ [] ∧ 64 * j < 128 + at_ + b.length ∧ 128 + at_ < 64 * j + 64
      · exfalso
        obtain ⟨-, h1a, h1b⟩ := h1
        refine h2 ⟨hdk.2 ?_, ?_, ?_⟩ <;> omega
      · rw [if_neg h1]
end Go.Proofs.YtjngnigelkgekaaGreat.Redo
namespace Go.Proofs.YtjngnigelkgekaaGreat.Redo
open Go.RowKit Go.Proofs.YtjngnigelkgekaaGreatW.PrintWords Go.Proofs.YtjngnigelkgekaaGreatW.PrintLast Go.Proofs.YtjngnigelkgekaaGreatW.PrintMore Go.Proofs.YtjngnigelkgekaaGreat.Kit Go.Proofs.YtjngnigelkgekaaGreat.Plain Go.Proofs.YtjngnigelkgekaaGreat.Disk Go.Proofs.YtjngnigelkgekaaGreat.Root
def sizeF (a : Int) : Int := if a < 1 ∨ 64 < a then 0 else a * 64
theorem sizeF_in (a : Int) : 0 ≤ sizeF a ∧ sizeF a ≤ 4096 := by unfold sizeF; split <;> omega
set_option maxHeartbeats 400000 in
theorem size_ (a b c : Int) (W : World) : Calls Tryz.prog 107 #[.agg #[.int .i64 a, .int .i64 b, .int .u32 c]] W fun e w' => e = .returned (.int .i64 (sizeF a)) ∧ Below W.heap.size W w' := by
  by_cases h1 : a < 1
  case pos =>
    have HR : Aside0 (sizeF a = 0) := ⟨by unfold sizeF; rw [if_pos (by omega)]⟩
    go_enter Tryz.func107, Tryz.ntmps107
    go_wp2_with fail
    go_ret
    exact ⟨by rw [HR.out]; first | rfl | (simp; done), below_alloc (Below.refl _ _) _⟩
  by_cases h2 : 64 < a
  case pos =>
    have HR : Aside0 (sizeF a = 0) := ⟨by unfold sizeF; rw [if_pos (by omega)]⟩
    go_enter Tryz.func107, Tryz.ntmps107
    go_wp2_with fail
    go_ret
    exact ⟨by rw [HR.out]; first | rfl | (simp; done), below_alloc (Below.refl _ _) _⟩
  have HR : Aside0 (sizeF a = a * 64) := ⟨by unfold sizeF; rw [if_neg (by omega)]⟩
  have hw : wrap64 (a * 64) = a * 64 := IntWalk.wrap64_in _ (by omega)
  go_enter Tryz.func107, Tryz.ntmps107
  go_wp2_with fail
  go_ret
  exact ⟨by rw [HR.out]; first | rfl | (simp; done), below_alloc (Below.refl _ _) _⟩
def logF (n : Nat) (las : List Int) (wt : Wt) (a b c : Int) : List Int := if rightR a b c n = true then secs a.toNat (fun i => secF n las wt (2 + i)) else []
def okA (n : Nat) (a b c at_ : Int) (len : Nat) : Bool := rightR a b c n && (decide (0 ≤ at_) && decide (at_ ≤ sizeF a - len))
section
variable {w0 W : World} {F : List HP} {g n : Nat} {las : List Int} {wt : Wt}
set_option maxHeartbeats 800000 in
set_option maxRecDepth 100000 in
theorem bytes_ (h : Sep w0 W (Dsk g las wt :: F)) (hl : las.length = 64 * n) (hw : ∀ i b, wt i = some b → b.length = 64) (a b c : Int) :
    Calls Tryz.prog 135 #[.pointer (some ⟨g, 0, none⟩), .agg #[.int .i64 a, .int .i64 b, .int .u32 c]] W fun e w' => ∃ v, e = .returned v ∧ Sep w0 w' (Row U8 5 v (logF n las wt a b c) :: Dsk g las wt :: F) := by
  have A0 := Aside0.mk (h.newBlk 80 #[.int .i64 a, .int .i64 b, .int .u32 c]).drew
  have HL := Aside0.mk (And.intro hl hw)
  have HLN : Aside0 ((las.length : Int) / 64 = (n : Int)) := ⟨by omega⟩
  clear h hl hw
  cases hr : rightR a b c n with
  | false =>
    have HRT := Aside0.mk hr
    have HP : Aside0 (logF n las wt a b c = []) := ⟨by unfold logF; rw [hr]; rfl⟩
    clear hr
    go_enter Tryz.func135, Tryz.ntmps135
    go_wp2_with fail
    refine start_ (n := 9) (S := fun w' => w'.cell? ⟨W.heap.size, 0, none⟩ = some (.int .i64 a) ∧ w'.cell? ⟨W.heap.size, 1, none⟩ = some (.int .i64 b) ∧ w'.cell? ⟨W.heap.size, 2, none⟩ = some (.int .u32 c)) (ds := [6]) #[Z,Z,Z,Z,Z,Z,Z,Z,Z] (by kernel_rfl) rfl rfl ⟨(A0.out.cell 0).trans rfl, (A0.out.cell 1).trans rfl, (A0.out.cell 2).trans rfl⟩ (fun hHeld => ?_)
    refine pu_ 0 9 ?_ #[J,Z,Z,Z,Z,Z,Z,Z,Z] rfl rfl ?_ ?_ ?_ ?_
    rotate_left
    · intro w'
      go_simp
      with_reducible rfl
    rotate_left
    · simp only [aP]
      rfl
    refine pu_ 1 10 ?_ #[J,J,Z,Z,Z,Z,Z,Z,Z] rfl rfl ?_ ?_ ?_ ?_
    rotate_left
    · intro w'
      go_simp
      with_reducible rfl
    rotate_left
    · simp only [aP]
      rfl
    refine pu_ 2 11 ?_ #[J,J,J,Z,Z,Z,Z,Z,Z] rfl rfl ?_ ?_ ?_ ?_
    rotate_left
    · intro w'
      go_simp
      with_reducible rfl
    rotate_left
    · simp only [aP]
      rfl
    refine pu_ 4 13 ?_ #[J,J,J,Z,J,Z,Z,Z,Z] rfl rfl ?_ ?_ ?_ ?_
    rotate_left
    · intro w'
      go_simp
      with_reducible rfl
    rotate_left
    · simp only [aP]
      rfl
    refine ta_ 3 12 ?_ #[J,J,J,J,J,Z,Z,Z,Z] rfl rfl ?_ hHeld ?_ ?_ ?_
    rotate_left
    · rintro w' ⟨s0, s1, s2⟩
      go_simp
      with_reducible rfl
    rotate_left
    · simp only [aP]
      rfl
    refine one_ (i := 5) (N := some 14) #[J,J,J,J,J,J,Z,Z,Z] rfl rfl (by kernel_rfl) (by decide) (fun K hK => ?_)
    refine goes_ Tryz.func65 (by kernel_rfl) rfl #[.pointer (some ⟨g, 0, none⟩)] (by rfl) rfl rfl (by simp only [List.map_toArray, List.map_cons, List.map_nil]; rfl) ?_
    with_reducible refine (len_ A0.out.at2).mono ?_
    rintro e w4 ⟨rfl, rfl⟩
    refine ⟨_, rfl, ?_⟩
    rw [HLN.out]
    refine hK.out _ _ ⟨(A0.out.cell 0).trans rfl, (A0.out.cell 1).trans rfl, (A0.out.cell 2).trans rfl⟩ (fun hHeld => ?_)
    clear hK K
    refine norm_ (a' := ?_) ?_ ?_
    rotate_left
    · show Act.put _ (some 14) _ = _
      simp only [aP]
      rfl
    refine last_ (i := 6) (N := some 15) #[J,J,J,J,J,J,J,Z,Z] rfl rfl (by kernel_rfl) (by decide) (fun K hK => ?_)
    refine goes_ Tryz.func64 (by kernel_rfl) rfl #[.agg #[.int .i64 a, .int .i64 b, .int .u32 c], .int .i64 (n : Int)] (by rfl) rfl rfl (by simp only [List.map_toArray, List.map_cons, List.map_nil]; rfl) ?_
    with_reducible refine (right_ a b c (n : Int) _).mono ?_
    rintro e w5 ⟨rfl, hb5⟩
    refine ⟨_, rfl, ?_⟩
    rw [HRT.out]
    have A5 := Aside0.mk (A0.out.below hb5)
    clear hb5
    refine hK.out _ _ ?_
    clear hK K
    refine norm_ (a' := ?_) ?_ ?_
    rotate_left
    · show Act.put _ (some 15) _ = _
      simp only [aP]
      rfl
    refine pu_ 7 16 ?_ #[J,J,J,J,J,J,J,J,Z] rfl rfl ?_ ?_ ?_ ?_
    rotate_left
    · intro w'
      go_simp
      with_reducible rfl
    rotate_left
    · simp only [aP]
      rfl
    refine pu_ 8 17 ?_ #[J,J,J,J,J,J,J,J,J] rfl rfl ?_ ?_ ?_ ?_
    rotate_left
    · intro w'
      go_simp
      with_reducible rfl
    rotate_left
    · simp only [aP]
      rfl
    refine done_ (by kernel_rfl) ?_
    go_wp2_with fail
    go_ret
    exact ⟨_, by first | rfl | (simp; done), by rw [HP.out]; exact A5.out.tail.nilRow _ _⟩
  | true =>
    have HRT := Aside0.mk hr
    have h1 := of_decide_eq_true hr
    obtain ⟨Lg, rfl⟩ := Int.eq_ofNat_of_zero_le (show 0 ≤ a by omega)
    have HP : Aside0 (logF n las wt (Lg : Int) b c = secs Lg (fun i => secF n las wt (2 + i))) := ⟨by unfold logF; rw [if_pos hr, Int.toNat_natCast]⟩
    have hK : Lg ≤ 64 := by omega
    have HKN : Aside0 (2 + Lg ≤ n) := ⟨by omega⟩
    clear hr h1
    go_enter Tryz.func135, Tryz.ntmps135
    go_wp2_with fail
    refine start_ (n := 9) (S := fun w' => w'.cell? ⟨W.heap.size, 0, none⟩ = some (.int .i64 (Lg : Int)) ∧ w'.cell? ⟨W.heap.size, 1, none⟩ = some (.int .i64 b) ∧ w'.cell? ⟨W.heap.size, 2, none⟩ = some (.int .u32 c)) (ds := [6]) #[Z,Z,Z,Z,Z,Z,Z,Z,Z] (by kernel_rfl) rfl rfl ⟨(A0.out.cell 0).trans rfl, (A0.out.cell 1).trans rfl, (A0.out.cell 2).trans rfl⟩ (fun hHeld => ?_)
    refine pu_ 0 9 ?_ #[J,Z,Z,Z,Z,Z,Z,Z,Z] rfl rfl ?_ ?_ ?_ ?_
    rotate_left
    · intro w'
      go_simp
      with_reducible rfl
    rotate_left
    · simp only [aP]
      rfl
    refine pu_ 1 10 ?_ #[J,J,Z,Z,Z,Z,Z,Z,Z] rfl rfl ?_ ?_ ?_ ?_
    rotate_left
    · intro w'
      go_simp
      with_reducible rfl
    rotate_left
    · simp only [aP]
      rfl
    refine pu_ 2 11 ?_ #[J,J,J,Z,Z,Z,Z,Z,Z] rfl rfl ?_ ?_ ?_ ?_
    rotate_left
    · intro w'
      go_simp
      with_reducible rfl
    rotate_left
    · simp only [aP]
      rfl
    refine pu_ 4 13 ?_ #[J,J,J,Z,J,Z,Z,Z,Z] rfl rfl ?_ ?_ ?_ ?_
    rotate_left
    · intro w'
      go_simp
      with_reducible rfl
    rotate_left
    · simp only [aP]
      rfl
    refine ta_ 3 12 ?_ #[J,J,J,J,J,Z,Z,Z,Z] rfl rfl ?_ hHeld ?_ ?_ ?_
    rotate_left
    · rintro w' ⟨s0, s1, s2⟩
      go_simp
      with_reducible rfl
    rotate_left
    · simp only [aP]
      rfl
    refine one_ (i := 5) (N := some 14) #[J,J,J,J,J,J,Z,Z,Z] rfl rfl (by kernel_rfl) (by decide) (fun K hK => ?_)
    refine goes_ Tryz.func65 (by kernel_rfl) rfl #[.pointer (some ⟨g, 0, none⟩)] (by rfl) rfl rfl (by simp only [List.map_toArray, List.map_cons, List.map_nil]; rfl) ?_
    with_reducible refine (len_ A0.out.at2).mono ?_
    rintro e w4 ⟨rfl, rfl⟩
    refine ⟨_, rfl, ?_⟩
    rw [HLN.out]
    refine hK.out _ _ ⟨(A0.out.cell 0).trans rfl, (A0.out.cell 1).trans rfl, (A0.out.cell 2).trans rfl⟩ (fun hHeld => ?_)
    clear hK K
    refine norm_ (a' := ?_) ?_ ?_
    rotate_left
    · show Act.put _ (some 14) _ = _
      simp only [aP]
      rfl
    refine last_ (i := 6) (N := some 15) #[J,J,J,J,J,J,J,Z,Z] rfl rfl (by kernel_rfl) (by decide) (fun K hK => ?_)
    refine goes_ Tryz.func64 (by kernel_rfl) rfl #[.agg #[.int .i64 (Lg : Int), .int .i64 b, .int .u32 c], .int .i64 (n : Int)] (by rfl) rfl rfl (by simp only [List.map_toArray, List.map_cons, List.map_nil]; rfl) ?_
    with_reducible refine (right_ (Lg : Int) b c (n : Int) _).mono ?_
    rintro e w5 ⟨rfl, hb5⟩
    refine ⟨_, rfl, ?_⟩
    rw [HRT.out]
    have A5 := Aside0.mk (A0.out.below hb5)
    clear hb5
    refine hK.out _ _ ?_
    clear hK K
    refine norm_ (a' := ?_) ?_ ?_
    rotate_left
    · show Act.put _ (some 15) _ = _
      simp only [aP]
      rfl
    refine pu_ 7 16 ?_ #[J,J,J,J,J,J,J,J,Z] rfl rfl ?_ ?_ ?_ ?_
    rotate_left
    · intro w'
      go_simp
      with_reducible rfl
    rotate_left
    · simp only [aP]
      rfl
    refine pu_ 8 17 ?_ #[J,J,J,J,J,J,J,J,J] rfl rfl ?_ ?_ ?_ ?_
    rotate_left
    · intro w'
      go_simp
      with_reducible rfl
    rotate_left
    · simp only [aP]
      rfl
    refine done_ (by kernel_rfl) ?_
    have z0 := (A5.out.cell 0).trans rfl
    have z1 := (A5.out.cell 1).trans rfl
    have z2 := (A5.out.cell 2).trans rfl
    have A6 := Aside0.mk (A5.out.tail.nilRow U8 5)
    go_wp2_with fail
    clear z0 z1 z2
    go_loopg [5, 20] Lg (fun m v p wr => ∃ j : Nat, p = .int .i64 (j : Int) ∧ j + m = Lg ∧ Sep w0 wr (Row U8 5 v (secs j (fun i => secF n las wt (2 + i))) :: Dsk g las wt :: F))
    case atStart => exact ⟨0, rfl, by omega, A6.out⟩
    case round =>
      obtain ⟨j, rfl, hjm, hS⟩ := hrel
      have AK := Aside0.mk hjm
      have AS := Aside0.mk hS
      have HSL : Aside0 (j ≤ Lg → (secs j (fun i => secF n las wt (2 + i))).length = 64 * j) := ⟨fun h => secs_len (fun i hi => by rw [secF_len HL.out.1 HL.out.2, if_pos (by have := HKN.out; omega)])⟩
      clear hS
      by_cases hj : j < Lg
      · have hjl : (j : Int) < (Lg : Int) := by omega
        have hjld : decide ((j : Int) < (Lg : Int)) = true := decide_eq_true hjl
        obtain ⟨A3, c3, rfl⟩ := AS.out.rowN (n := 64 * j) (HSL.out (by omega))
        have HSN : Aside0 (secs (j + 1) (fun i => secF n las wt (2 + i)) = secs j (fun i => secF n las wt (2 + i)) ++ secF n las wt (2 + j)) := ⟨secs_succ _ _⟩
        clear hjm
        go_wp2_with fail
        rw [show (2 + (j : Int)) = ((2 + j : Nat) : Int) by omega]
        refine (read_in AS.out.at2 (2 + j) (by have := HL.out.1; have := HKN.out; omega)).mono ?_
        rintro e w3 ⟨v3, rfl, hS3⟩
        have hsf : (wt (2 + j)).getD (sec las (2 + j)) = secF n las wt (2 + j) := by unfold secF; rw [if_pos (by have := HKN.out; omega)]
        rw [hsf] at hS3
        obtain ⟨A4, c4, rfl⟩ := hS3.rowN (n := 64) (by rw [secF_len HL.out.1 HL.out.2, if_pos (by have := HKN.out; omega)])
        have L3 := Aside0.mk hS3.at3
        have HXL : Aside0 ((secF n las wt (2 + j)).length = 64) := ⟨by rw [secF_len HL.out.1 HL.out.2, if_pos (by have := HKN.out; omega)]⟩
        clear hS3 hsf
        go_wp2_with (first | (refine gate_builtin (b := .append) (xs := #[.tmp 30, .tmp 31]) rfl ?_; go_loud (refine L3.out.appendRow rfl (.tmp 30) (.tmp 31) 24 (.int .u8 0) 1 rfl Tryz.underlying24 Base.infoB rfl (by decide) A4 64 c4 rfl rfl L3.out.at2.rowC' (by rw [HSL.out (by omega), HXL.out]; omega) ?_; intro v6 w6 hS6; have B6 := Aside0.mk hS6; clear hS6)))
        go_roundg (gk - 1)
        case measure => have := AK.out; omega
        case rel => exact ⟨j + 1, by go_num, by have := AK.out; omega, by rw [HSN.out]; exact B6.out.drop2⟩
      · obtain rfl : j = Lg := by omega
        obtain ⟨A3, c3, rfl⟩ := AS.out.rowN (n := 64 * j) (HSL.out (by omega))
        clear hjm
        go_wp2_with fail
        go_ret
        exact ⟨_, by first | rfl | (simp; done), by rw [HP.out]; exact AS.out⟩
end
end Go.Proofs.YtjngnigelkgekaaGreat.Redo
namespace Go.Proofs.YtjngnigelkgekaaGreat.Kit
open Go.RowKit Go.Proofs.YtjngnigelkgekaaGreatW.PrintWords Go.Proofs.YtjngnigelkgekaaGreatW.PrintLast Go.Proofs.YtjngnigelkgekaaGreatW.PrintMore
section
variable {P : Program} {ops : Array Oper} {Q : Exit → Act → World → Prop} {md : Region.Mode} {l n : Nat}
theorem rows_round {row : String} {args : Array Value} {w : World} {R : Value → World → Prop} (h : Rows P row args w R) : RowsIn (Fence.wide.inRound l) n P row args w R :=
  fun c cs _ => let ⟨v, w', r, s⟩ := h c cs; ⟨v, w', r, stepsIn_wide.2 s⟩
theorem upon_round {o : Oper} {a : Act} {next : Act → World → Prop} : ∀ {r : Result Next}, o.upon P a next Q r → o.uponIn (Fence.wide.inRound l) n P a next Q r
  | .ok (.value v) w', h => h
  | .ok .skip w', h => h
  | .ok (.defer d) w', h => h
  | .ok (.enter f args) w', h => ⟨fun hh => by simp [Fence.wide] at hh, CallsIn.inRound l (callsIn_wide.2 h)⟩
  | .ok (.row row args) w', h => ⟨fun hh => by simp [Fence.wide] at hh, rows_round h⟩
  | .halt (.panic v) w', h => h
theorem op_round {i : Nat} {a : Act} {w : World} {K K' : Act → World → Prop} (hQ : ¬ LetsOut Q) (hd : ∀ (i : Nat) (o : Oper), ops[i]? = some o → ∀ c, o.op ≠ .defer c) (hk : ∀ a w, K a w → K' a w) (h : wpOp P ops Q i K a w) : wpOpIn (Fence.wide.inRound l) n P ops Q i K' a w := by
  unfold wpOp at h
  unfold wpOpIn
  cases ho : ops[i]? with
  | none => rw [ho] at h; exact hk _ _ h
  | some o =>
    rw [ho] at h
    simp only at h ⊢
    split at h
    · rename_i hw
      rw [if_pos hw]
      rcases h with h | h
      · have h2 : o.wp P a w K' Q := Oper.wp_mono hk h
        refine ⟨fun f _ => trivial, ?_⟩
        rw [show (Fence.wide.inRound l).round = some l from rfl, Oper.semAt_some l _ _ (hd i o ho)]
        exact upon_round h2
      · exact absurd h.2 hQ
    · rename_i hw
      rw [if_neg hw]
      exact ⟨fun f _ => trivial, hk _ _ h⟩
theorem any_round (hQ : ¬ LetsOut Q) (hd : ∀ (i : Nat) (o : Oper), ops[i]? = some o → ∀ c, o.op ≠ .defer c) : ∀ (fuel : Nat) (listed : Array Bool) (a : Act) (w : World), wpAny P md ops Q fuel listed a w → wpAnyIn (Fence.wide.inRound l) n P md ops Q fuel listed a w
  | 0, _, _, _, h => h
  | fuel + 1, _, _, _, h => ⟨h.1, fun i hi => op_round hQ hd (fun a' w' h' => any_round hQ hd fuel _ a' w' h') (h.2 i hi)⟩
theorem startR_ {S : World → Prop} {ds : List Nat} {id : Nat} {a : Act} {w : World} (hQ : ¬ LetsOut Q) (hd : ∀ (i : Nat) (o : Oper), ops[i]? = some o → ∀ c, o.op ≠ .defer c) (hm : P.follows .mixedOrders = true)
    (h : wpAnyLast P .any ops Q S ds ops.size (Array.replicate ops.size false) a w.drew) : (Code.region id ops true).wpIn (Fence.wide.inRound l) n P Q a w :=
  wpIn_region_any hm (any_round hQ hd _ _ _ _ (wpAny_of_last _ _ _ _ h))
theorem startN_ {S : World → Prop} {ds : List Nat} {m : Nat} {a : Act} {w : World} (lst : Array Bool) (hn : ops.size = m) (hl : Array.replicate m false = lst) (hS : S w.drew)
    (h : S w.drew → wpAnyLast P .any ops Q S ds m lst a w.drew) : wpAnyLast P .any ops Q S ds ops.size (Array.replicate ops.size false) a w.drew := by
  subst hn
  subst hl
  exact h hS
end
def noDeferB (ops : Array Oper) : Bool := ops.all (fun o => match o.op with | .defer _ => false | _ => true)
theorem noDefer_of {ops : Array Oper} (h : noDeferB ops = true) : ∀ (i : Nat) (o : Oper), ops[i]? = some o → ∀ c, o.op ≠ .defer c := fun i o ho c hc => by
  have h1 := Array.all_eq_true_iff_forall_mem.1 h o (Array.mem_of_getElem? ho)
  rw [hc] at h1
  cases h1
def Nc (W0 : World) (B : Nat) : HP where
  P W ok := (∀ k, ok k ↔ (B ≤ k ∧ ∃ o, W0.heap[k]? = some o ∧ o.isCells = false)) ∧ ∀ k, ok k → W.heap[k]? = W0.heap[k]?
  loc := fun h hm => ⟨h.1, fun k hk => (hm k hk).trans (h.2 k hk)⟩
  bnd := fun {W ok} h k hk => by
    obtain ⟨_, o, ho, _⟩ := (h.1 k).1 hk
    exact blk_lt ((h.2 k hk).trans ho)
def CellsOnly (p : HP) : Prop := ∀ (W : World) (ok : Nat → Prop), p.P W ok → ∃ ok' : Nat → Prop, p.P W ok' ∧ (∀ k, ok' k → ok k) ∧ ∀ k, ok' k → ∃ cs t fr, W.heap[k]? = some (.cells cs t fr)
theorem cellsOnly_blk (g : Nat) (t : TypeId) (cs : Array Value) : CellsOnly (Blk g t cs) := fun W ok h => ⟨ok, h, fun _ hk => hk, fun k hk => by
  rw [(h.1 k).1 hk]; exact ⟨_, _, _, h.2⟩⟩
theorem cellsOnly_row {α : Type} (d : Kd α) (e : Nat) (v : Value) (xs : List α) : CellsOnly (Row d e v xs) := fun W ok h => by
  refine ⟨_, ⟨Kd.R_bound h.1, fun k hk => hk.2.2.1⟩, fun k hk => hk.1, fun k hk => ?_⟩
  obtain ⟨_, _, _, q, _, cells, hc⟩ := hk
  exact ⟨_, _, _, hc⟩
theorem sepR_cells {W : World} : ∀ {L : List HP} {av : Nat → Prop}, (∀ p ∈ L, CellsOnly p) → SepR W av L → SepR W (fun k => av k ∨ ∃ o, W.heap[k]? = some o ∧ o.isCells = false) L
  | [], _, _, _ => trivial
  | p :: L, av, hL, ⟨ok, hp, hd, h⟩ => by
    obtain ⟨ok', hp', hs, hc⟩ := hL p (List.mem_cons_self ..) W ok hp
    refine ⟨ok', hp', fun k hk ha => ?_, ?_⟩
    · rcases ha with ha | ⟨o, ho, hn⟩
      · exact hd k (hs k hk) ha
      · obtain ⟨cs, t, fr, hcc⟩ := hc k hk
        rw [ho] at hcc
        cases hcc
        simp [Obj.isCells] at hn
    · have h2 := sepR_cells (fun q hq => hL q (List.mem_cons_of_mem _ hq)) h
      refine h2.weaken (fun k hk => ?_)
      rcases hk with (h3 | h3) | h3
      · exact .inl (.inl h3)
      · exact .inr h3
      · exact .inl (.inr (hs k h3))
namespace Sep
variable {w0 W W' : World} {B : Nat} {L L' : List HP}
theorem turned (hL : ∀ p ∈ L, CellsOnly p) (h : Sep w0 W L) (hB : w0.heap.size ≤ B) {row : Option Nat} (hg : W.grownBy W' row) (hr : ∀ r, row = some r → B ≤ r ∧ ∃ o : Obj, W.heap[r]? = some o ∧ o.isCells = false) : Sep w0 W' L := by
  have hne : ∀ k, k < w0.heap.size → row ≠ some k := fun k hk he => by have := (hr k he).1; omega
  refine ⟨hg.os.trans h.os, hg.tape.trans h.tape, hg.output.trans h.output, Nat.le_trans h.size hg.size, fun k hk => (hg.block k (Nat.lt_of_lt_of_le hk h.size) (fun he => hne k hk he.symm)).trans (h.old k hk), ?_⟩
  refine ((sepR_cells hL h.sep).move (W' := W') (fun k hk hn => hg.block k hk (fun he => hn (.inr (hr k he.symm).2)))).weaken (fun k hk => .inl hk)
theorem roundIn (hL : ∀ p ∈ L, CellsOnly p) (h : Sep w0 W L) (hB : w0.heap.size ≤ B) : Sep w0 W (Nc W B :: L) := by
  refine ⟨h.os, h.tape, h.output, h.size, h.old, fun k => B ≤ k ∧ ∃ o, W.heap[k]? = some o ∧ o.isCells = false, ⟨fun _ => Iff.rfl, fun _ _ => rfl⟩, fun k hk ha => by have := hk.1; omega, ?_⟩
  exact (sepR_cells hL h.sep).weaken (fun k hk => hk.elim .inl (fun h2 => .inr h2.2))
theorem roundOut {F : List HP} (h : Sep w0 W' (Nc W B :: F)) (hs : W.heap.size ≤ W'.heap.size) : KeepsFrom B W W' := by
  obtain ⟨ok, hp, _⟩ := h.sep
  exact ⟨hs, fun k o hB hk ho => (hp.2 k ((hp.1 k).2 ⟨hB, o, hk, ho⟩)).trans hk⟩
end Sep
end Go.Proofs.YtjngnigelkgekaaGreat.Kit
namespace Go.Proofs.YtjngnigelkgekaaGreat.Delta
open Go.RowKit Go.Shelf Go.Proofs.YtjngnigelkgekaaGreatW.PrintWords Go.Proofs.YtjngnigelkgekaaGreatW.PrintLast Go.Proofs.YtjngnigelkgekaaGreatW.PrintMore Go.Proofs.YtjngnigelkgekaaGreat.Kit Go.Proofs.YtjngnigelkgekaaGreat.Base
attribute [local go_sem] Oper.semAt_some
def Boxes (W : World) (b1 b2 : Nat) (A : Option Addr) (L c : Nat) : Prop := W.heap[b1]? = some (.cells #[.slice A L c] 24 (0, 0)) ∧ W.heap[b2]? = some (.cells #[.int .i64 66] 3 (0, 0))
def Kq (b1 b2 : Nat) (W W' : World) : Prop := W'.heap[b1]? = W.heap[b1]? ∧ W'.heap[b2]? = W.heap[b2]?
theorem Boxes.keep {W W' : World} {b1 b2 : Nat} {A : Option Addr} {L c : Nat} (h : Boxes W b1 b2 A L c) (k : Kq b1 b2 W W') : Boxes W' b1 b2 A L c := ⟨k.1.trans h.1, k.2.trans h.2⟩
theorem num0 {k : IntKind} {a b : Int} (h : a = b) : Value.int k a = .int k b := by rw [h]
def encC (m : Nat) (A : Option Addr) (i : Fin m) : Array Value := #[.slice (A.map (·.add (66 * i.1))) 66 66]
set_option maxHeartbeats 1600000 in
set_option maxRecDepth 100000 in
theorem chunk1_in (n : Nat) (hn : 1 ≤ n) {m b1 b2 c L : Nat} {A : Option Addr} {w : World} (hL : 66 * m = L) (hb : Boxes w b1 b2 A L c) (hc : L ≤ c) (hm : m ≤ 1000000) :
    SeqStopsK Fence.wide n Tryz.prog 156 #[.pointer (some ⟨b1, 0, none⟩), .pointer (some ⟨b2, 0, none⟩)] (encC m A) (Kq b1 b2) (fun xs => xs = List.finRange m) (fun _ => True) m w := by
  subst hL
  intro l J Jx W hW hJ hJx hY h0
  have hb1 : b1 < w.heap.size := blk_lt hb.1
  have hb2 : b2 < w.heap.size := blk_lt hb.2
  have hBW : Boxes W b1 b2 A (66 * m) c := ⟨(hW.block b1 hb1).trans hb.1, (hW.block b2 hb2).trans hb.2⟩
  have ABW := Aside0.mk hBW
  have AY := Aside0.mk hY
  have AJ := Aside0.mk hJ
  clear hb hb1 hb2 hBW hY hW
  refine callsIn_of_wp Tryz.func156 rfl trivial ?_ rfl
  simp only [Tryz.ntmps156, List.size_toArray, List.length_cons, List.length_nil, Nat.reduceAdd, Nat.reduceSub, Array.replicate_succ, Array.replicate_zero, List.push_toArray, List.append_toArray, List.nil_append, List.cons_append]
  gi_wp2
  gi_loopw [4] (fun p wr => ∃ k : Nat, p = .int .i64 (66 * (k : Int)) ∧ k ≤ m ∧ Boxes wr b1 b2 A (66 * m) c ∧ J ((List.finRange m).take k) wr) (fun p wr => 66 * m - (intOf p).toNat)
  case atStart => exact ⟨0, rfl, Nat.zero_le _, ABW.out, h0⟩
  case round =>
    obtain ⟨k, rfl, hk, hB, hJk⟩ := hrel
    have AB := Aside0.mk hB
    have AJk := Aside0.mk hJk
    have d1 : wr.cell? ⟨b1, 0, none⟩ = some (.slice A (66 * m) c) := blk_cell hB.1 0
    by_cases hlt : k < m
    · have d2 : wr.drew.cell? ⟨b2, 0, none⟩ = some (.int .i64 66) := blk_cell (w := wr.drew) hB.2 0
      have d1' : wr.drew.cell? ⟨b1, 0, none⟩ = some (.slice A (66 * m) c) := blk_cell (w := wr.drew) hB.1 0
      obtain ⟨A', hcut⟩ := cut1 A (66 * m) c (66 * k) (by omega) hc
      have hcut3 := cut3 A (66 * m) c (66 * k) (66 * k + 66) (66 * k + 66) (by omega) (Nat.le_refl _) (by omega) (by omega)
      rw [show ((66 * k : Nat) : Int) = 66 * (k : Int) by omega] at hcut
      rw [show ((66 * k : Nat) : Int) = 66 * (k : Int) by omega, show ((66 * k + 66 : Nat) : Int) = 66 * (k : Int) + 66 by omega, Nat.add_sub_cancel_left] at hcut3
      obtain ⟨fn, tmps, assign, body, hy, hR⟩ := AY.out ((List.finRange m).take k) ⟨k, hlt⟩ wr.drew (AJ.out _ _ _ none hJk ⟨rfl, rfl, rfl, Nat.le_refl _, fun _ _ _ => rfl⟩ (fun r h => by cases h)) (by rw [List.length_take, List.length_finRange]; omega)
      unfold encC at hy
      dsimp only at hy
      have hmin : min (66 : Int) (((66 * m - 66 * k : Nat) : Int)) = 66 := by omega
      have AR := Aside0.mk hR
      clear hB hJk hR
      gi_wp2
      refine wpIn_wide.2 ?_
      refine start_ (n := 7) (S := fun w' => w'.cell? ⟨b1, 0, none⟩ = some (.slice A (66 * m) c) ∧ w'.cell? ⟨b2, 0, none⟩ = some (.int .i64 66)) (ds := []) #[fF,fF,fF,fF,fF,fF,fF] (by kernel_rfl) rfl rfl ⟨d1', d2⟩ (fun hHeld => ?_)
      refine pu_ 2 15 ?_ #[fF,fF,tT,fF,fF,fF,fF] rfl rfl ?_ ?_ ?_ ?_
      rotate_left
      · intro w'
        go_simp
        with_reducible rfl
      rotate_left
      · simp only [aP]
        rfl
      refine ta_ 0 13 ?_ #[tT,fF,tT,fF,fF,fF,fF] rfl rfl ?_ hHeld ?_ ?_ ?_
      rotate_left
      · rintro w' ⟨s0, s1⟩
        go_simp
        with_reducible rfl
      rotate_left
      · simp only [aP]
        rfl
      refine ta_ 1 14 ?_ #[tT,tT,tT,fF,fF,fF,fF] rfl rfl ?_ hHeld ?_ ?_ ?_
      rotate_left
      · rintro w' ⟨s0, s1⟩
        go_simp
        with_reducible rfl
      rotate_left
      · simp only [aP]
        rfl
      refine pu_ 3 16 ?_ #[tT,tT,tT,tT,fF,fF,fF] rfl rfl ?_ ?_ ?_ ?_
      rotate_left
      · intro w'
        go_simp
        with_reducible rfl
      rotate_left
      · simp only [aP]
        rfl
      refine pu_ 4 17 ?_ #[tT,tT,tT,tT,tT,fF,fF] rfl rfl ?_ ?_ ?_ ?_
      rotate_left
      · intro w'
        go_simp
        with_reducible rfl
      rotate_left
      · simp only [aP]
        rfl
      refine pu_ 5 18 ?_ #[tT,tT,tT,tT,tT,tT,fF] rfl rfl ?_ ?_ ?_ ?_
      rotate_left
      · intro w'
        go_simp
        with_reducible rfl
      rotate_left
      · simp only [aP]
        rfl
      refine pu_ 6 5 ?_ #[tT,tT,tT,tT,tT,tT,tT] rfl rfl ?_ ?_ ?_ ?_
      rotate_left
      · intro w'
        go_simp
        with_reducible rfl
      rotate_left
      · simp only [aP]
        rfl
      refine done_ (by kernel_rfl) ?_
      gi_wp2
      refine AR.out.mono ?_
      rintro e W3 (⟨rfl, hJ3, hk3⟩ | ⟨rfl, hJx3⟩)
      · have hB3 : Boxes W3 b1 b2 A (66 * m) c := AB.out.keep hk3
        have q2 : W3.cell? ⟨b2, 0, none⟩ = some (.int .i64 66) := blk_cell hB3.2 0
        have htk : (List.finRange m).take (k + 1) = (List.finRange m).take k ++ [⟨k, hlt⟩] := by
          rw [List.take_add_one, List.getElem?_eq_getElem (by rw [List.length_finRange]; exact hlt), List.getElem_finRange]
          rfl
        have AK := Aside0.mk (And.intro hB3 (And.intro hJ3 htk))
        clear hB3 hJ3 hk3 htk hy hcut hcut3 hmin d1' d2
        gi_wp2
        go_roundw
        case rel => exact ⟨k + 1, num0 (by omega), hlt, AK.out.1, by rw [AK.out.2.2]; exact AK.out.2.1⟩
        case measure => simp [intOf]; omega
      · clear hy hcut hcut3 hmin
        gi_wp2
        refine bodyPost_ret (results_none rfl _ _ _) rfl ?_
        exact ⟨⟨_, rfl⟩, .inr ⟨_, trivial, hJx3⟩⟩
    · have hkm : k = m := by omega
      subst hkm
      rw [List.take_of_length_le (by rw [List.length_finRange]; exact Nat.le_refl _)] at hJk
      have AJm := Aside0.mk hJk
      clear hB hJk AJk hk hlt
      gi_wp2
      go_end0
      exact ⟨⟨_, rfl⟩, .inl ⟨_, rfl, AJm.out⟩⟩
set_option maxHeartbeats 400000 in
theorem chunk_ {A : Option Addr} {n c : Nat} (w : World) : Calls Tryz.prog 149 #[.slice A n c, .int .i64 66] w fun e w' =>
    e = .returned (.func (.func 156) #[] #[.pointer (some ⟨w.heap.size, 0, none⟩), .pointer (some ⟨w.heap.size + 1, 0, none⟩)]) ∧ w' = (w.alloc (.cells #[.slice A n c] 24)).alloc (.cells #[.int .i64 66] 3) := by
  have hmf : ∀ (fn : Fn) (first cap : Array Value) (w : World), (Instr.makeFunc fn first cap).run Tryz.prog w = .ok (.func fn first cap) w := fun _ _ _ _ => rfl
  go_enter Tryz.func149, Tryz.ntmps149
  go_wp2
  go_ret
  exact ⟨by first | rfl | (simp; done), rfl⟩
end Go.Proofs.YtjngnigelkgekaaGreat.Delta
namespace Go.Proofs.YtjngnigelkgekaaGreat.Delta
open Go.RowKit Go.Proofs.YtjngnigelkgekaaGreatW.PrintWords Go.Proofs.YtjngnigelkgekaaGreatW.PrintLast Go.Proofs.YtjngnigelkgekaaGreatW.PrintMore Go.Proofs.YtjngnigelkgekaaGreat.Kit Go.Proofs.YtjngnigelkgekaaGreat.Base Go.Proofs.YtjngnigelkgekaaGreat.Plain
theorem okF_drop {pages last : Int} {l : List Chg} {j : Nat} (h : j < l.length) : okF pages last (l.drop j) = (decide (¬ (l[j]).1 ≤ last ∧ ¬ pages ≤ (l[j]).1 ∧ (l[j]).2.length = 64) && okF pages (l[j]).1 (l.drop (j + 1))) := by
  rw [List.drop_eq_getElem_cons h]; rfl
set_option maxHeartbeats 1600000 in
set_option maxRecDepth 100000 in
theorem right_ {A : Option Addr} {n c : Nat} {l : List Chg} {w : World} (hr : KC.C w A n l) (pages : Int) :
    Calls Tryz.prog 69 #[.slice A n c, .int .i64 pages] w fun e w' => e = .returned (.bool (rightF l pages)) ∧ Below w.heap.size w w' := by
  obtain rfl : l.length = n := hr.1
  have hm : l.length ≤ 9223372036854775807 := hr.2.1
  have HR := Aside0.mk hr
  clear hr
  by_cases hp : 64 < pages
  · have hf : rightF l pages = false := by unfold rightF; rw [decide_eq_false (by omega)]; rfl
    have HF := Aside0.mk hf
    clear hf
    go_enter Tryz.func69, Tryz.ntmps69
    go_wp2_with fail
    go_ret
    exact ⟨by rw [HF.out]; first | rfl | (simp; done), Below.refl _ _⟩
  · have hf : rightF l pages = okF pages (-1) l := by unfold rightF; rw [decide_eq_true (by omega)]; rfl
    have HF := Aside0.mk hf
    clear hf
    go_enter Tryz.func69, Tryz.ntmps69
    go_wp2_with fail
    go_loopg [5, 12] l.length (fun m s p wr => ∃ (j : Nat) (last : Int), p = .int .i64 (j : Int) ∧ s = .int .i64 last ∧ j + m = l.length ∧ okF pages (-1) l = okF pages last (l.drop j) ∧ Below w.heap.size w wr)
    case atStart => exact ⟨0, -1, rfl, rfl, by omega, rfl, Below.refl _ _⟩
    case round =>
      obtain ⟨j, last, rfl, rfl, hjm, hok, hB⟩ := hrel
      have AK := Aside0.mk hjm
      have AO := Aside0.mk hok
      have AB := Aside0.mk hB
      by_cases hj : j < l.length
      · obtain ⟨hx, a, B, c2, rfl, e0, e1, e2, e3⟩ := elem2_ (Kd.C_below HR.out hB) hj
        have hdr := okF_drop (pages := pages) (last := last) hj
        have BL := Aside0.mk (((Sep.start w).below hB).newBlk 75 #[.int .i64 (l[j]).1, .slice B (l[j]).2.length c2]).toBelow
        have AD := Aside0.mk hdr
        have hlm : (l[j]).2.length ≤ 9223372036854775807 := e3.2.1
        obtain ⟨pg, hpg⟩ : ∃ pg, (l[j]).1 = pg := ⟨_, rfl⟩
        obtain ⟨bn, hbn⟩ : ∃ bn, (l[j]).2.length = bn := ⟨_, rfl⟩
        rw [hpg] at e0 hdr BL
        rw [hbn] at e1 BL hlm
        have AG := Aside0.mk (And.intro hpg hbn)
        clear hjm hok hB hdr e2 e3 hpg hbn
        by_cases h1 : pg ≤ last
        · have hF : rightF l pages = false := by rw [HF.out, AO.out, AD.out, AG.out.1]; simp [h1]
          have AF := Aside0.mk hF
          clear hF
          go_wp2_with fail
          go_ret
          exact ⟨by rw [AF.out]; first | rfl | (simp; done), BL.out⟩
        · by_cases h2 : pages ≤ pg
          · have hF : rightF l pages = false := by rw [HF.out, AO.out, AD.out, AG.out.1]; simp [h2]
            have AF := Aside0.mk hF
            clear hF
            go_wp2_with fail
            go_ret
            exact ⟨by rw [AF.out]; first | rfl | (simp; done), BL.out⟩
          · by_cases h3 : bn = 64
            · have hok2 : okF pages (-1) l = okF pages pg (l.drop (j + 1)) := by
                rw [AO.out, AD.out, AG.out.1, AG.out.2, decide_eq_true ⟨h1, h2, h3⟩]; rfl
              have AO2 := Aside0.mk hok2
              subst h3
              clear hok2
              go_wp2_with fail
              go_roundg (gk - 1)
              case measure => have := AK.out; omega
              case rel => exact ⟨j + 1, pg, by go_num, rfl, by have := AK.out; omega, AO2.out, BL.out⟩
            · have hF : rightF l pages = false := by rw [HF.out, AO.out, AD.out, AG.out.1, AG.out.2]; simp [h3]
              have AF := Aside0.mk hF
              have h4 : ¬ ((bn : Int) = 64) := by omega
              clear hF
              go_wp2_with fail
              go_ret
              exact ⟨by rw [AF.out]; first | rfl | (simp; done), BL.out⟩
      · have hjn : j = l.length := by omega
        have hT : rightF l pages = true := by rw [HF.out, AO.out, hjn, List.drop_length]; rfl
        have AT := Aside0.mk hT
        clear hT hok hB hjm
        subst hjn
        go_wp2_with fail
        go_ret
        exact ⟨by rw [AT.out]; first | rfl | (simp; done), AB.out⟩
end Go.Proofs.YtjngnigelkgekaaGreat.Delta
namespace Go.Proofs.YtjngnigelkgekaaGreat.Delta
open Go.RowKit Go.Proofs.YtjngnigelkgekaaGreatW.PrintWords Go.Proofs.YtjngnigelkgekaaGreatW.PrintLast Go.Proofs.YtjngnigelkgekaaGreatW.PrintMore Go.Proofs.YtjngnigelkgekaaGreat.Kit Go.Proofs.YtjngnigelkgekaaGreat.Base Go.Proofs.YtjngnigelkgekaaGreat.Plain
set_option maxHeartbeats 1600000 in
set_option maxRecDepth 100000 in
theorem bytes_ {A : Option Addr} {n c : Nat} {l : List Chg} {w : World} (hr : KC.C w A n l) (hl : (deltaF l).length ≤ 1000000) :
    Calls Tryz.prog 72 #[.slice A n c] w fun e w' => ∃ v, e = .returned v ∧ Sep w w' [Row U8 5 v (deltaF l)] := by
  obtain rfl : l.length = n := hr.1
  have hm : l.length ≤ 9223372036854775807 := hr.2.1
  have HR := Aside0.mk hr
  have A0 := Aside0.mk ((Sep.start w).nilRow U8 5)
  have HL := Aside0.mk hl
  clear hr hl
  go_enter Tryz.func72, Tryz.ntmps72
  go_wp2_with fail
  refine (small_ A0.out (l.length : Int) (by decide)).mono ?_
  rintro e w1 ⟨v1, rfl, hS1⟩
  rw [List.nil_append] at hS1
  have A1 := Aside0.mk hS1
  clear hS1
  go_wp2_with fail
  go_loopg [3, 11] l.length (fun m v p wr => ∃ (j : Nat), p = .int .i64 (j : Int) ∧ j + m = l.length ∧ Sep w wr [Row U8 5 v (two (l.length : Int) ++ (l.take j).flatMap oneF)])
  case atStart => exact ⟨0, rfl, by omega, by simpa using A1.out⟩
  case round =>
    obtain ⟨j, rfl, hjm, hS⟩ := hrel
    have AK := Aside0.mk hjm
    by_cases hj : j < l.length
    · obtain ⟨hx, a, B, c2, rfl, e0, e1, e2, e3⟩ := elem2_ HR.out hj
      replace e0 := cell_later hS.toBelow e0
      replace e1 := cell_later hS.toBelow e1
      have htk := take_get hj
      have hsn : (l.take (j + 1)).flatMap oneF = (l.take j).flatMap oneF ++ (two (l[j]).1 ++ (l[j]).2) := by rw [htk, flat_snoc]
      have hle := flat_take_le l (j + 1)
      have hll := HL.out
      rw [hsn] at hle
      unfold deltaF at hll
      have HE3 := Aside0.mk e3
      have HSN := Aside0.mk hsn
      obtain ⟨pg, hpg⟩ : ∃ pg, (l[j]).1 = pg := ⟨_, rfl⟩
      obtain ⟨bs, hbs⟩ : ∃ bs, (l[j]).2 = bs := ⟨_, rfl⟩
      obtain ⟨bn, hbn⟩ : ∃ bn, bs.length = bn := ⟨_, rfl⟩
      rw [hpg] at e0 hle HSN
      rw [hbs] at e1 hle HSN HE3
      rw [hbn] at e1 HE3
      obtain ⟨pre, hpre⟩ : ∃ pre, two (l.length : Int) ++ (l.take j).flatMap oneF = pre := ⟨_, rfl⟩
      have hpl : pre.length + (2 + bn) ≤ 1000000 := by
        rw [← hpre, ← hbn]
        simp [two] at hle hll ⊢
        omega
      rw [hpre] at hS
      obtain ⟨A3, c3, rfl⟩ := hS.rowV
      have BK := Aside0.mk (hS.newBlk 75 #[.int .i64 pg, .slice B bn c2]).drew
      have z0 : ((wr.alloc (.cells #[.int .i64 pg, .slice B bn c2] 75)).drew).cell? ⟨wr.heap.size, 0, none⟩ = some (.int .i64 pg) := (BK.out.cell 0).trans rfl
      have z1 : ((wr.alloc (.cells #[.int .i64 pg, .slice B bn c2] 75)).drew).cell? ⟨wr.heap.size, 1, none⟩ = some (.slice B bn c2) := (BK.out.cell 1).trans rfl
      have AP := Aside0.mk hpre
      have APL := Aside0.mk hpl
      have ABN := Aside0.mk hbn
      clear hjm hS htk hsn hle hll e2 e3 hpg hbs hbn hpre hpl
      go_wp2_with fail
      refine start_ (n := 8) (S := fun w' => w'.cell? ⟨wr.heap.size, 0, none⟩ = some (.int .i64 pg) ∧ w'.cell? ⟨wr.heap.size, 1, none⟩ = some (.slice B bn c2)) (ds := [6]) #[Z,Z,Z,Z,Z,Z,Z,Z] (by kernel_rfl) rfl rfl ⟨z0, z1⟩ (fun hHeld => ?_)
      refine pu_ 0 15 ?_ #[J,Z,Z,Z,Z,Z,Z,Z] rfl rfl ?_ ?_ ?_ ?_
      rotate_left
      · intro w'
        go_simp
        with_reducible rfl
      rotate_left
      · simp only [aP]
        rfl
      refine pu_ 1 16 ?_ #[J,J,Z,Z,Z,Z,Z,Z] rfl rfl ?_ ?_ ?_ ?_
      rotate_left
      · intro w'
        go_simp
        with_reducible rfl
      rotate_left
      · simp only [aP]
        rfl
      refine pu_ 4 19 ?_ #[J,J,Z,Z,J,Z,Z,Z] rfl rfl ?_ ?_ ?_ ?_
      rotate_left
      · intro w'
        go_simp
        with_reducible rfl
      rotate_left
      · simp only [aP]
        rfl
      refine ta_ 2 17 ?_ #[J,J,J,Z,J,Z,Z,Z] rfl rfl ?_ hHeld ?_ ?_ ?_
      rotate_left
      · rintro w' ⟨s0, s1⟩
        go_simp
        with_reducible rfl
      rotate_left
      · simp only [aP]
        rfl
      refine ta_ 5 20 ?_ #[J,J,J,Z,J,J,Z,Z] rfl rfl ?_ hHeld ?_ ?_ ?_
      rotate_left
      · rintro w' ⟨s0, s1⟩
        go_simp
        with_reducible rfl
      rotate_left
      · simp only [aP]
        rfl
      refine one_ (i := 3) (N := some 18) #[J,J,J,J,J,J,Z,Z] rfl rfl (by kernel_rfl) (by decide) (fun K hK => ?_)
      refine goes_ Tryz.func106 (by kernel_rfl) rfl #[.slice A3 pre.length c3, .int .i64 pg] (by rfl) rfl rfl (by simp only [List.map_toArray, List.map_cons, List.map_nil]; rfl) ?_
      with_reducible refine (small_ BK.out.at2 pg (by have := APL.out; omega)).mono ?_
      rintro e w3 ⟨v3, rfl, hS3⟩
      refine ⟨_, rfl, ?_⟩
      have B3 := Aside0.mk hS3
      clear hS3
      refine hK.out _ _ ⟨(B3.out.at2.cell 0).trans rfl, (B3.out.at2.cell 1).trans rfl⟩ (fun hHeld => ?_)
      clear hK K
      refine norm_ (a' := ?_) ?_ ?_
      rotate_left
      · show Act.put _ (some 18) _ = _
        simp only [aP]
        rfl
      refine last_ (i := 6) (N := some 21) #[J,J,J,J,J,J,J,Z] rfl rfl (by kernel_rfl) (by decide) (fun K hK => ?_)
      refine B3.out.appendStep (by rfl) (.tmp 18) (.tmp 20) 24 (.int .u8 0) 1 rfl Tryz.underlying24 infoB rfl (by decide) B bn c2 (by rfl) (by rfl) (Kd.C_below HE3.out B3.out.toBelow) (by have := APL.out; have := ABN.out; simp [two]; omega) ?_
      intro v6 w6 hS6
      have B6 := Aside0.mk hS6.drop2
      clear hS6
      refine hK.out _ _ ?_
      clear hK K
      refine norm_ (a' := ?_) ?_ ?_
      rotate_left
      · show Act.put _ (some 21) _ = _
        simp only [aP]
        rfl
      refine pu_ 7 3 ?_ #[J,J,J,J,J,J,J,J] rfl rfl ?_ ?_ ?_ ?_
      rotate_left
      · intro w'
        go_simp
        with_reducible rfl
      rotate_left
      · simp only [aP]
        rfl
      refine done_ (by kernel_rfl) ?_
      clear z0 z1
      go_wp2_with fail
      go_roundg (gk - 1)
      case measure => have := AK.out; omega
      case rel => exact ⟨j + 1, by go_num, by have := AK.out; omega, by rw [HSN.out, ← List.append_assoc, AP.out, ← List.append_assoc]; exact Sep.weakR (L := [_]) B6.out⟩
    · have hjn : j = l.length := by omega
      have A5 : Aside0 (Sep w wr [Row U8 5 _ (deltaF l)]) := ⟨by rw [hjn, List.take_length] at hS; exact hS⟩
      subst hjn
      clear hS hjm AK hj
      go_wp2_with fail
      go_ret
      exact ⟨_, by first | rfl | (simp; done), A5.out⟩
end Go.Proofs.YtjngnigelkgekaaGreat.Delta
