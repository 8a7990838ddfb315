/- RedoQ, Frame1, Frame2, Recs, Frame3, Frame4, StFrame: what HealTwice needs. -/
import Derived.Test.YtjngnigelkgekaaGreatThealTwice14
import Derived.OwnWalk
set_option linter.unusedVariables false
set_option linter.unusedSimpArgs false
namespace Go.Proofs.YtjngnigelkgekaaGreat.Redo
open Go.RowKit Go.Proofs.YtjngnigelkgekaaGreatW.PrintWords Go.Proofs.YtjngnigelkgekaaGreatW.PrintLast Go.Proofs.YtjngnigelkgekaaGreatW.PrintMore Go.Proofs.YtjngnigelkgekaaGreat.Kit Go.Proofs.YtjngnigelkgekaaGreat.Plain Go.Proofs.YtjngnigelkgekaaGreat.Disk Go.Proofs.YtjngnigelkgekaaGreat.Root
theorem appW_len {n at_ : Nat} {las b : List Int} {wt : Wt} (hl : las.length = 64 * n) (hw : ∀ i b, wt i = some b → b.length = 64) (hfit : 128 + at_ + b.length ≤ 64 * n) : ∀ i c, appW las wt at_ b i = some c → c.length = 64 := by
  intro i c h
  unfold appW at h
  split at h
  · rename_i ht
    injection h with h
    rw [← h]
    exact sec_len (by rw [over_len (by rw [Ref.flushed_len hl hw]; omega), Ref.flushed_len hl hw]; have := ht.2.1; omega)
  · exact hw i c h
theorem appW_flushed {n at_ : Nat} {las b : List Int} {wt : Wt} (hl : las.length = 64 * n) (hw : ∀ i b, wt i = some b → b.length = 64) (hfit : 128 + at_ + b.length ≤ 64 * n) : flushed las (appW las wt at_ b) = over (flushed las wt) (128 + at_) b := by
  have hF := Ref.flushed_len hl hw
  have hG : (over (flushed las wt) (128 + at_) b).length = 64 * n := by rw [over_len (by omega)]; exact hF
  rw [← secs_self hG]
  unfold flushed
  rw [show las.length / 64 = n by omega]
  refine secs_congr (fun i hi => ?_)
  show (appW las wt at_ b i).getD (sec las i) = sec (over (secs n fun i => (wt i).getD (sec las i)) (128 + at_) b) i
  have hsF := Ref.sec_flushed hl hw hi
  have hfl : flushed las wt = secs n (fun i => (wt i).getD (sec las i)) := by unfold flushed; rw [show las.length / 64 = n by omega]
  rw [hfl] at hsF hF
  unfold appW
  rw [hfl]
  by_cases h : b ≠ [] ∧ 64 * i < 128 + at_ + b.length ∧ 128 + at_ < 64 * i + 64
  · rw [if_pos h]; rfl
  · rw [if_neg h, ← hsF]
    by_cases hb : b = []
    · subst hb; rw [over_nil]
    · refine (sec_over_out (by omega) ?_).symm
      by_cases h1 : 64 * i < 128 + at_ + b.length
      · left
        have : ¬ 128 + at_ < 64 * i + 64 := fun h2 => h ⟨hb, h1, h2⟩
        omega
      · right; omega
theorem secs_shift {G : List Int} (s : Nat) : ∀ m : Nat, 64 * (s + m) ≤ G.length → secs m (fun i => sec G (s + i)) = (G.take (64 * (s + m))).drop (64 * s) := by
  intro m h
  apply List.ext_getElem?
  intro p
  rw [secs_get (fun i hi => sec_len (by omega)), List.getElem?_drop, List.getElem?_take]
  by_cases hp : p < 64 * m
  · rw [if_pos hp, if_pos (by omega), sec_get _ _ _ (by omega), show 64 * (s + p / 64) + p % 64 = 64 * s + p by omega]
  · rw [if_neg hp, if_neg (by omega)]
theorem logF_of {n a : Nat} {las : List Int} {wt : Wt} {b c : Int} (hl : las.length = 64 * n) (hw : ∀ i b, wt i = some b → b.length = 64) (hr : rightR (a : Int) b c n = true) : logF n las wt (a : Int) b c = ((flushed las wt).take (64 * (2 + a))).drop 128 := by
  have h1 := of_decide_eq_true hr
  have hF := Ref.flushed_len hl hw
  rw [← secs_shift 2 a (by omega)]
  unfold logF
  rw [if_pos hr, Int.toNat_natCast]
  refine secs_congr (fun i hi => ?_)
  unfold secF
  rw [if_pos (by omega), Ref.sec_flushed hl hw (by omega)]
end Go.Proofs.YtjngnigelkgekaaGreat.Redo
namespace Go.Proofs.YtjngnigelkgekaaGreat.Frame
open Go.RowKit Go.Proofs.YtjngnigelkgekaaGreatW.PrintWords Go.Proofs.YtjngnigelkgekaaGreatW.PrintLast Go.Proofs.YtjngnigelkgekaaGreatW.PrintMore Go.Proofs.YtjngnigelkgekaaGreat.Kit Go.Proofs.YtjngnigelkgekaaGreat.Base Go.Proofs.YtjngnigelkgekaaGreat.Plain
def readF (b : List Int) (ep sq : Int) : Option (List Int) :=
  if 16 ≤ b.length ∧ getF b 0 = ep ∧ getF b 4 = sq ∧ 16 + (getF b 8).toNat ≤ b.length ∧ getF b ((12 + (getF b 8).toNat : Nat) : Int) = sumF (b.take (12 + (getF b 8).toNat)) then some ((b.take (12 + (getF b 8).toNat)).drop 12) else none
theorem readF_some {b x : List Int} {ep sq : Int} (h : readF b ep sq = some x) : 16 + x.length ≤ b.length := by
  unfold readF at h
  split at h
  · rename_i h1
    injection h with h
    rw [← h, List.length_drop, List.length_take]
    omega
  · cases h
theorem readF_bytes {b x : List Int} {ep sq : Int} (hb : Bytes b) (h : readF b ep sq = some x) : Bytes x := by
  unfold readF at h
  split at h
  · injection h with h
    rw [← h]
    exact (hb.take _).drop _
  · cases h
def okR (b : List Int) (ep sq : Int) (e : Ending) (w w' : World) : Prop := match readF b ep sq with
  | none => e = .returned (.tuple #[.slice none 0 0, .int .i64 0, .bool false]) ∧ Below w.heap.size w w'
  | some x => ∃ v, e = .returned (.tuple #[v, .int .i64 ((16 + x.length : Nat) : Int), .bool true]) ∧ Sep w w' [Row U8 5 v x]
theorem okR_no {b : List Int} {ep sq : Int} {e : Ending} {w w' : World} (h : readF b ep sq = none) (he : e = .returned (.tuple #[.slice none 0 0, .int .i64 0, .bool false])) (hb : Below w.heap.size w w') : okR b ep sq e w w' := by
  unfold okR
  rw [h]
  exact ⟨he, hb⟩
theorem okR_yes {b x : List Int} {ep sq : Int} {e : Ending} {w w' : World} {v : Value} (h : readF b ep sq = some x) (he : e = .returned (.tuple #[v, .int .i64 ((16 + x.length : Nat) : Int), .bool true])) (hS : Sep w w' [Row U8 5 v x]) : okR b ep sq e w w' := by
  unfold okR
  rw [h]
  exact ⟨v, he, hS⟩
theorem rd_le (l : List Int) (hb : Bytes l) (i : Int) : 0 ≤ rd l i ∧ rd l i ≤ 255 := hb.at i
theorem getF_in {l : List Int} (hb : Bytes l) (a : Int) : 0 ≤ getF l a ∧ getF l a ≤ 4294967295 := by
  unfold getF
  split
  · omega
  · have h0 := rd_le l hb a
    have h1 := rd_le l hb (a + 1)
    have h2 := rd_le l hb (a + 2)
    have h3 := rd_le l hb (a + 3)
    omega
theorem fr_wrap {k n : Nat} (hk : (k : Int) ≤ 4294967295) (hn : 16 ≤ n) (hm : n ≤ 1000000) : IntKind.u64.wrap (k : Int) = (k : Int) ∧ wrap64 ((n : Int) - 16) = (n : Int) - 16 ∧ IntKind.i64.wrap ((n : Int) - 16) = (n : Int) - 16 ∧ IntKind.u64.wrap ((n : Int) - 16) = (n : Int) - 16 ∧ IntKind.i64.wrap (k : Int) = (k : Int) ∧ wrap64 (12 + (k : Int)) = 12 + (k : Int) ∧ wrap64 (k : Int) = (k : Int) :=
  ⟨by rw [IntKind.wrap_u64]; omega, IntWalk.wrap64_in _ (by omega), by rw [IntKind.wrap_i64]; omega, by rw [IntKind.wrap_u64]; omega, by rw [IntKind.wrap_i64]; omega, IntWalk.wrap64_in _ (by omega), IntWalk.wrap64_in _ (by omega)⟩
theorem fr_wrap2 {k : Nat} (hk : (k : Int) ≤ 4294967295) : wrap64 (12 + (k : Int) + 4) = ((16 + k : Nat) : Int) ∧ 12 + (k : Int) + 4 = ((16 + k : Nat) : Int) ∧ wrap64 (16 + (k : Int)) = ((16 + k : Nat) : Int) ∧ 16 + (k : Int) = ((16 + k : Nat) : Int) := ⟨by rw [IntWalk.wrap64_in _ (by omega)]; omega, by omega, by rw [IntWalk.wrap64_in _ (by omega)]; omega, by omega⟩
theorem fr_len {l : List Int} {k n : Nat} (hl : l.length = n) (h : 16 + k ≤ n) : ((l.take (12 + k)).drop 12).length = k := by
  rw [List.length_drop, List.length_take]; omega
theorem readF_of {l : List Int} {ep sq : Int} {k J n : Nat} (hl : l.length = n) (h16 : 16 ≤ n) (h0 : getF l 0 = ep) (h4 : getF l 4 = sq) (hkt : (getF l 8).toNat = k) (hJ : 12 + k = J) (h8 : 16 + k ≤ n) :
    readF l ep sq = if getF l (J : Int) = sumF (l.take J) then some ((l.take J).drop 12) else none := by
  unfold readF
  rw [hkt, hJ]
  by_cases h : getF l (J : Int) = sumF (l.take J)
  · have hc : 16 ≤ l.length ∧ getF l 0 = ep ∧ getF l 4 = sq ∧ 16 + k ≤ l.length ∧ getF l (J : Int) = sumF (l.take J) := ⟨by rw [hl]; exact h16, h0, h4, by rw [hl]; exact h8, h⟩
    exact (if_pos hc).trans (if_pos h).symm
  · exact (if_neg (fun h2 => h h2.2.2.2.2)).trans (if_neg h).symm
theorem fr_bnds {n c k J : Nat} (hJ : 12 + k = J) (h8 : 16 + k ≤ n) (hn : n ≤ 1000000) (hc : n ≤ c) : (-9223372036854775808 ≤ (J : Int) ∧ (J : Int) ≤ 9223372036854775807) ∧ 12 ≤ J ∧ J - 12 = k ∧ k ≤ c - 12 ∧ k < 140737488355328 := ⟨⟨by omega, by omega⟩, by omega, by omega, by omega, by omega⟩
set_option maxHeartbeats 1600000 in
set_option maxRecDepth 100000 in
theorem fread_ {A : Option Addr} {n c : Nat} {l : List Int} {w : World} (hr : U8.C w A n l) (hc : n ≤ c) (hb : Bytes l) (hn : n ≤ 1000000) (ep sq : Int) :
    Calls Tryz.prog 148 #[.slice A n c, .int .u32 ep, .int .u32 sq] w fun e w' => okR l ep sq e w w' := by
  have HR := Aside0.mk (And.intro hr (And.intro hc hb))
  have hl := hr.1
  have HL := Aside0.mk hl
  by_cases h16 : n < 16
  case pos =>
    have HV : Aside0 (readF l ep sq = none) := ⟨if_neg (fun h => by omega)⟩
    have h1 : (n : Int) < 16 := by omega
    clear hr hc hb hl
    go_enter Tryz.func148, Tryz.ntmps148
    go_wp2_with fail
    go_ret3
    exact okR_no HV.out (by first | rfl | (simp; done)) (Below.refl _ _)
  case neg =>
  have h1 : ¬ (n : Int) < 16 := by omega
  by_cases h0 : getF l 0 = ep
  case neg =>
    have HV : Aside0 (readF l ep sq = none) := ⟨if_neg (fun h => h0 h.2.1)⟩
    have hn1 : (getF l 0 != ep) = true := by simpa using h0
    clear hr hc hb hl h0
    go_enter Tryz.func148, Tryz.ntmps148
    go_wp2_with fail
    refine (Sum.get_ (l := l) (a := 0) HR.out.1 HR.out.2.1 HR.out.2.2 (by decide)).mono ?_
    rintro e w1 ⟨rfl, rfl⟩
    generalize getF l 0 = x at hn1
    go_wp2_with fail
    go_ret3
    exact okR_no HV.out (by first | rfl | (simp; done)) (Below.refl _ _)
  case pos =>
  have H0 := Aside0.mk h0
  have hq1 : (ep != ep) = false := by simp
  by_cases h4 : getF l 4 = sq
  case neg =>
    have HV : Aside0 (readF l ep sq = none) := ⟨if_neg (fun h => h4 h.2.2.1)⟩
    have hn1 : (getF l 4 != sq) = true := by simpa using h4
    clear hr hc hb hl h0 h4
    go_enter Tryz.func148, Tryz.ntmps148
    go_wp2_with fail
    refine (Sum.get_ (l := l) (a := 0) HR.out.1 HR.out.2.1 HR.out.2.2 (by decide)).mono ?_
    rintro e w1 ⟨rfl, rfl⟩
    rw [H0.out]
    go_wp2_with fail
    refine (Sum.get_ (l := l) (a := 4) HR.out.1 HR.out.2.1 HR.out.2.2 (by decide)).mono ?_
    rintro e w1 ⟨rfl, rfl⟩
    generalize getF l 4 = x at hn1
    go_wp2_with fail
    go_ret3
    exact okR_no HV.out (by first | rfl | (simp; done)) (Below.refl _ _)
  case pos =>
  have H4 := Aside0.mk h4
  have hq4 : (sq != sq) = false := by simp
  have hk0 := getF_in hb 8
  obtain ⟨k, hk⟩ : ∃ k : Nat, getF l 8 = (k : Int) := Int.eq_ofNat_of_zero_le hk0.1
  have hkt : (getF l 8).toNat = k := by omega
  have hk2 : (k : Int) ≤ 4294967295 := by omega
  have HK := Aside0.mk hk
  have h16n := Nat.le_of_not_lt h16
  by_cases h8 : 16 + k ≤ n
  case neg =>
    have HV : Aside0 (readF l ep sq = none) := ⟨if_neg (fun h => h8 (by have h2 := h.2.2.2.1; rw [hkt, hl] at h2; exact h2))⟩
    have hd8 : (n : Int) - 16 < (k : Int) := by omega
    obtain ⟨u1, u2, u3, u4, u5, u6, u7⟩ := fr_wrap hk2 h16n hn
    clear hr hc hb hl h0 h4 hk hkt hk0
    go_enter Tryz.func148, Tryz.ntmps148
    go_wp2_with fail
    refine (Sum.get_ (l := l) (a := 0) HR.out.1 HR.out.2.1 HR.out.2.2 (by decide)).mono ?_
    rintro e w1 ⟨rfl, rfl⟩
    rw [H0.out]
    go_wp2_with fail
    refine (Sum.get_ (l := l) (a := 4) HR.out.1 HR.out.2.1 HR.out.2.2 (by decide)).mono ?_
    rintro e w1 ⟨rfl, rfl⟩
    rw [H4.out]
    go_wp2_with fail
    refine (Sum.get_ (l := l) (a := 8) HR.out.1 HR.out.2.1 HR.out.2.2 (by decide)).mono ?_
    rintro e w1 ⟨rfl, rfl⟩
    rw [HK.out]
    go_wp2_with fail
    go_ret3
    exact okR_no HV.out (by first | rfl | (simp; done)) (Below.refl _ _)
  case pos =>
  have hd8 : ¬ (n : Int) - 16 < (k : Int) := by omega
  obtain ⟨J, hJ⟩ : ∃ J, 12 + k = J := ⟨_, rfl⟩
  have hJi : 12 + (k : Int) = (J : Int) := by omega
  have hJn : J ≤ n := by omega
  obtain ⟨u1, u2, u3, u4, u5, u6, u7⟩ := fr_wrap hk2 h16n hn
  have u6' : wrap64 (12 + (k : Int)) = (J : Int) := u6.trans hJi
  have HJI := Aside0.mk hJi
  obtain ⟨hcut, hT⟩ := take8 (A := A) (c := c) (b := J) (K := (J : Int)) rfl hl hJn hc
  have HT := Aside0.mk hT
  have HVV := Aside0.mk (readF_of hl h16n h0 h4 hkt hJ h8)
  have HDL : Aside0 (((l.take J).drop 12).length = k) := ⟨by rw [← hJ]; exact fr_len hl h8⟩
  obtain ⟨v1, v2, v3, v4⟩ := fr_wrap2 hk2
  rw [hJi] at v1 v2
  have HBD := Aside0.mk (And.intro h8 (And.intro hJ (And.intro v1 v2)))
  have HBN := Aside0.mk (fr_bnds hJ h8 hn hc)
  clear hr hl h0 h4 hk hkt hk0 hT v1 v2 v3 v4 hJ hJi u6
  go_enter Tryz.func148, Tryz.ntmps148
  go_wp2_with fail
  refine (Sum.get_ (l := l) (a := 0) HR.out.1 HR.out.2.1 HR.out.2.2 (by decide)).mono ?_
  rintro e w1 ⟨rfl, rfl⟩
  rw [H0.out]
  go_wp2_with fail
  refine (Sum.get_ (l := l) (a := 4) HR.out.1 HR.out.2.1 HR.out.2.2 (by decide)).mono ?_
  rintro e w1 ⟨rfl, rfl⟩
  rw [H4.out]
  go_wp2_with fail
  refine (Sum.get_ (l := l) (a := 8) HR.out.1 HR.out.2.1 HR.out.2.2 (by decide)).mono ?_
  rintro e w1 ⟨rfl, rfl⟩
  rw [HK.out]
  go_wp2_with fail
  rw [HJI.out]
  clear u6'
  have HRd := Aside0.mk (Kd.C_below HR.out.1 (Sep.start w).drew.toBelow)
  have HSW := Aside0.mk (Sep.start w).drew
  refine start_ (n := 8) (S := fun w' => True) (ds := []) #[fF,fF,fF,fF,fF,fF,fF,fF] (by kernel_rfl) rfl rfl (trivial) (fun hHeld => ?_)
  refine pu_ 0 38 ?_ #[tT,fF,fF,fF,fF,fF,fF,fF] rfl rfl ?_ ?_ ?_ ?_
  rotate_left
  · intro w'
    go_simp
    with_reducible rfl
  rotate_left
  · simp only [aP]
    rfl
  refine pu_ 1 39 ?_ #[tT,tT,fF,fF,fF,fF,fF,fF] rfl rfl ?_ ?_ ?_ ?_
  rotate_left
  · intro w'
    go_simp
    with_reducible rfl
  rotate_left
  · simp only [aP]
    rfl
  refine pu_ 3 41 ?_ #[tT,tT,fF,tT,fF,fF,fF,fF] rfl rfl ?_ ?_ ?_ ?_
  rotate_left
  · intro w'
    go_simp
    with_reducible rfl
  rotate_left
  · simp only [aP]
    rfl
  refine pu_ 4 42 ?_ #[tT,tT,fF,tT,tT,fF,fF,fF] rfl rfl ?_ ?_ ?_ ?_
  rotate_left
  · intro w'
    go_simp
    with_reducible rfl
  rotate_left
  · simp only [aP]
    rfl
  refine pu_ 5 43 ?_ #[tT,tT,fF,tT,tT,tT,fF,fF] rfl rfl ?_ ?_ ?_ ?_
  rotate_left
  · intro w'
    go_simp
    with_reducible rfl
  rotate_left
  · simp only [aP]
    rfl
  refine one_ (i := 2) (N := some 40) #[tT,tT,tT,tT,tT,tT,fF,fF] rfl rfl (by kernel_rfl) (by decide) (fun K hK => ?_)
  refine goes_ Tryz.func131 (by kernel_rfl) rfl #[.slice A n c, .int .i64 (J : Int)] (by rfl) rfl rfl (by simp only [List.map_toArray, List.map_cons, List.map_nil]; rfl) ?_
  with_reducible refine (Sum.get_ (l := l) (a := (J : Int)) HRd.out HR.out.2.1 HR.out.2.2 HBN.out.1).mono ?_
  rintro e w3 ⟨rfl, rfl⟩
  refine ⟨_, rfl, ?_⟩
  refine hK.out _ _ (trivial) (fun hHeld => ?_)
  clear hK K
  refine norm_ (a' := ?_) ?_ ?_
  rotate_left
  · show Act.put _ (some 40) _ = _
    simp only [aP]
    rfl
  refine one_ (i := 6) (N := some 44) #[tT,tT,tT,tT,tT,tT,tT,fF] rfl rfl (by kernel_rfl) (by decide) (fun K hK => ?_)
  refine goes_ Tryz.func103 (by kernel_rfl) rfl #[.slice A J c] (by rfl) rfl rfl (by simp only [List.map_toArray, List.map_cons, List.map_nil]; rfl) ?_
  with_reducible refine (Sum.of_ (HT.out _ HRd.out)).mono ?_
  rintro e w4 ⟨rfl, rfl⟩
  refine ⟨_, rfl, ?_⟩
  refine hK.out _ _ (trivial) (fun hHeld => ?_)
  clear hK K
  refine norm_ (a' := ?_) ?_ ?_
  rotate_left
  · show Act.put _ (some 44) _ = _
    simp only [aP]
    rfl
  refine pu_ 7 45 ?_ #[tT,tT,tT,tT,tT,tT,tT,tT] rfl rfl ?_ ?_ ?_ ?_
  rotate_left
  · intro w'
    go_simp
    with_reducible rfl
  rotate_left
  · simp only [aP]
    rfl
  refine done_ (by kernel_rfl) ?_
  by_cases hs : getF l (J : Int) = sumF (l.take J)
  case neg =>
    have HV : Aside0 (readF l ep sq = none) := ⟨HVV.out.trans (if_neg hs)⟩
    have hsn : (getF l (J : Int) != sumF (l.take J)) = true := by simpa using hs
    clear hs
    generalize getF l (J : Int) = x at hsn
    generalize sumF (l.take J) = y at hsn
    go_wp2_with fail
    go_ret3
    exact okR_no HV.out (by first | rfl | (simp; done)) HSW.out.toBelow
  case pos =>
  have HV : Aside0 (readF l ep sq = some ((l.take J).drop 12)) := ⟨HVV.out.trans (if_pos hs)⟩
  rw [hs]
  have hsn : (sumF (l.take J) != sumF (l.take J)) = false := by simp
  clear hs
  generalize sumF (l.take J) = y at hsn
  obtain ⟨A2, hcut2, hT2⟩ := mid8 (A := A) (c := c) (a := 12) (b := J) (J := 12) (K := (J : Int)) rfl rfl HL.out HBN.out.2.1 hJn hc
  have hJ12 : J - 12 = k := HBN.out.2.2.1
  rw [hJ12] at hcut2 hT2
  have HC2 := Aside0.mk (hT2 _ HRd.out)
  clear hJ12 hT2
  go_wp2_with fail
  refine (clone_ HC2.out HBN.out.2.2.2.1 HBN.out.2.2.2.2).mono ?_
  rintro e w5 ⟨v5, rfl, hS5⟩
  have B5 := Aside0.mk (HSW.out.lift1 hS5)
  clear hS5
  go_wp2_with fail
  go_ret3
  exact okR_yes HV.out (by rw [HDL.out, ← HBD.out.2.2.2]; first | rfl | (simp; done)) B5.out
end Go.Proofs.YtjngnigelkgekaaGreat.Frame
namespace Go.Proofs.YtjngnigelkgekaaGreat.Frame
open Go.RowKit Go.Proofs.YtjngnigelkgekaaGreatW.PrintWords Go.Proofs.YtjngnigelkgekaaGreatW.PrintLast Go.Proofs.YtjngnigelkgekaaGreatW.PrintMore Go.Proofs.YtjngnigelkgekaaGreat.Kit Go.Proofs.YtjngnigelkgekaaGreat.Base Go.Proofs.YtjngnigelkgekaaGreat.Plain Go.Proofs.YtjngnigelkgekaaGreat.Root
set_option maxHeartbeats 1600000 in
set_option maxRecDepth 100000 in
theorem rread_ {A : Option Addr} {n c : Nat} {l : List Int} {w : World} (hr : U8.C w A n l) (hc : n ≤ c) (hb : Bytes l) (hn : n ≤ 1000000) (ep sq : Int) :
    Calls Tryz.prog 111 #[.slice A n c, .int .u32 ep, .int .u32 sq] w fun e w' => okR l ep sq e w w' := by
  have HR := Aside0.mk (And.intro hr (And.intro hc hb))
  have hl := hr.1
  have HL := Aside0.mk hl
  have B0 := Aside0.mk (Sep.start w)
  by_cases h16 : n < 16
  case pos =>
    have HV : Aside0 (readF l ep sq = none) := ⟨if_neg (fun h => by omega)⟩
    have h1 : (n : Int) < 16 := by omega
    clear hr hc hb hl
    go_enter Tryz.func111, Tryz.ntmps111
    go_wp2_with fail
    go_ret3
    exact okR_no HV.out (by first | rfl | (simp; done)) (Below.refl _ _)
  case neg =>
  have h1 : ¬ (n : Int) < 16 := by omega
  by_cases h0 : getF l 0 = ep
  case neg =>
    have HV : Aside0 (readF l ep sq = none) := ⟨if_neg (fun h => h0 h.2.1)⟩
    have hn1 : (getF l 0 != ep) = true := by simpa using h0
    clear hr hc hb hl h0
    go_enter Tryz.func111, Tryz.ntmps111
    go_wp2_with fail
    refine (rget_ (l := l) (a := 0) HR.out.1 HR.out.2.2).mono ?_
    rintro e w1 ⟨rfl, hb1⟩
    have B1 := Aside0.mk (B0.out.below hb1)
    clear hb1
    generalize getF l 0 = x at hn1
    go_wp2_with fail
    go_ret3
    exact okR_no HV.out (by first | rfl | (simp; done)) B1.out.toBelow
  case pos =>
  have H0 := Aside0.mk h0
  have hq1 : (ep != ep) = false := by simp
  by_cases h4 : getF l 4 = sq
  case neg =>
    have HV : Aside0 (readF l ep sq = none) := ⟨if_neg (fun h => h4 h.2.2.1)⟩
    have hn1 : (getF l 4 != sq) = true := by simpa using h4
    clear hr hc hb hl h0 h4
    go_enter Tryz.func111, Tryz.ntmps111
    go_wp2_with fail
    refine (rget_ (l := l) (a := 0) HR.out.1 HR.out.2.2).mono ?_
    rintro e w1 ⟨rfl, hb1⟩
    have B1 := Aside0.mk (B0.out.below hb1)
    clear hb1
    rw [H0.out]
    go_wp2_with fail
    refine (rget_ (l := l) (a := 4) (Kd.C_below HR.out.1 B1.out.toBelow) HR.out.2.2).mono ?_
    rintro e w2 ⟨rfl, hb2⟩
    have B2 := Aside0.mk (B1.out.below hb2)
    clear hb2
    generalize getF l 4 = x at hn1
    go_wp2_with fail
    go_ret3
    exact okR_no HV.out (by first | rfl | (simp; done)) B2.out.toBelow
  case pos =>
  have H4 := Aside0.mk h4
  have hq4 : (sq != sq) = false := by simp
  have hk0 := getF_in hb 8
  obtain ⟨k, hk⟩ : ∃ k : Nat, getF l 8 = (k : Int) := Int.eq_ofNat_of_zero_le hk0.1
  have hkt : (getF l 8).toNat = k := by omega
  have hk2 : (k : Int) ≤ 4294967295 := by omega
  have HK := Aside0.mk hk
  have h16n := Nat.le_of_not_lt h16
  by_cases h8 : 16 + k ≤ n
  case neg =>
    have HV : Aside0 (readF l ep sq = none) := ⟨if_neg (fun h => h8 (by have h2 := h.2.2.2.1; rw [hkt, hl] at h2; exact h2))⟩
    have hd8 : (n : Int) - 16 < (k : Int) := by omega
    obtain ⟨u1, u2, u3, u4, u5, u6, u7⟩ := fr_wrap hk2 h16n hn
    clear hr hc hb hl h0 h4 hk hkt hk0
    go_enter Tryz.func111, Tryz.ntmps111
    go_wp2_with fail
    refine (rget_ (l := l) (a := 0) HR.out.1 HR.out.2.2).mono ?_
    rintro e w1 ⟨rfl, hb1⟩
    have B1 := Aside0.mk (B0.out.below hb1)
    clear hb1
    rw [H0.out]
    go_wp2_with fail
    refine (rget_ (l := l) (a := 4) (Kd.C_below HR.out.1 B1.out.toBelow) HR.out.2.2).mono ?_
    rintro e w2 ⟨rfl, hb2⟩
    have B2 := Aside0.mk (B1.out.below hb2)
    clear hb2
    rw [H4.out]
    go_wp2_with fail
    refine (rget_ (l := l) (a := 8) (Kd.C_below HR.out.1 B2.out.toBelow) HR.out.2.2).mono ?_
    rintro e w3 ⟨rfl, hb3⟩
    have B3 := Aside0.mk (B2.out.below hb3)
    clear hb3
    rw [HK.out]
    go_wp2_with fail
    go_ret3
    exact okR_no HV.out (by first | rfl | (simp; done)) B3.out.toBelow
  case pos =>
  have hd8 : ¬ (n : Int) - 16 < (k : Int) := by omega
  obtain ⟨J, hJ⟩ : ∃ J, 12 + k = J := ⟨_, rfl⟩
  have hJi : 12 + (k : Int) = (J : Int) := by omega
  have hJn : J ≤ n := by omega
  obtain ⟨hcut, hT⟩ := take8 (A := A) (c := c) (b := J) (K := (J : Int)) rfl hl hJn hc
  have HT := Aside0.mk hT
  have HVV := Aside0.mk (readF_of hl h16n h0 h4 hkt hJ h8)
  have HDL : Aside0 (((l.take J).drop 12).length = k) := ⟨by rw [← hJ]; exact fr_len hl h8⟩
  have HW := Aside0.mk (fr_wrap2 hk2)
  have HBN := Aside0.mk (fr_bnds hJ h8 hn hc)
  have HJI := Aside0.mk hJi
  obtain ⟨u1, u2, u3, u4, u5, u6, u7⟩ := fr_wrap hk2 h16n hn
  rw [hJi] at u6
  have HU6 := Aside0.mk u6
  clear hr hl h0 h4 hk hkt hk0 hT hJ hJi u6
  go_enter Tryz.func111, Tryz.ntmps111
  go_wp2_with fail
  refine (rget_ (l := l) (a := 0) HR.out.1 HR.out.2.2).mono ?_
  rintro e w1 ⟨rfl, hb1⟩
  have B1 := Aside0.mk (B0.out.below hb1)
  clear hb1
  rw [H0.out]
  go_wp2_with fail
  refine (rget_ (l := l) (a := 4) (Kd.C_below HR.out.1 B1.out.toBelow) HR.out.2.2).mono ?_
  rintro e w2 ⟨rfl, hb2⟩
  have B2 := Aside0.mk (B1.out.below hb2)
  clear hb2
  rw [H4.out]
  go_wp2_with fail
  refine (rget_ (l := l) (a := 8) (Kd.C_below HR.out.1 B2.out.toBelow) HR.out.2.2).mono ?_
  rintro e w3 ⟨rfl, hb3⟩
  have B3 := Aside0.mk (B2.out.below hb3)
  clear hb3
  rw [HK.out]
  go_wp2_with fail
  refine (rget_ (l := l) (a := 8) (Kd.C_below HR.out.1 B3.out.toBelow) HR.out.2.2).mono ?_
  rintro e w4 ⟨rfl, hb4⟩
  have B4 := Aside0.mk (B3.out.below hb4).drew
  clear hb4
  rw [HK.out]
  have w12 : wrap64 (12 + (k : Int)) = (J : Int) := by rw [HJI.out]; exact HU6.out
  go_wp2_with fail
  refine start_ (n := 10) (S := fun w' => True) (ds := []) #[fF,fF,fF,fF,fF,fF,fF,fF,fF,fF] (by kernel_rfl) rfl rfl (trivial) (fun hHeld => ?_)
  refine pu_ 0 38 ?_ #[tT,fF,fF,fF,fF,fF,fF,fF,fF,fF] rfl rfl ?_ ?_ ?_ ?_
  rotate_left
  · intro w'
    go_simp
    with_reducible rfl
  rotate_left
  · simp only [aP]
    rfl
  refine pu_ 1 39 ?_ #[tT,tT,fF,fF,fF,fF,fF,fF,fF,fF] rfl rfl ?_ ?_ ?_ ?_
  rotate_left
  · intro w'
    go_simp
    with_reducible rfl
  rotate_left
  · simp only [aP]
    rfl
  refine pu_ 2 40 ?_ #[tT,tT,tT,fF,fF,fF,fF,fF,fF,fF] rfl rfl ?_ ?_ ?_ ?_
  rotate_left
  · intro w'
    go_simp
    with_reducible rfl
  rotate_left
  · simp only [aP]
    rfl
  refine pu_ 4 42 ?_ #[tT,tT,tT,fF,tT,fF,fF,fF,fF,fF] rfl rfl ?_ ?_ ?_ ?_
  rotate_left
  · intro w'
    go_simp
    with_reducible rfl
  rotate_left
  · simp only [aP]
    rfl
  refine pu_ 5 43 ?_ #[tT,tT,tT,fF,tT,tT,fF,fF,fF,fF] rfl rfl ?_ ?_ ?_ ?_
  rotate_left
  · intro w'
    go_simp
    with_reducible rfl
  rotate_left
  · simp only [aP]
    rfl
  refine pu_ 6 44 ?_ #[tT,tT,tT,fF,tT,tT,tT,fF,fF,fF] rfl rfl ?_ ?_ ?_ ?_
  rotate_left
  · intro w'
    go_simp
    with_reducible rfl
  rotate_left
  · simp only [aP]
    rfl
  refine pu_ 7 45 ?_ #[tT,tT,tT,fF,tT,tT,tT,tT,fF,fF] rfl rfl ?_ ?_ ?_ ?_
  rotate_left
  · intro w'
    go_simp
    with_reducible rfl
  rotate_left
  · simp only [aP]
    rfl
  refine one_ (i := 3) (N := some 41) #[tT,tT,tT,tT,tT,tT,tT,tT,fF,fF] rfl rfl (by kernel_rfl) (by decide) (fun K hK => ?_)
  refine goes_ Tryz.func126 (by kernel_rfl) rfl #[.slice A n c, .int .i64 (wrap64 (12 + (k : Int)))] (by rfl) rfl rfl (by simp only [List.map_toArray, List.map_cons, List.map_nil]; rfl) ?_
  with_reducible refine (rget_ (l := l) (a := wrap64 (12 + (k : Int))) (Kd.C_below HR.out.1 B4.out.toBelow) HR.out.2.2).mono ?_
  rintro e w5 ⟨rfl, hb5⟩
  refine ⟨_, rfl, ?_⟩
  rw [w12]
  have B5 := Aside0.mk (B4.out.below hb5)
  clear hb5
  refine hK.out _ _ (trivial) (fun hHeld => ?_)
  clear hK K
  refine norm_ (a' := ?_) ?_ ?_
  rotate_left
  · show Act.put _ (some 41) _ = _
    simp only [aP]
    rfl
  refine one_ (i := 8) (N := some 46) #[tT,tT,tT,tT,tT,tT,tT,tT,tT,fF] rfl rfl (by kernel_rfl) (by decide) (fun K hK => ?_)
  refine goes_ Tryz.func89 (by kernel_rfl) rfl #[.slice A J c] (by rfl) rfl rfl (by simp only [List.map_toArray, List.map_cons, List.map_nil]; rfl) ?_
  with_reducible refine (rsum_ (HT.out _ (Kd.C_below HR.out.1 B5.out.toBelow))).mono ?_
  rintro e w6 ⟨rfl, rfl⟩
  refine ⟨_, rfl, ?_⟩
  refine hK.out _ _ (trivial) (fun hHeld => ?_)
  clear hK K
  refine norm_ (a' := ?_) ?_ ?_
  rotate_left
  · show Act.put _ (some 46) _ = _
    simp only [aP]
    rfl
  refine pu_ 9 47 ?_ #[tT,tT,tT,tT,tT,tT,tT,tT,tT,tT] rfl rfl ?_ ?_ ?_ ?_
  rotate_left
  · intro w'
    go_simp
    with_reducible rfl
  rotate_left
  · simp only [aP]
    rfl
  refine done_ (by kernel_rfl) ?_
  by_cases hs : getF l (J : Int) = sumF (l.take J)
  case neg =>
    have HV : Aside0 (readF l ep sq = none) := ⟨HVV.out.trans (if_neg hs)⟩
    have hsn : (getF l (J : Int) != sumF (l.take J)) = true := by simpa using hs
    clear hs
    generalize getF l (J : Int) = x at hsn
    generalize sumF (l.take J) = y at hsn
    go_wp2_with fail
    go_ret3
    exact okR_no HV.out (by first | rfl | (simp; done)) B5.out.toBelow
  case pos =>
  have HV : Aside0 (readF l ep sq = some ((l.take J).drop 12)) := ⟨HVV.out.trans (if_pos hs)⟩
  rw [hs]
  have hsn : (sumF (l.take J) != sumF (l.take J)) = false := by simp
  clear hs
  generalize sumF (l.take J) = y at hsn
  obtain ⟨A2, hcut2, hT2⟩ := mid8 (A := A) (c := c) (a := 12) (b := J) (J := 12) (K := (J : Int)) rfl rfl HL.out HBN.out.2.1 hJn hc
  have hJ12 : J - 12 = k := HBN.out.2.2.1
  rw [hJ12] at hcut2 hT2
  have HT2 := Aside0.mk hT2
  have B6 := Aside0.mk (B5.out.litRow (enc := Value.int .u8) (h1 := fun _ => rfl) (e := 5) [] (by simp))
  have HC2 := Aside0.mk (hT2 _ (Kd.C_below HR.out.1 B6.out.toBelow))
  have hkb : k ≤ 1000000 := by have := h8; omega
  clear hJ12 hT2
  have u16 := HW.out.2.2.1
  obtain ⟨KK, hKK⟩ : ∃ K, 16 + k = K := ⟨_, rfl⟩
  rw [hKK] at u16
  have HKK := Aside0.mk hKK
  have HKB := Aside0.mk hkb
  clear hkb hKK u1 u2 u3 u4 u5 u7 h8 h16 hd8 h1 hk2 h16n hb hc hn hJn
  go_wp2_with (first | (refine gate_builtin (b := .append) (xs := #[.tmp 48, .tmp 52]) rfl ?_; go_loud (refine B6.out.appendRow rfl (.tmp 48) (.tmp 52) 24 (.int .u8 0) 1 rfl Tryz.underlying24 infoB rfl (by decide) A2 k (c - 12) rfl rfl HC2.out (by rw [HDL.out]; have := HKB.out; simp; omega) ?_; intro v7 w7 hS7; have B7 := Aside0.mk hS7; clear hS7)))
  go_ret3
  exact okR_yes HV.out (by rw [HDL.out, HKK.out]; simp; exact u16) B7.out
end Go.Proofs.YtjngnigelkgekaaGreat.Frame
namespace Go.Proofs.YtjngnigelkgekaaGreat.Frame
open Go.RowKit Go.Proofs.YtjngnigelkgekaaGreatW.PrintWords Go.Proofs.YtjngnigelkgekaaGreatW.PrintLast Go.Proofs.YtjngnigelkgekaaGreatW.PrintMore Go.Proofs.YtjngnigelkgekaaGreat.Kit Go.Proofs.YtjngnigelkgekaaGreat.Base Go.Proofs.YtjngnigelkgekaaGreat.Plain
open Go.Proofs.YtjngnigelkgekaaGreat.Delta (Chg KC undeltaF rawF)
def scanF (b : List Int) (ep : Int) : Nat → Nat → Nat → List (List Int) × Nat
  | 0, at_, _ => ([], at_)
  | f + 1, at_, sq => match readF (b.drop at_) ep (sq : Int) with
    | none => ([], at_)
    | some x => (x :: (scanF b ep f (at_ + (16 + x.length)) (sq + 1)).1, (scanF b ep f (at_ + (16 + x.length)) (sq + 1)).2)
def scanR (b : List Int) (ep : Int) : List (List Int) × Nat := scanF b ep (b.length + 1) 0 0
def longs : List (List Int) → Nat
  | [] => 0
  | x :: t => 16 + x.length + longs t
theorem longs_app : ∀ a b : List (List Int), longs (a ++ b) = longs a + longs b
  | [], b => by simp [longs]
  | x :: t, b => by simp only [List.cons_append, longs, longs_app t b]; omega
theorem longs_len : ∀ a : List (List Int), 16 * a.length ≤ longs a
  | [] => by simp [longs]
  | x :: t => by have := longs_len t; simp only [List.length_cons, longs]; omega
structure ScanAt (b : List Int) (ep : Int) (rs : List (List Int)) (at_ f : Nat) : Prop where
  le : at_ ≤ b.length
  fuel : b.length < at_ + f
  eq : scanR b ep = (rs ++ (scanF b ep f at_ rs.length).1, (scanF b ep f at_ rs.length).2)
  long : longs rs = at_
  bytes : ∀ x ∈ rs, Bytes x
theorem scan_start (b : List Int) (ep : Int) : ScanAt b ep [] 0 (b.length + 1) := ⟨by omega, by omega, by unfold scanR; rfl, rfl, fun x h => by cases h⟩
theorem scan_none {b : List Int} {ep : Int} {rs : List (List Int)} {at_ f : Nat} (h : ScanAt b ep rs at_ f) (hn : readF (b.drop at_) ep (rs.length : Int) = none) : scanR b ep = (rs, at_) := by
  rw [h.eq]
  cases f with
  | zero => simp [scanF]
  | succ f => simp [scanF, hn]
theorem scan_some {b x : List Int} {ep : Int} {rs : List (List Int)} {at_ f : Nat} (h : ScanAt b ep rs at_ f) (hb : Bytes b) (hs : readF (b.drop at_) ep (rs.length : Int) = some x) : ScanAt b ep (rs ++ [x]) (at_ + (16 + x.length)) (f - 1) ∧ 1 ≤ f := by
  have h1 := readF_some hs
  rw [List.length_drop] at h1
  have hf := h.fuel
  have hle := h.le
  cases f with
  | zero => exfalso; omega
  | succ f =>
    refine ⟨⟨by omega, by omega, ?_, ?_, fun y hy => ?_⟩, by omega⟩
    · rw [h.eq, List.length_append, List.length_singleton]
      simp [scanF, hs]
    · rw [longs_app, h.long]; simp [longs]
    · rcases List.mem_append.1 hy with h2 | h2
      · exact h.bytes y h2
      · obtain rfl := List.mem_singleton.1 h2
        exact readF_bytes (hb.drop _) hs
theorem scan_facts_aux (b : List Int) (hb : Bytes b) (ep : Int) : ∀ (f : Nat) (rs : List (List Int)) (at_ : Nat), ScanAt b ep rs at_ f → (∀ x ∈ (scanR b ep).1, Bytes x) ∧ longs (scanR b ep).1 = (scanR b ep).2 ∧ (scanR b ep).2 ≤ b.length
  | 0, rs, at_, h => by have := h.fuel; have := h.le; omega
  | f + 1, rs, at_, h => by
    cases hs : readF (b.drop at_) ep (rs.length : Int) with
    | none => rw [scan_none h hs]; exact ⟨h.bytes, h.long, h.le⟩
    | some x => exact scan_facts_aux b hb ep f _ _ (scan_some h hb hs).1
theorem scan_facts {b : List Int} (hb : Bytes b) (ep : Int) : (∀ x ∈ (scanR b ep).1, Bytes x) ∧ longs (scanR b ep).1 = (scanR b ep).2 ∧ (scanR b ep).2 ≤ b.length := scan_facts_aux b hb ep _ _ _ (scan_start b ep)
def recsF (pages : Int) : List (List Int) → List (List Chg) × Nat
  | [] => ([], 0)
  | b :: t => match undeltaF b pages with
    | none => ([], 0)
    | some x => (x :: (recsF pages t).1, 16 + b.length + (recsF pages t).2)
structure RecAt (pages : Int) (rows : List (List Int)) (out : List (List Chg)) (tot j : Nat) : Prop where
  eq : recsF pages rows = (out ++ (recsF pages (rows.drop j)).1, tot + (recsF pages (rows.drop j)).2)
  long : tot = longs (rows.take j)
  num : out.length = j
theorem rec_start (pages : Int) (rows : List (List Int)) : RecAt pages rows [] 0 0 := ⟨by simp, rfl, rfl⟩
theorem rec_none {pages : Int} {rows : List (List Int)} {out : List (List Chg)} {tot j : Nat} (h : RecAt pages rows out tot j) (hj : j < rows.length) (hu : undeltaF rows[j] pages = none) : recsF pages rows = (out, tot) := by
  rw [h.eq, List.drop_eq_getElem_cons hj]
  simp [recsF, hu]
theorem rec_end {pages : Int} {rows : List (List Int)} {out : List (List Chg)} {tot j : Nat} (h : RecAt pages rows out tot j) (hj : rows.length ≤ j) : recsF pages rows = (out, tot) := by
  rw [h.eq, List.drop_eq_nil_of_le hj]
  simp [recsF]
theorem rec_some {pages : Int} {rows : List (List Int)} {out : List (List Chg)} {tot j : Nat} {x : List Chg} (h : RecAt pages rows out tot j) (hj : j < rows.length) (hu : undeltaF rows[j] pages = some x) : RecAt pages rows (out ++ [x]) (tot + (16 + rows[j].length)) (j + 1) := by
  refine ⟨?_, ?_, ?_⟩
  · rw [h.eq, List.drop_eq_getElem_cons hj]
    simp [recsF, hu]
    omega
  · rw [List.take_add_one, List.getElem?_eq_getElem hj, longs_app, ← h.long]
    simp [longs]
  · rw [List.length_append, List.length_singleton, h.num]
theorem rec_tot {pages : Int} {rows : List (List Int)} {out : List (List Chg)} {tot j : Nat} (h : RecAt pages rows out tot j) : tot ≤ longs rows := by
  have h2 := longs_app (rows.take j) (rows.drop j)
  rw [List.take_append_drop] at h2
  have h3 := h.long
  omega
theorem undelta_bytes {b : List Int} (h : Bytes b) (pages : Int) : ∀ c ∈ (undeltaF b pages).getD [], Bytes c.2 := by
  intro c hc
  unfold undeltaF at hc
  split at hc
  · cases hc
  · split at hc
    · cases hc
    · split at hc
      · simp only [Option.getD_some, rawF, List.mem_map] at hc
        obtain ⟨i, _, rfl⟩ := hc
        exact (h.drop _).take _
      · cases hc
theorem recs_bytes (pages : Int) : ∀ (rows : List (List Int)), (∀ x ∈ rows, Bytes x) → ∀ l ∈ (recsF pages rows).1, ∀ c ∈ l, Bytes c.2
  | [], _, l, hl => by simp [recsF] at hl
  | b :: t, h, l, hl => by
    cases hu : undeltaF b pages with
    | none => simp [recsF, hu] at hl
    | some x =>
      simp only [recsF, hu] at hl
      rcases List.mem_cons.1 hl with rfl | hl
      · have := undelta_bytes (h b (List.mem_cons_self ..)) pages
        rwa [hu] at this
      · exact recs_bytes pages t (fun x hx => h x (List.mem_cons_of_mem _ hx)) l hl
theorem recs_len (pages : Int) : ∀ (rows : List (List Int)), (recsF pages rows).1.length ≤ rows.length ∧ (recsF pages rows).2 ≤ longs rows
  | [] => by simp [recsF, longs]
  | b :: t => by
    have ih := recs_len pages t
    cases hu : undeltaF b pages with
    | none => simp [recsF, hu]
    | some x => simp only [recsF, hu, List.length_cons, longs]; omega
end Go.Proofs.YtjngnigelkgekaaGreat.Frame
namespace Go.Proofs.YtjngnigelkgekaaGreat.Frame
open Go.RowKit Go.Proofs.YtjngnigelkgekaaGreatW.PrintWords Go.Proofs.YtjngnigelkgekaaGreatW.PrintLast Go.Proofs.YtjngnigelkgekaaGreatW.PrintMore Go.Proofs.YtjngnigelkgekaaGreat.Kit Go.Proofs.YtjngnigelkgekaaGreat.Base Go.Proofs.YtjngnigelkgekaaGreat.Plain Go.Proofs.YtjngnigelkgekaaGreat.Root
open Go.Proofs.YtjngnigelkgekaaGreat.Home (K2 infoS)
theorem okR_none {b : List Int} {ep sq : Int} {e : Ending} {w w' : World} (h : readF b ep sq = none) (ho : okR b ep sq e w w') : e = .returned (.tuple #[.slice none 0 0, .int .i64 0, .bool false]) ∧ Below w.heap.size w w' := by
  unfold okR at ho
  rw [h] at ho
  exact ho
theorem okR_some {b x : List Int} {ep sq : Int} {e : Ending} {w w' : World} (h : readF b ep sq = some x) (ho : okR b ep sq e w w') : ∃ v, e = .returned (.tuple #[v, .int .i64 ((16 + x.length : Nat) : Int), .bool true]) ∧ Sep w w' [Row U8 5 v x] := by
  unfold okR at ho
  rw [h] at ho
  exact ho
theorem sc_nums {at_ K n : Nat} (h1 : at_ + K ≤ n) (hn : n ≤ 1000000) : wrap64 ((at_ : Int) + (K : Int)) = (at_ : Int) + (K : Int) ∧ IntKind.i64.wrap ((at_ : Int) + (K : Int)) = (at_ : Int) + (K : Int) := ⟨IntWalk.wrap64_in _ (by omega), by rw [IntKind.wrap_i64]; omega⟩
theorem sc_u32 {k at_ n : Nat} (h : 16 * k ≤ at_) (h2 : at_ ≤ n) (hn : n ≤ 1000000) : IntKind.u32.wrap (k : Int) = (k : Int) ∧ (k + 1) * 24 ≤ 140737488355328 ∧ k < 140737488355328 := ⟨by rw [IntKind.wrap_u32]; omega, by omega, by omega⟩
set_option maxHeartbeats 1600000 in
set_option maxRecDepth 100000 in
theorem fscan_ {A : Option Addr} {n c : Nat} {l : List Int} {w : World} (hr : U8.C w A n l) (hc : n ≤ c) (hb : Bytes l) (hn : n ≤ 1000000) (ep : Int) :
    Calls Tryz.prog 134 #[.slice A n c, .int .u32 ep] w fun e w' => ∃ v, e = .returned (.tuple #[v, .int .i64 ((scanR l ep).2 : Int)]) ∧ Sep w w' [Row K2 24 v (scanR l ep).1] := by
  have HR := Aside0.mk (And.intro hr (And.intro hc hb))
  have HL := Aside0.mk hr.1
  have HN := Aside0.mk hn
  have B0 := Aside0.mk ((Sep.start w).nilRow K2 24)
  have HS := Aside0.mk (scan_start l ep)
  clear hr hc hb hn
  go_enter Tryz.func134, Tryz.ntmps134
  go_wp2_with fail
  go_loopg [6, 7] (l.length + 1) (fun k_ v p wr => ∃ (rs : List (List Int)) (at_ : Nat), p = .int .i64 (at_ : Int) ∧ ScanAt l ep rs at_ k_ ∧ Sep w wr [Row K2 24 v rs])
  case atStart => exact ⟨[], 0, rfl, HS.out, B0.out⟩
  case round =>
    obtain ⟨rs, at_, rfl, hsa, hS⟩ := hrel
    have AS := Aside0.mk hS
    have HSA := Aside0.mk hsa
    obtain ⟨K, hK_⟩ : ∃ K, rs.length = K := ⟨_, rfl⟩
    obtain ⟨A3, c3, rfl⟩ := hS.rowN (n := K) hK_
    have HK := Aside0.mk hK_
    have han : at_ ≤ n := by have := hsa.le; rw [HL.out] at this; exact this
    obtain ⟨hu, hk1, hk2⟩ := sc_u32 (k := K) (by have h1 := longs_len rs; rw [hsa.long, hK_] at h1; exact h1) han HN.out
    have hcut := cutLo Tryz.underlying24 Base.infoB A n c at_ (J := (at_ : Int)) rfl han HR.out.2.1
    have hC := C_lo (a := at_) (c := c) HR.out.1 han HR.out.2.1
    have hC' : U8.C w (if c = at_ then A else A.map (·.add (at_ * 1))) (n - at_) (l.drop at_) := hC
    obtain ⟨AL, hAL⟩ : ∃ AL, (if c = at_ then A else A.map (·.add (at_ * 1))) = AL := ⟨_, rfl⟩
    rw [hAL] at hC'
    simp only [hAL] at hcut
    obtain ⟨M, hM⟩ : ∃ M, n - at_ = M := ⟨_, rfl⟩
    obtain ⟨CM, hCM⟩ : ∃ M, c - at_ = M := ⟨_, rfl⟩
    rw [hM] at hC'
    rw [hM, hCM] at hcut
    have HC := Aside0.mk hC'
    have HM := Aside0.mk (show M ≤ CM ∧ M ≤ 1000000 by have := HN.out; have := HR.out.2.1; omega)
    cases hs : readF (l.drop at_) ep (K : Int) with
    | none =>
      have HV : Aside0 (scanR l ep = (rs, at_)) := ⟨scan_none hsa (by rw [HK.out]; exact hs)⟩
      have HSS := Aside0.mk hs
      clear hS hsa hK_ hC hC' hAL hM hCM hs
      go_wp2_with fail
      refine (fread_ (l := l.drop at_) (Kd.C_below HC.out AS.out.toBelow) HM.out.1 (HR.out.2.2.drop _) HM.out.2 ep (K : Int)).mono ?_
      rintro e w2 ho
      obtain ⟨rfl, hb2⟩ := okR_none HSS.out ho
      have A2 := Aside0.mk (AS.out.below hb2)
      clear ho hb2
      go_wp2_with fail
      go_ret2
      exact ⟨_, by rw [HV.out]; first | rfl | (simp; done), by rw [HV.out]; exact A2.out⟩
    | some x =>
      obtain ⟨hnx, hk⟩ := scan_some hsa HR.out.2.2 (by rw [HK.out]; exact hs)
      have HNX := Aside0.mk hnx
      have HSS := Aside0.mk hs
      have hsz := hnx.le
      obtain ⟨KX, hKX⟩ : ∃ K, 16 + x.length = K := ⟨_, rfl⟩
      rw [hKX, HL.out] at hsz
      obtain ⟨y1, y2⟩ := sc_nums hsz HN.out
      have HKX := Aside0.mk hKX
      clear hS hsa hK_ hC hC' hAL hM hCM hs hnx hKX hsz
      go_wp2_with fail
      refine (fread_ (l := l.drop at_) (Kd.C_below HC.out AS.out.toBelow) HM.out.1 (HR.out.2.2.drop _) HM.out.2 ep (K : Int)).mono ?_
      rintro e w2 ho
      obtain ⟨v2, rfl, hS2⟩ := okR_some HSS.out ho
      rw [HKX.out]
      obtain ⟨A4, c4, rfl⟩ := hS2.rowV
      have L3 := Aside0.mk ((AS.out.lift1 hS2).elSlice.at2)
      clear ho hS2
      go_wp2_with (first | (refine gate_builtin (b := .append) (xs := #[.tmp 27, .tmp 29]) rfl ?_; go_loud (refine L3.out.appendDeep rfl (.tmp 27) (.tmp 29) 49 _ 24 rfl Tryz.underlying49 infoS rfl (by decide) (by decide) rfl rfl (by rw [HK.out]; exact hk1) ?_; intro v6 w6 hs6 hS6; have A6 := Aside0.mk hS6; clear hS6)))
      go_roundg (gk - 1)
      case measure => exact Nat.sub_lt hk Nat.one_pos
      case rel => exact ⟨rs ++ [x], at_ + KX, by go_num, by rw [← HKX.out]; exact HNX.out, A6.out⟩
set_option maxHeartbeats 1600000 in
set_option maxRecDepth 100000 in
theorem rscan_ {A : Option Addr} {n c : Nat} {l : List Int} {w : World} (hr : U8.C w A n l) (hc : n ≤ c) (hb : Bytes l) (hn : n ≤ 1000000) (ep : Int) :
    Calls Tryz.prog 75 #[.slice A n c, .int .u32 ep] w fun e w' => ∃ v, e = .returned (.tuple #[v, .int .i64 ((scanR l ep).2 : Int)]) ∧ Sep w w' [Row K2 24 v (scanR l ep).1] := by
  have HR := Aside0.mk (And.intro hr (And.intro hc hb))
  have HL := Aside0.mk hr.1
  have HN := Aside0.mk hn
  have B0 := Aside0.mk ((Sep.start w).nilRow K2 24)
  have HS := Aside0.mk (scan_start l ep)
  clear hr hc hb hn
  go_enter Tryz.func75, Tryz.ntmps75
  go_wp2_with fail
  go_loopg [6, 7] (l.length + 1) (fun k_ v p wr => ∃ (rs : List (List Int)) (at_ : Nat), p = .int .i64 (at_ : Int) ∧ ScanAt l ep rs at_ k_ ∧ Sep w wr [Row K2 24 v rs])
  case atStart => exact ⟨[], 0, rfl, HS.out, B0.out⟩
  case round =>
    obtain ⟨rs, at_, rfl, hsa, hS⟩ := hrel
    have AS := Aside0.mk hS
    have HSA := Aside0.mk hsa
    obtain ⟨K, hK_⟩ : ∃ K, rs.length = K := ⟨_, rfl⟩
    obtain ⟨A3, c3, rfl⟩ := hS.rowN (n := K) hK_
    have HK := Aside0.mk hK_
    have han : at_ ≤ n := by have := hsa.le; rw [HL.out] at this; exact this
    obtain ⟨hu, hk1, hk2⟩ := sc_u32 (k := K) (by have h1 := longs_len rs; rw [hsa.long, hK_] at h1; exact h1) han HN.out
    have hcut := cutLo Tryz.underlying24 Base.infoB A n c at_ (J := (at_ : Int)) rfl han HR.out.2.1
    have hC := C_lo (a := at_) (c := c) HR.out.1 han HR.out.2.1
    have hC' : U8.C w (if c = at_ then A else A.map (·.add (at_ * 1))) (n - at_) (l.drop at_) := hC
    obtain ⟨AL, hAL⟩ : ∃ AL, (if c = at_ then A else A.map (·.add (at_ * 1))) = AL := ⟨_, rfl⟩
    rw [hAL] at hC'
    simp only [hAL] at hcut
    obtain ⟨M, hM⟩ : ∃ M, n - at_ = M := ⟨_, rfl⟩
    obtain ⟨CM, hCM⟩ : ∃ M, c - at_ = M := ⟨_, rfl⟩
    rw [hM] at hC'
    rw [hM, hCM] at hcut
    have HC := Aside0.mk hC'
    have HM := Aside0.mk (show M ≤ CM ∧ M ≤ 1000000 by have := HN.out; have := HR.out.2.1; omega)
    cases hs : readF (l.drop at_) ep (K : Int) with
    | none =>
      have HV : Aside0 (scanR l ep = (rs, at_)) := ⟨scan_none hsa (by rw [HK.out]; exact hs)⟩
      have HSS := Aside0.mk hs
      clear hS hsa hK_ hC hC' hAL hM hCM hs
      go_wp2_with fail
      refine (rread_ (l := l.drop at_) (Kd.C_below HC.out AS.out.toBelow) HM.out.1 (HR.out.2.2.drop _) HM.out.2 ep (K : Int)).mono ?_
      rintro e w2 ho
      obtain ⟨rfl, hb2⟩ := okR_none HSS.out ho
      have A2 := Aside0.mk (AS.out.below hb2)
      clear ho hb2
      go_wp2_with fail
      go_ret2
      exact ⟨_, by rw [HV.out]; first | rfl | (simp; done), by rw [HV.out]; exact A2.out⟩
    | some x =>
      obtain ⟨hnx, hk⟩ := scan_some hsa HR.out.2.2 (by rw [HK.out]; exact hs)
      have HNX := Aside0.mk hnx
      have HSS := Aside0.mk hs
      have hsz := hnx.le
      obtain ⟨KX, hKX⟩ : ∃ K, 16 + x.length = K := ⟨_, rfl⟩
      rw [hKX, HL.out] at hsz
      obtain ⟨y1, y2⟩ := sc_nums hsz HN.out
      have HKX := Aside0.mk hKX
      clear hS hsa hK_ hC hC' hAL hM hCM hs hnx hKX hsz
      go_wp2_with fail
      refine (rread_ (l := l.drop at_) (Kd.C_below HC.out AS.out.toBelow) HM.out.1 (HR.out.2.2.drop _) HM.out.2 ep (K : Int)).mono ?_
      rintro e w2 ho
      obtain ⟨v2, rfl, hS2⟩ := okR_some HSS.out ho
      rw [HKX.out]
      obtain ⟨A4, c4, rfl⟩ := hS2.rowV
      have L3 := Aside0.mk ((AS.out.lift1 hS2).elSlice.at2)
      clear ho hS2
      go_wp2_with (first | (refine gate_builtin (b := .append) (xs := #[.tmp 27, .tmp 29]) rfl ?_; go_loud (refine L3.out.appendDeep rfl (.tmp 27) (.tmp 29) 49 _ 24 rfl Tryz.underlying49 infoS rfl (by decide) (by decide) rfl rfl (by rw [HK.out]; exact hk1) ?_; intro v6 w6 hs6 hS6; have A6 := Aside0.mk hS6; clear hS6)))
      go_roundg (gk - 1)
      case measure => exact Nat.sub_lt hk Nat.one_pos
      case rel => exact ⟨rs ++ [x], at_ + KX, by go_num, by rw [← HKX.out]; exact HNX.out, A6.out⟩
end Go.Proofs.YtjngnigelkgekaaGreat.Frame
namespace Go.Proofs.YtjngnigelkgekaaGreat.Frame
open Go.RowKit Go.Proofs.YtjngnigelkgekaaGreatW.PrintWords Go.Proofs.YtjngnigelkgekaaGreatW.PrintLast Go.Proofs.YtjngnigelkgekaaGreatW.PrintMore Go.Proofs.YtjngnigelkgekaaGreat.Kit Go.Proofs.YtjngnigelkgekaaGreat.Base Go.Proofs.YtjngnigelkgekaaGreat.Plain Go.Proofs.YtjngnigelkgekaaGreat.Root
def frameF (ep sq : Int) (b : List Int) : List Int :=
  let h := put4 ep ++ put4 sq ++ put4 (b.length : Int) ++ b
  h ++ put4 (sumF h)
theorem put4_len (n : Int) : (put4 n).length = 4 := rfl
theorem frameF_len (ep sq : Int) (b : List Int) : (frameF ep sq b).length = 16 + b.length := by
  simp only [frameF, List.length_append, put4_len]; omega
theorem frameF_bytes (ep sq : Int) {b : List Int} (hb : Bytes b) : Bytes (frameF ep sq b) := by
  unfold frameF
  exact ((((put4_bytes _).app (put4_bytes _)).app (put4_bytes _)).app hb).app (put4_bytes _)
set_option maxHeartbeats 1600000 in
set_option maxRecDepth 100000 in
theorem rframe_ {A : Option Addr} {n c : Nat} {b : List Int} {w : World} (hr : U8.C w A n b) (hn : n ≤ 1000000) {ep sq : Int} (he : 0 ≤ ep ∧ ep ≤ 4294967295) (hs : 0 ≤ sq ∧ sq ≤ 4294967295) :
    Calls Tryz.prog 85 #[.int .u32 ep, .int .u32 sq, .slice A n c] w fun e w' => ∃ v, e = .returned v ∧ Sep w w' [Row U8 5 v (frameF ep sq b)] := by
  have hbl := hr.1
  have HR := Aside0.mk hr
  have HS := Aside0.mk hs
  have HE := Aside0.mk he
  have HBL := Aside0.mk hbl
  have HN := Aside0.mk hn
  have hu : IntKind.u32.wrap (n : Int) = (n : Int) := by rw [IntKind.wrap_u32]; omega
  have HU : Aside0 (0 ≤ (n : Int) ∧ (n : Int) ≤ 4294967295) := ⟨by omega⟩
  clear hr hs he hbl hn
  go_enter Tryz.func85, Tryz.ntmps85
  go_wp2_with fail
  refine (rput_ (n := 0) (c := 0) (l := []) (m := ep) (Kd.C_nil _ _) HE.out (by decide)).mono ?_
  rintro e w1 ⟨v1, rfl, hS1⟩
  obtain ⟨A1, c1, rfl⟩ := hS1.rowN (n := 4) rfl
  have B1 := Aside0.mk hS1
  clear hS1
  go_wp2_with fail
  refine (rput_ (m := sq) B1.out.rowC' HS.out (by decide)).mono ?_
  rintro e w2 ⟨v2, rfl, hS2⟩
  have B2 := Aside0.mk (B1.out.lift1 hS2)
  obtain ⟨A2, c2, rfl⟩ := hS2.rowN (n := 8) rfl
  clear hS2
  go_wp2_with fail
  refine (rput_ (m := (n : Int)) B2.out.rowC' HU.out (by decide)).mono ?_
  rintro e w3 ⟨v3, rfl, hS3⟩
  have B3 := Aside0.mk (B2.out.lift1 hS3)
  obtain ⟨A3, c3, rfl⟩ := hS3.rowN (n := 12) rfl
  clear hS3
  go_wp2_with (first | (refine gate_builtin (b := .append) (xs := #[.tmp 15, .tmp 16]) rfl ?_; go_loud (refine B3.out.appendRow rfl (.tmp 15) (.tmp 16) 24 (.int .u8 0) 1 rfl Tryz.underlying24 Base.infoB rfl (by decide) A n c rfl rfl (Kd.C_below HR.out B3.out.toBelow) (by have := HN.out; have := HBL.out; simp only [List.length_append, put4_len, List.length_nil]; omega) ?_; intro v4 w4 hS4; have B4 := Aside0.mk hS4; clear hS4)))
  obtain ⟨h, hh⟩ : ∃ h, ([] ++ put4 ep ++ put4 sq ++ put4 (n : Int)) ++ b = h := ⟨_, rfl⟩
  have HH : Aside0 (frameF ep sq b = h ++ put4 (sumF h)) := ⟨by rw [← hh]; unfold frameF; rw [HBL.out]; rfl⟩
  have HHL : Aside0 (h.length = 12 + n) := ⟨by rw [← hh]; simp only [List.length_append, put4_len, List.length_nil, HBL.out]⟩
  rw [hh] at B4
  obtain ⟨N, hN⟩ : ∃ N, 12 + n = N := ⟨_, rfl⟩
  rw [hN] at HHL
  have HN2 : Aside0 (N ≤ 1000012) := ⟨by have := HN.out; omega⟩
  obtain ⟨A4, c4, rfl⟩ := B4.out.rowN HHL.out
  have B5 := Aside0.mk B4.out
  clear hh hN hu
  go_wp2_with fail
  refine (rsum_ (l := h) B4.out.rowC').mono ?_
  rintro e w5 ⟨rfl, rfl⟩
  go_wp2_with fail
  refine (rput_ (m := sumF h) B4.out.rowC' (Sum.sumF_in _) (by have := HN2.out; omega)).mono ?_
  rintro e w6 ⟨v6, rfl, hS6⟩
  have B6 := Aside0.mk (B4.out.lift1 hS6)
  clear hS6
  go_wp2_with fail
  go_ret
  exact ⟨_, by first | rfl | (simp; done), by rw [HH.out]; exact B6.out.drop2.drop2.drop2⟩
end Go.Proofs.YtjngnigelkgekaaGreat.Frame
namespace Go.Proofs.YtjngnigelkgekaaGreat.Frame
open Go.RowKit Go.Proofs.YtjngnigelkgekaaGreatW.PrintWords Go.Proofs.YtjngnigelkgekaaGreatW.PrintLast Go.Proofs.YtjngnigelkgekaaGreatW.PrintMore Go.Proofs.YtjngnigelkgekaaGreat.Kit Go.Proofs.YtjngnigelkgekaaGreat.Base Go.Proofs.YtjngnigelkgekaaGreat.Plain Go.Proofs.YtjngnigelkgekaaGreat.Root
set_option maxHeartbeats 1600000 in
set_option maxRecDepth 100000 in
theorem fbytes_ {A : Option Addr} {n c : Nat} {b : List Int} {w : World} (hr : U8.C w A n b) (hn : n ≤ 1000000) {ep sq : Int} (he : 0 ≤ ep ∧ ep ≤ 4294967295) (hs : 0 ≤ sq ∧ sq ≤ 4294967295) :
    Calls Tryz.prog 71 #[.int .u32 ep, .int .u32 sq, .slice A n c] w fun e w' => ∃ v, e = .returned v ∧ Sep w w' [Row U8 5 v (frameF ep sq b)] := by
  have hbl := hr.1
  have HR := Aside0.mk hr
  have HS := Aside0.mk hs
  have HE := Aside0.mk he
  have HBL := Aside0.mk hbl
  have HN := Aside0.mk hn
  have hu : IntKind.u32.wrap (n : Int) = (n : Int) := by rw [IntKind.wrap_u32]; omega
  have HU : Aside0 (0 ≤ (n : Int) ∧ (n : Int) ≤ 4294967295) := ⟨by omega⟩
  clear hr hs he hbl hn
  go_enter Tryz.func71, Tryz.ntmps71
  go_wp2_with fail
  refine (Sum.put_ (n := 0) (c := 0) (l := []) (m := ep) (Kd.C_nil _ _) HE.out (by decide)).mono ?_
  rintro e w1 ⟨v1, rfl, hS1⟩
  obtain ⟨A1, c1, rfl⟩ := hS1.rowN (n := 4) rfl
  have B1 := Aside0.mk hS1
  clear hS1
  go_wp2_with fail
  refine (Sum.put_ (m := sq) B1.out.rowC' HS.out (by decide)).mono ?_
  rintro e w2 ⟨v2, rfl, hS2⟩
  have B2 := Aside0.mk (B1.out.lift1 hS2)
  obtain ⟨A2, c2, rfl⟩ := hS2.rowN (n := 8) rfl
  clear hS2
  go_wp2_with fail
  refine (Sum.put_ (m := (n : Int)) B2.out.rowC' HU.out (by decide)).mono ?_
  rintro e w3 ⟨v3, rfl, hS3⟩
  have B3 := Aside0.mk (B2.out.lift1 hS3)
  obtain ⟨A3, c3, rfl⟩ := hS3.rowN (n := 12) rfl
  clear hS3
  go_wp2_with (first | (refine gate_builtin (b := .append) (xs := #[.tmp 16, .tmp 17]) rfl ?_; go_loud (refine B3.out.appendRow rfl (.tmp 16) (.tmp 17) 24 (.int .u8 0) 1 rfl Tryz.underlying24 Base.infoB rfl (by decide) A n c rfl rfl (Kd.C_below HR.out B3.out.toBelow) (by have := HN.out; have := HBL.out; simp only [List.length_append, put4_len, List.length_nil]; omega) ?_; intro v4 w4 hS4; have B4 := Aside0.mk hS4; clear hS4)))
  obtain ⟨h, hh⟩ : ∃ h, ([] ++ put4 ep ++ put4 sq ++ put4 (n : Int)) ++ b = h := ⟨_, rfl⟩
  have HH : Aside0 (frameF ep sq b = h ++ put4 (sumF h)) := ⟨by rw [← hh]; unfold frameF; rw [HBL.out]; rfl⟩
  have HHL : Aside0 (h.length = 12 + n) := ⟨by rw [← hh]; simp only [List.length_append, put4_len, List.length_nil, HBL.out]⟩
  rw [hh] at B4
  obtain ⟨N, hN⟩ : ∃ N, 12 + n = N := ⟨_, rfl⟩
  rw [hN] at HHL
  have HN2 : Aside0 (N ≤ 1000012) := ⟨by have := HN.out; omega⟩
  obtain ⟨A4, c4, rfl⟩ := B4.out.rowN HHL.out
  have B5 := Aside0.mk B4.out
  clear hh hN hu
  go_wp2_with fail
  refine (Sum.of_ (l := h) B4.out.rowC').mono ?_
  rintro e w5 ⟨rfl, rfl⟩
  go_wp2_with fail
  refine (Sum.put_ (m := sumF h) B4.out.rowC' (Sum.sumF_in _) (by have := HN2.out; omega)).mono ?_
  rintro e w6 ⟨v6, rfl, hS6⟩
  have B6 := Aside0.mk (B4.out.lift1 hS6)
  clear hS6
  go_wp2_with fail
  go_ret
  exact ⟨_, by first | rfl | (simp; done), by rw [HH.out]; exact B6.out.drop2.drop2.drop2⟩
end Go.Proofs.YtjngnigelkgekaaGreat.Frame
