/- Ref5, StRef1, Same, Ref6, Play, Str: what StoreNumbers needs. -/
import Derived.Test.YtjngnigelkgekaaGreatTstoreNumbers8
import Derived.Deep.Cut
import Derived.Deep.CutRange
import Derived.Deep.QuietTactic
set_option linter.unusedVariables false
set_option linter.unusedSimpArgs false
namespace Go.Proofs.YtjngnigelkgekaaGreat.Ref
open Go.RowKit Go.Proofs.YtjngnigelkgekaaGreatW.PrintWords Go.Proofs.YtjngnigelkgekaaGreatW.PrintLast Go.Proofs.YtjngnigelkgekaaGreatW.PrintMore Go.Proofs.YtjngnigelkgekaaGreat.Kit Go.Proofs.YtjngnigelkgekaaGreat.Disk
def waitL (n : Nat) (wt : Wt) : List Bool := (List.range n).map (fun i => (wt i).isSome)
theorem waitL_getD {n i : Nat} (wt : Wt) (hi : i < n) : (waitL n wt).getD i false = (wt i).isSome := by
  unfold waitL
  rw [List.getD_eq_getElem?_getD, List.getElem?_map, List.getElem?_range hi]
  rfl
theorem waitL_none (n : Nat) : waitL n (fun _ => none) = List.replicate n false := by
  apply List.ext_getElem?
  intro i
  unfold waitL
  by_cases hi : i < n
  · rw [List.getElem?_map, List.getElem?_range hi, List.getElem?_replicate, if_pos hi]; rfl
  · rw [List.getElem?_eq_none (by simp; omega), List.getElem?_eq_none (by simp; omega)]
theorem waitL_set {n : Nat} (wt : Wt) (i : Nat) (b : List Int) : (waitL n wt).set i true = waitL n (fun j => if j = i then some b else wt j) := by
  apply List.ext_getElem?
  intro j
  unfold waitL
  rw [List.getElem?_set, List.getElem?_map, List.getElem?_map, List.length_map, List.length_range]
  by_cases hj : j < n
  · rw [List.getElem?_range hj]
    by_cases hij : i = j
    · subst hij; rw [if_pos rfl, if_pos hj]; simp
    · rw [if_neg hij]; simp [show ¬ j = i from fun h => hij h.symm]
  · rw [List.getElem?_eq_none (by simp; omega)]
    by_cases hij : i = j
    · subst hij; rw [if_pos rfl, if_neg hj]; rfl
    · rw [if_neg hij]; rfl
theorem waits_keys (n : Nat) (wt : Wt) : waitsI (waitL n wt) n = (keysOf n wt).map (fun k : Nat => (k : Int)) := by
  unfold waitsI keysOf
  congr 1
  refine List.filter_congr fun i hi => ?_
  exact waitL_getD wt (List.mem_range.1 hi)
theorem flushed_write {las : List Int} {wt : Wt} {n i : Nat} {b : List Int} (hl : las.length = 64 * n) (hw : ∀ i b, wt i = some b → b.length = 64) (hi : i < n) (hb : b.length = 64) :
    over (flushed las wt) (64 * i) b = flushed las (fun j => if j = i then some b else wt j) := by
  unfold flushed
  rw [show las.length / 64 = n by omega]
  have hs : ∀ k, k < n → ((wt k).getD (sec las k)).length = 64 := fun k hk => by
    cases h : wt k with
    | none => exact sec_len (by omega)
    | some c => exact hw k c h
  rw [over_secs hs hi (by omega)]
  refine secs_congr fun k hk => ?_
  by_cases hki : k = i
  · simp only [if_pos hki, Option.getD_some]
    rw [List.drop_eq_nil_of_le (by rw [hs k hk, hb]; exact Nat.le_refl _), List.append_nil]
  · simp only [if_neg hki]
theorem sec_flushed {las : List Int} {wt : Wt} {n i : Nat} (hl : las.length = 64 * n) (hw : ∀ i b, wt i = some b → b.length = 64) (hi : i < n) : sec (flushed las wt) i = (wt i).getD (sec las i) := by
  unfold flushed
  rw [show las.length / 64 = n by omega]
  refine sec_secs (fun k hk => ?_) hi
  cases h : wt k with
  | none => exact sec_len (by omega)
  | some c => exact hw k c h
theorem flushed_len {las : List Int} {wt : Wt} {n : Nat} (h : las.length = 64 * n) (hw : ∀ i b, wt i = some b → b.length = 64) : (flushed las wt).length = 64 * n := by
  unfold flushed
  rw [show las.length / 64 = n by omega]
  refine secs_len fun i hi => ?_
  cases hb : wt i with
  | none => exact sec_len (by omega)
  | some b => exact hw i b hb
theorem crashTo_len {las : List Int} {wt : Wt} {cuts : List Int} {n j : Nat} (h : las.length = 64 * n) (hw : ∀ i b, wt i = some b → b.length = 64) : (crashTo las wt cuts j).length = 64 * n := by
  unfold crashTo
  rw [show las.length / 64 = n by omega]
  refine secs_len fun i hi => ?_
  split
  · exact cutS_len h hw i hi
  · exact sec_len (by omega)
theorem take_sec (l : List Int) {i m : Nat} (hm : m ≤ 64) : (l.drop (64 * i)).take m = (sec l i).take m := by
  unfold sec
  rw [List.take_take, Nat.min_eq_left hm]
section
variable {w0 W : World} {g n : Nat} {las now : List Int} {wait : List Bool} {left done : Int} {F : List HP} {wt : Wt}
set_option maxHeartbeats 3200000 in
set_option maxRecDepth 100000 in
theorem crash_ {A : Option Addr} {m c : Nat} {cuts : List Int} (h : Sep w0 W (RD g n las (flushed las wt) (waitL n wt) left done :: F)) (hw : ∀ i b, wt i = some b → b.length = 64) (hcu : ∀ W', Sep w0 W' F → I64.C W' A m cuts) :
    Calls Tryz.prog 19 #[.pointer (some ⟨g, 0, none⟩), .slice A m c] W fun e w' => e = .returned (.int .i64 ((keysOf n wt).length : Int)) ∧ Sep w0 w' (RD g n (crashed las wt cuts) (crashed las wt cuts) (List.replicate n false) left done :: F) := by
  have H0 := Aside0.mk h
  have HCU := Aside0.mk hcu
  have HW := Aside0.mk hw
  have hmc : cuts.length = m := (hcu W h.tail).1
  have hm : m ≤ 9223372036854775807 := (hcu W h.tail).2.1
  have AMC := Aside0.mk hmc
  clear h hcu hw hmc
  go_enter Tryz.func19, Tryz.ntmps19
  go_wp2_with fail
  refine (waits_ H0.out).mono ?_
  rintro e w1 ⟨vk, rfl, hI⟩
  rw [waits_keys] at hI
  obtain ⟨ks, hks⟩ : ∃ ks, (keysOf n wt).map (fun k : Nat => (k : Int)) = ks := ⟨_, rfl⟩
  rw [hks] at hI
  obtain ⟨gl, cl, gn, cn, gw, cw, ⟨n1, n2, n3, n4, n5, n6, n7, n8⟩, hs⟩ := open_ hI.at2
  have hkl : ks.length = (keysOf n wt).length := by rw [← hks, List.length_map]
  have hkn : ks.length ≤ 160 := by have := keys_len_le wt n; omega
  obtain ⟨Ak, ck, rfl⟩ := hI.rowV
  have HKS := Aside0.mk hks
  have HKL := Aside0.mk hkl
  have A3 := Aside0.mk (And.intro n3 (And.intro n4 n5))
  have A1 : Aside0 (Sep w0 w1 (Row I64 3 (.slice Ak ks.length ck) ks :: Blk g 93 #[.slice (some ⟨gl, 0, none⟩) (64 * n) cl, .slice (some ⟨gn, 0, none⟩) (64 * n) cn, .slice (some ⟨gw, 0, none⟩) n cw, .int .i64 left, .int .i64 done] ::
      Row U8 5 (.slice (some ⟨gl, 0, none⟩) (64 * n) cl) (crashTo las wt cuts 0) :: Row U8 5 (.slice (some ⟨gn, 0, none⟩) (64 * n) cn) (flushed las wt) :: Row BK 4 (.slice (some ⟨gw, 0, none⟩) n cw) (waitL n wt) :: F)) := ⟨by rw [crashTo_zero n3]; exact hs.at5⟩
  clear hI hs n3 n4 n5 hks hkl
  go_wp2_with fail
  go_loopg [13] ks.length (fun k p wr => ∃ j : Nat, p = .int .i64 (j : Int) ∧ j + k = ks.length ∧ Sep w0 wr (Row I64 3 (.slice Ak ks.length ck) ks :: Blk g 93 #[.slice (some ⟨gl, 0, none⟩) (64 * n) cl, .slice (some ⟨gn, 0, none⟩) (64 * n) cn, .slice (some ⟨gw, 0, none⟩) n cw, .int .i64 left, .int .i64 done] ::
      Row U8 5 (.slice (some ⟨gl, 0, none⟩) (64 * n) cl) (crashTo las wt cuts j) :: Row U8 5 (.slice (some ⟨gn, 0, none⟩) (64 * n) cn) (flushed las wt) :: Row BK 4 (.slice (some ⟨gw, 0, none⟩) n cw) (waitL n wt) :: F))
  case atStart => exact ⟨0, rfl, by omega, A1.out⟩
  case round =>
    obtain ⟨j, rfl, hjk, hS⟩ := hrel
    have AR := Aside0.mk hS
    have AK := Aside0.mk hjk
    by_cases hj : j < ks.length
    · obtain ⟨bk, ck', hform⟩ := hS.rowForm (by omega)
      cases hform
      have hj' : j < (keysOf n wt).length := by rw [← HKL.out]; exact hj
      obtain ⟨i, hki⟩ : ∃ i, (keysOf n wt)[j]? = some i := ⟨_, List.getElem?_eq_getElem hj'⟩
      obtain ⟨k1, k2, k3⟩ := (keys_at wt _ j i).1 hki
      have hkv : ks.getD j 0 = (i : Int) := by rw [← HKS.out, List.getD_eq_getElem?_getD, List.getElem?_map, hki]; rfl
      have hkc : wr.cell? ⟨bk, j, none⟩ = some (.int .i64 (i : Int)) := by
        have := (hS.rowCell (0 : Int) j hj).1; rw [hkv] at this; exact this
      obtain ⟨b, hwb⟩ := Option.isSome_iff_exists.1 k2
      have hst := crashTo_step (cuts := cuts) A3.out.1 HW.out hki hwb
      have AST := Aside0.mk hst
      have HSEC : Aside0 (sec (flushed las wt) i = b) := ⟨by rw [sec_flushed A3.out.1 HW.out k1, hwb]; rfl⟩
      clear hS hjk hkv hki k2 k3 hwb hst hj'
      go_upto_if 21 with fail
      go_cut [8] from 14 to 47 (fun p wx => p = .int .i64 (cutN cuts j : Int) ∧ wx = wr)
      case first =>
        by_cases hjc : j < m
        · obtain ⟨ad, hA, hcc⟩ := Kd.at_int (HCU.out wr AR.out.tail.tail.tail.tail.tail) (j : Int) (by omega) (by omega)
          subst hA
          rw [Int.toNat_natCast] at hcc
          have hE := cut_is (cuts := cuts) (j := j) (by rw [AMC.out]; exact hjc)
          have hE2 : max (min (rd cuts (j : Int)) 64) 0 = (cutN cuts j : Int) := by rw [← hE]; repeat' split
                                                                                    all_goals omega
          have hE3 : max 0 (min (rd cuts (j : Int)) 64) = (cutN cuts j : Int) := by rw [← hE2]; exact Int.max_comm _ _
          generalize rd cuts (j : Int) = x at *
          clear hE
          go_wp2_with fail
          go_meet
          case rel => exact ⟨rfl, rfl⟩
        · have hz : cutN cuts j = 0 := by unfold cutN; rw [if_neg (by rw [AMC.out]; omega)]
          go_wp2_with fail
          go_meet
          case rel => exact ⟨by rw [hz]; rfl, rfl⟩
      case rest =>
        obtain ⟨rfl, rfl⟩ := hcut
        have M64 : cutN cuts j ≤ 64 := cutN_le cuts j
        generalize cutN cuts j = M at *
        have hlo := cutM_ (g := gl) (N := 64 * n) (c := cl) (j := 64 * i) (k := 64 * i + M) (J := (i : Int) * 64) (K := (i : Int) * 64 + (M : Int)) (by omega) (by omega) (by omega) (by omega) (by omega) n6
        have hfr := cutF_ (g := gn) (N := 64 * n) (c := cn) (j := 64 * i) (J := (i : Int) * 64) (by omega) (by omega) n7
        rw [Nat.add_sub_cancel_left] at hlo
        have c0 : wc.drew.cell? ⟨g, 0, none⟩ = some (.slice (some ⟨gl, 0, none⟩) (64 * n) cl) := (AR.out.drew.at2.cell 0).trans rfl
        have c1 : wc.drew.cell? ⟨g, 1, none⟩ = some (.slice (some ⟨gn, 0, none⟩) (64 * n) cn) := (AR.out.drew.at2.cell 1).trans rfl
        have AD := Aside0.mk AR.out.drew.at3
        go_wp2_with fail
        have hw1 : wrap64 ((i : Int) * 64) = (i : Int) * 64 := IntWalk.wrap64_in _ (by omega)
        have hw2 : wrap64 ((i : Int) * 64 + (M : Int)) = (i : Int) * 64 + (M : Int) := IntWalk.wrap64_in _ (by omega)
        refine start_ (n := 19) (S := fun w' => w'.cell? ⟨g, 0, none⟩ = some (.slice (some ⟨gl, 0, none⟩) (64 * n) cl) ∧ w'.cell? ⟨g, 1, none⟩ = some (.slice (some ⟨gn, 0, none⟩) (64 * n) cn)) (ds := [18]) #[fF,fF,fF,fF,fF,fF,fF,fF,fF,fF,fF,fF,fF,fF,fF,fF,fF,fF,fF] (by kernel_rfl) rfl rfl ⟨c0, c1⟩ (fun hHeld => ?_)
        refine pu_ 0 28 ?_ #[tT,fF,fF,fF,fF,fF,fF,fF,fF,fF,fF,fF,fF,fF,fF,fF,fF,fF,fF] rfl rfl ?_ ?_ ?_ ?_
        rotate_left
        · intro w'
          go_simp
          with_reducible rfl
        rotate_left
        · simp only [aP]
          rfl
        refine pu_ 1 29 ?_ #[tT,tT,fF,fF,fF,fF,fF,fF,fF,fF,fF,fF,fF,fF,fF,fF,fF,fF,fF] rfl rfl ?_ ?_ ?_ ?_
        rotate_left
        · intro w'
          go_simp
          with_reducible rfl
        rotate_left
        · simp only [aP]
          rfl
        refine pu_ 2 30 ?_ #[tT,tT,tT,fF,fF,fF,fF,fF,fF,fF,fF,fF,fF,fF,fF,fF,fF,fF,fF] rfl rfl ?_ ?_ ?_ ?_
        rotate_left
        · intro w'
          go_simp
          with_reducible rfl
        rotate_left
        · simp only [aP]
          rfl
        refine pu_ 4 32 ?_ #[tT,tT,tT,fF,tT,fF,fF,fF,fF,fF,fF,fF,fF,fF,fF,fF,fF,fF,fF] rfl rfl ?_ ?_ ?_ ?_
        rotate_left
        · intro w'
          go_simp
          with_reducible rfl
        rotate_left
        · simp only [aP]
          rfl
        refine pu_ 5 33 ?_ #[tT,tT,tT,fF,tT,tT,fF,fF,fF,fF,fF,fF,fF,fF,fF,fF,fF,fF,fF] rfl rfl ?_ ?_ ?_ ?_
        rotate_left
        · intro w'
          go_simp
          with_reducible rfl
        rotate_left
        · simp only [aP]
          rfl
        refine pu_ 6 34 ?_ #[tT,tT,tT,fF,tT,tT,tT,fF,fF,fF,fF,fF,fF,fF,fF,fF,fF,fF,fF] rfl rfl ?_ ?_ ?_ ?_
        rotate_left
        · intro w'
          go_simp
          with_reducible rfl
        rotate_left
        · simp only [aP]
          rfl
        refine pu_ 7 35 ?_ #[tT,tT,tT,fF,tT,tT,tT,tT,fF,fF,fF,fF,fF,fF,fF,fF,fF,fF,fF] rfl rfl ?_ ?_ ?_ ?_
        rotate_left
        · intro w'
          go_simp
          with_reducible rfl
        rotate_left
        · simp only [aP]
          rfl
        refine pu_ 8 36 ?_ #[tT,tT,tT,fF,tT,tT,tT,tT,tT,fF,fF,fF,fF,fF,fF,fF,fF,fF,fF] rfl rfl ?_ ?_ ?_ ?_
        rotate_left
        · intro w'
          go_simp
          with_reducible rfl
        rotate_left
        · simp only [aP]
          rfl
        refine pu_ 9 37 ?_ #[tT,tT,tT,fF,tT,tT,tT,tT,tT,tT,fF,fF,fF,fF,fF,fF,fF,fF,fF] rfl rfl ?_ ?_ ?_ ?_
        rotate_left
        · intro w'
          go_simp
          with_reducible rfl
        rotate_left
        · simp only [aP]
          rfl
        refine pu_ 11 39 ?_ #[tT,tT,tT,fF,tT,tT,tT,tT,tT,tT,fF,tT,fF,fF,fF,fF,fF,fF,fF] rfl rfl ?_ ?_ ?_ ?_
        rotate_left
        · intro w'
          go_simp
          with_reducible rfl
        rotate_left
        · simp only [aP]
          rfl
        refine pu_ 12 40 ?_ #[tT,tT,tT,fF,tT,tT,tT,tT,tT,tT,fF,tT,tT,fF,fF,fF,fF,fF,fF] rfl rfl ?_ ?_ ?_ ?_
        rotate_left
        · intro w'
          go_simp
          with_reducible rfl
        rotate_left
        · simp only [aP]
          rfl
        refine pu_ 13 41 ?_ #[tT,tT,tT,fF,tT,tT,tT,tT,tT,tT,fF,tT,tT,tT,fF,fF,fF,fF,fF] rfl rfl ?_ ?_ ?_ ?_
        rotate_left
        · intro w'
          go_simp
          with_reducible rfl
        rotate_left
        · simp only [aP]
          rfl
        refine pu_ 15 43 ?_ #[tT,tT,tT,fF,tT,tT,tT,tT,tT,tT,fF,tT,tT,tT,fF,tT,fF,fF,fF] rfl rfl ?_ ?_ ?_ ?_
        rotate_left
        · intro w'
          go_simp
          with_reducible rfl
        rotate_left
        · simp only [aP]
          rfl
        refine pu_ 16 44 ?_ #[tT,tT,tT,fF,tT,tT,tT,tT,tT,tT,fF,tT,tT,tT,fF,tT,tT,fF,fF] rfl rfl ?_ ?_ ?_ ?_
        rotate_left
        · intro w'
          go_simp
          with_reducible rfl
        rotate_left
        · simp only [aP]
          rfl
        refine ta_ 3 31 ?_ #[tT,tT,tT,tT,tT,tT,tT,tT,tT,tT,fF,tT,tT,tT,fF,tT,tT,fF,fF] rfl rfl ?_ hHeld ?_ ?_ ?_
        rotate_left
        · rintro w' ⟨s0, s1⟩
          go_simp
          with_reducible rfl
        rotate_left
        · simp only [aP]
          rfl
        refine pu_ 10 38 ?_ #[tT,tT,tT,tT,tT,tT,tT,tT,tT,tT,tT,tT,tT,tT,fF,tT,tT,fF,fF] rfl rfl ?_ ?_ ?_ ?_
        rotate_left
        · intro w'
          go_simp
          with_reducible rfl
        rotate_left
        · simp only [aP]
          rfl
        refine ta_ 14 42 ?_ #[tT,tT,tT,tT,tT,tT,tT,tT,tT,tT,tT,tT,tT,tT,tT,tT,tT,fF,fF] rfl rfl ?_ hHeld ?_ ?_ ?_
        rotate_left
        · rintro w' ⟨s0, s1⟩
          go_simp
          with_reducible rfl
        rotate_left
        · simp only [aP]
          rfl
        refine pu_ 17 45 ?_ #[tT,tT,tT,tT,tT,tT,tT,tT,tT,tT,tT,tT,tT,tT,tT,tT,tT,tT,fF] rfl rfl ?_ ?_ ?_ ?_
        rotate_left
        · intro w'
          go_simp
          with_reducible rfl
        rotate_left
        · simp only [aP]
          rfl
        refine last_ (i := 18) (N := some 46) #[tT,tT,tT,tT,tT,tT,tT,tT,tT,tT,tT,tT,tT,tT,tT,tT,tT,tT,tT] rfl rfl (by kernel_rfl) (by decide) (fun K hK => ?_)
        clear hw1 hw2
        have hCn : U8.C wc.drew (some ⟨gn, 64 * i, none⟩) (64 * n - 64 * i) ((flushed las wt).drop (64 * i)) := by have := C_piece (by have := AD.out.at4.rowC.2.2; rwa [A3.out.2.1] at this) (64 * i) (64 * n - 64 * i) (by omega); rwa [List.take_of_length_le (by rw [List.length_drop, A3.out.2.1]; exact Nat.le_refl _)] at this
        refine AD.out.copyStep (by rfl) (.tmp 38) (.tmp 45) rfl Tryz.underlying24 size1 (o := 64 * i) (n' := M) (c' := cl - 64 * i) (m := 64 * n - 64 * i) (c := cn - 64 * i) (A := some ⟨gn, 64 * i, none⟩) (ys := (flushed las wt).drop (64 * i)) rfl rfl hCn (by omega) (fun W2 hS2 => ?_)
        rw [take_sec _ M64, HSEC.out, AST.out] at hS2
        have A2 := Aside0.mk hS2
        clear hS2 c0 c1 hCn
        refine hK.out _ _ ?_
        clear hK K
        refine norm_ (a' := ?_) ?_ ?_
        rotate_left
        · show Act.put _ (some 46) _ = _
          simp only [aP]
          rfl
        refine done_ (by kernel_rfl) ?_
        go_wp2_with fail
        go_roundg (gk - 1)
        case measure => have := AK.out; omega
        case rel => exact ⟨j + 1, by go_num, by have := AK.out; omega, A2.out.to3⟩
    · have hjn : j = ks.length := by omega
      have hall : crashTo las wt cuts j = crashed las wt cuts := by rw [hjn, HKL.out]; exact crashTo_all A3.out.1
      have A0 : Aside0 _ := ⟨AR.out.tail⟩
      rw [hall] at A0
      have hcl : (crashed las wt cuts).length = 64 * n := by rw [← hall]; exact crashTo_len A3.out.1 HW.out
      obtain ⟨L, hL⟩ : ∃ L, crashed las wt cuts = L := ⟨_, rfl⟩
      rw [hL] at A0 hcl
      have HCL := Aside0.mk hcl
      have HL := Aside0.mk hL
      have c0 : wr.drew.cell? ⟨g, 0, none⟩ = some (.slice (some ⟨gl, 0, none⟩) (64 * n) cl) := (A0.out.drew.cell 0).trans rfl
      have c1 : wr.drew.cell? ⟨g, 1, none⟩ = some (.slice (some ⟨gn, 0, none⟩) (64 * n) cn) := (A0.out.drew.cell 1).trans rfl
      have AD := Aside0.mk A0.out.drew.at3
      have hmk := makeT (m := n) (by omega)
      clear hS hjk hall AR A0 hcl hL
      go_wp2_with fail
      refine start_ (n := 9) (S := fun w' => w'.cell? ⟨g, 1, none⟩ = some (.slice (some ⟨gn, 0, none⟩) (64 * n) cn) ∧ w'.cell? ⟨g, 0, none⟩ = some (.slice (some ⟨gl, 0, none⟩) (64 * n) cl)) (ds := [8]) #[fF,fF,fF,fF,fF,fF,fF,fF,fF] (by kernel_rfl) rfl rfl ⟨c1, c0⟩ (fun hHeld => ?_)
      refine pu_ 0 48 ?_ #[tT,fF,fF,fF,fF,fF,fF,fF,fF] rfl rfl ?_ ?_ ?_ ?_
      rotate_left
      · intro w'
        go_simp
        with_reducible rfl
      rotate_left
      · simp only [aP]
        rfl
      refine pu_ 1 49 ?_ #[tT,tT,fF,fF,fF,fF,fF,fF,fF] rfl rfl ?_ ?_ ?_ ?_
      rotate_left
      · intro w'
        go_simp
        with_reducible rfl
      rotate_left
      · simp only [aP]
        rfl
      refine pu_ 2 50 ?_ #[tT,tT,tT,fF,fF,fF,fF,fF,fF] rfl rfl ?_ ?_ ?_ ?_
      rotate_left
      · intro w'
        go_simp
        with_reducible rfl
      rotate_left
      · simp only [aP]
        rfl
      refine pu_ 4 52 ?_ #[tT,tT,tT,fF,tT,fF,fF,fF,fF] rfl rfl ?_ ?_ ?_ ?_
      rotate_left
      · intro w'
        go_simp
        with_reducible rfl
      rotate_left
      · simp only [aP]
        rfl
      refine pu_ 5 53 ?_ #[tT,tT,tT,fF,tT,tT,fF,fF,fF] rfl rfl ?_ ?_ ?_ ?_
      rotate_left
      · intro w'
        go_simp
        with_reducible rfl
      rotate_left
      · simp only [aP]
        rfl
      refine pu_ 6 54 ?_ #[tT,tT,tT,fF,tT,tT,tT,fF,fF] rfl rfl ?_ ?_ ?_ ?_
      rotate_left
      · intro w'
        go_simp
        with_reducible rfl
      rotate_left
      · simp only [aP]
        rfl
      refine ta_ 3 51 ?_ #[tT,tT,tT,tT,tT,tT,tT,fF,fF] rfl rfl ?_ hHeld ?_ ?_ ?_
      rotate_left
      · rintro w' ⟨s0, s1⟩
        go_simp
        with_reducible rfl
      rotate_left
      · simp only [aP]
        rfl
      refine ta_ 7 55 ?_ #[tT,tT,tT,tT,tT,tT,tT,tT,fF] rfl rfl ?_ hHeld ?_ ?_ ?_
      rotate_left
      · rintro w' ⟨s0, s1⟩
        go_simp
        with_reducible rfl
      rotate_left
      · simp only [aP]
        rfl
      refine last_ (i := 8) (N := some 56) #[tT,tT,tT,tT,tT,tT,tT,tT,tT] rfl rfl (by kernel_rfl) (by decide) (fun K hK => ?_)
      have hCl : U8.C wr.drew (some ⟨gl, 0, none⟩) (64 * n) L := by have := AD.out.at3.rowC.2.2; rwa [HCL.out] at this
      refine AD.out.copyStep (by rfl) (.tmp 51) (.tmp 55) rfl Tryz.underlying24 size1 (o := 0) (n' := 64 * n) (c' := cn) (m := 64 * n) (c := cl) (A := some ⟨gl, 0, none⟩) (ys := L) rfl rfl hCl (by omega) (fun W2 hS2 => ?_)
      rw [List.take_of_length_le (by rw [HCL.out]; exact Nat.le_refl _), over_all (by rw [HCL.out, A3.out.2.1])] at hS2
      have A2 := Aside0.mk hS2
      have c2 : W2.cell? ⟨g, 2, none⟩ = some (.slice (some ⟨gw, 0, none⟩) n cw) := (hS2.at2.cell 2).trans rfl
      have A4 := Aside0.mk (madeT n hS2 (by omega))
      have c3 : (W2.alloc (.cells (madeCells #[.bool false] n) 4)).cell? ⟨g, 2, none⟩ = some (.slice (some ⟨gw, 0, none⟩) n cw) := (A4.out.at3.cell 2).trans rfl
      have z3 := A4.out.at3.frozen 2
      clear hS2 c0 c1 hCl
      refine hK.out _ _ ?_
      clear hK K
      refine norm_ (a' := ?_) ?_ ?_
      rotate_left
      · show Act.put _ (some 56) _ = _
        simp only [aP]
        rfl
      refine done_ (by kernel_rfl) ?_
      go_wp2_with fail
      go_ret
      have h5 := A4.out.at3.setBlk 2 (.slice (some ⟨W2.heap.size, 0, none⟩) n n)
      have h6 := h5.at5.tail
      refine ⟨?_, ?_⟩
      · rw [← HKL.out]; rfl
      · rw [HL.out]; exact shut_ n1 n2 HCL.out HCL.out (List.length_replicate ..) (h6.at2.to4.sw23)
end
end Go.Proofs.YtjngnigelkgekaaGreat.Ref
namespace Go.Proofs.YtjngnigelkgekaaGreat.RStore
open Go.RowKit Go.Proofs.YtjngnigelkgekaaGreatW.PrintWords Go.Proofs.YtjngnigelkgekaaGreatW.PrintLast Go.Proofs.YtjngnigelkgekaaGreatW.PrintMore Go.Proofs.YtjngnigelkgekaaGreat.Kit Go.Proofs.YtjngnigelkgekaaGreat.Plain Go.Proofs.YtjngnigelkgekaaGreat.Disk Go.Proofs.YtjngnigelkgekaaGreat.Root
open Go.Proofs.YtjngnigelkgekaaGreat.Delta (Chg KC)
open Go.Proofs.YtjngnigelkgekaaGreat.Store (KP applyF applyOne applyF_len applyF_snoc take_one infoS)
open Go.Proofs.YtjngnigelkgekaaGreat.Base
abbrev BK : Kd Bool := Kd.bool
def RStB (gx gr : Nat) (a b ep : Int) (pages : List (List Int)) (nm : List Bool) (used seq : Nat) : HP := Ex fun x : Value × Value =>
  Star [Pu (nm.length = pages.length ∧ 0 < pages.length ∧ pages.length ≤ 64), Blk gx 87 #[.pointer (some ⟨gr, 0, none⟩), .int .i64 a, .int .i64 b, .int .u32 ep, x.1, x.2, .int .i64 (used : Int), .int .u32 (seq : Int)], RowV KP 24 x.1 pages, Row BK 4 x.2 nm]
def nmOne (nm : List Bool) (c : Chg) : List Bool := nm.set c.1.toNat true
def nmF (nm : List Bool) (l : List Chg) : List Bool := l.foldl nmOne nm
theorem nmF_len (l : List Chg) : ∀ nm : List Bool, (nmF nm l).length = nm.length := by
  induction l with
  | nil => intro nm; rfl
  | cons c r ih => intro nm; show (nmF (nmOne nm c) r).length = _; rw [ih]; unfold nmOne; rw [List.length_set]
theorem nmF_snoc (nm : List Bool) (l : List Chg) (c : Chg) : nmF nm (l ++ [c]) = nmOne (nmF nm l) c := by unfold nmF; rw [List.foldl_append]; rfl
section
variable {w0 W : World} {F : List HP} {gx gr : Nat} {a b ep : Int} {pages : List (List Int)} {nm : List Bool} {used seq : Nat}
theorem rstb_open (h : Sep w0 W (RStB gx gr a b ep pages nm used seq :: F)) : (nm.length = pages.length ∧ 0 < pages.length ∧ pages.length ≤ 64) ∧ ∃ gp cp gn cn, Sep w0 W (Blk gx 87 #[.pointer (some ⟨gr, 0, none⟩), .int .i64 a, .int .i64 b, .int .u32 ep, .slice (some ⟨gp, 0, none⟩) pages.length cp, .slice (some ⟨gn, 0, none⟩) pages.length cn, .int .i64 (used : Int), .int .u32 (seq : Int)] :: RowV KP 24 (.slice (some ⟨gp, 0, none⟩) pages.length cp) pages :: Row BK 4 (.slice (some ⟨gn, 0, none⟩) pages.length cn) nm :: F) := by
  obtain ⟨⟨v0, v1⟩, h1⟩ := h.ex
  obtain ⟨hp, h2⟩ := h1.star.pu
  obtain ⟨A, c, e0⟩ := Sep.rowVN h2.at2 (n := pages.length) rfl
  simp only at e0
  subst e0
  obtain ⟨gp, rfl⟩ := h2.at2.rowVForm hp.2.1
  obtain ⟨gn, cn, e1⟩ := h2.at3.rowFormN (n := pages.length) hp.1 hp.2.1
  simp only at e1
  subst e1
  exact ⟨hp, gp, c, gn, cn, h2⟩
theorem rstb_shut {v0 v1 : Value} (hp : nm.length = pages.length ∧ 0 < pages.length ∧ pages.length ≤ 64) (h : Sep w0 W (Blk gx 87 #[.pointer (some ⟨gr, 0, none⟩), .int .i64 a, .int .i64 b, .int .u32 ep, v0, v1, .int .i64 (used : Int), .int .u32 (seq : Int)] :: RowV KP 24 v0 pages :: Row BK 4 v1 nm :: F)) : Sep w0 W (RStB gx gr a b ep pages nm used seq :: F) :=
  Sep.unex (v0, v1) (Sep.unstar (Sep.unpu hp h))
set_option maxHeartbeats 1600000 in
set_option maxRecDepth 100000 in
theorem rapply_ (h : Sep w0 W (RStB gx gr a b ep pages nm used seq :: F)) {A2 : Option Addr} {n2 c2 : Nat} {l : List Chg} (hC : ∀ W', Sep w0 W' F → KC.C W' A2 n2 l) (hl : ∀ c ∈ l, 0 ≤ c.1 ∧ c.1 < (pages.length : Int) ∧ c.2.length ≤ 1000000) :
    Calls Tryz.prog 82 #[.pointer (some ⟨gx, 0, none⟩), .slice A2 n2 c2] W fun e w' => e = .returned (.tuple #[]) ∧ Sep w0 w' (RStB gx gr a b ep (applyF pages l) (nmF nm l) used seq :: F) := by
  obtain ⟨hp, gp, cp, gn, cn, hs⟩ := rstb_open h
  have HC := Aside0.mk hC
  have HLL := Aside0.mk hl
  have HP := Aside0.mk hp
  have hC0 := hC W h.tail
  have hn2 := hC0.1
  have hn2m := hC0.2.1
  obtain ⟨N, hN⟩ : ∃ N, pages.length = N := ⟨_, rfl⟩
  rw [hN] at hs HP HLL
  have HN := Aside0.mk hN
  have B0 := Aside0.mk hs
  have HLN := Aside0.mk hn2
  clear h hs hC hl hp hC0 hN hn2
  go_enter Tryz.func82, Tryz.ntmps82
  go_wp2_with fail
  go_loopg [8] n2 (fun k_ p wr => ∃ j : Nat, p = .int .i64 (j : Int) ∧ j + k_ = n2 ∧ Sep w0 wr (Blk gx 87 #[.pointer (some ⟨gr, 0, none⟩), .int .i64 a, .int .i64 b, .int .u32 ep, .slice (some ⟨gp, 0, none⟩) N cp, .slice (some ⟨gn, 0, none⟩) N cn, .int .i64 (used : Int), .int .u32 (seq : Int)] :: RowV KP 24 (.slice (some ⟨gp, 0, none⟩) N cp) (applyF pages (l.take j)) :: Row BK 4 (.slice (some ⟨gn, 0, none⟩) N cn) (nmF nm (l.take j)) :: F))
  case atStart => exact ⟨0, rfl, by omega, B0.out⟩
  case round =>
    obtain ⟨j, rfl, hjk, hS⟩ := hrel
    obtain ⟨w5, rfl⟩ : ∃ x, x = wr := ⟨_, rfl⟩
    have AK := Aside0.mk hjk
    have AS := Aside0.mk hS
    clear hS
    by_cases cj : j < n2
    case neg =>
      obtain rfl : j = n2 := by omega
      have hjl : ¬ (j : Int) < (j : Int) := by omega
      clear hjk cj
      go_wp2_with fail
      go_end0
      have h9 := AS.out
      rw [List.take_of_length_le (by rw [HLN.out]; exact Nat.le_refl _)] at h9
      exact ⟨rfl, rstb_shut ⟨by rw [nmF_len, applyF_len]; have := HP.out.1; have := HN.out; omega, by rw [applyF_len, HN.out]; exact HP.out.2.1, by rw [applyF_len, HN.out]; exact HP.out.2.2⟩ h9⟩
    case pos =>
    have hjl : (j : Int) < (n2 : Int) := by omega
    obtain ⟨hx, ad, B, cB, rfl, e0, e1, e2, e3⟩ := elem2_ (HC.out _ AS.out.tail.tail.tail) cj
    have hcl := HLL.out _ (List.getElem_mem hx)
    have HT : Aside0 (applyF pages (l.take (j + 1)) = applyOne (applyF pages (l.take j)) l[j] ∧ nmF nm (l.take (j + 1)) = nmOne (nmF nm (l.take j)) l[j]) := ⟨by rw [take_one hx, applyF_snoc, nmF_snoc]; exact ⟨rfl, rfl⟩⟩
    obtain ⟨pg, bs, hx2⟩ : ∃ pg bs, l[j] = (pg, bs) := ⟨_, _, rfl⟩
    rw [hx2] at e0 e1 e2 e3 hcl HT
    obtain ⟨p, rfl⟩ : ∃ p : Nat, pg = (p : Int) := Int.eq_ofNat_of_zero_le hcl.1
    have hpN : p < N := by have := hcl.2.1; omega
    obtain ⟨bn, hbn⟩ : ∃ bn, bs.length = bn := ⟨_, rfl⟩
    have z0 : w5.cell? (ad.add (j * 2)) = some (.int .i64 (p : Int)) := e0
    have z1 : w5.cell? ⟨(ad.add (j * 2)).block, (ad.add (j * 2)).off + 1, none⟩ = some (.slice B bn cB) := by rw [← hbn]; exact e1
    have HE : Aside0 (bn ≤ cB ∧ (Kd.int .u8).C w5 B bn bs) := ⟨by rw [← hbn]; exact ⟨e2, e3⟩⟩
    have HBN : Aside0 (bn ≤ 1000000 ∧ bs.length = bn) := ⟨by rw [← hbn]; exact ⟨hcl.2.2, rfl⟩⟩
    obtain ⟨qs, hqs⟩ : ∃ qs, applyF pages (l.take j) = qs := ⟨_, rfl⟩
    obtain ⟨ms, hms⟩ : ∃ ms, nmF nm (l.take j) = ms := ⟨_, rfl⟩
    rw [hqs, hms] at AS HT
    have HO : Aside0 (applyOne qs ((p : Int), bs) = qs.set p bs ∧ nmOne ms ((p : Int), bs) = ms.set p true) := ⟨by
      have hql : qs.length = N := by rw [← hqs, applyF_len]; exact HN.out
      unfold applyOne nmOne
      rw [if_pos ⟨hcl.1, by rw [hql]; exact hcl.2.1⟩, Int.toNat_natCast]
      exact ⟨rfl, rfl⟩⟩
    obtain ⟨gc, hgc⟩ : ∃ x, w5.heap.size = x := ⟨_, rfl⟩
    have BC := Aside0.mk (AS.out.newBlk 75 #[.int .i64 (p : Int), .slice B bn cB])
    rw [hgc] at BC
    have BD := Aside0.mk BC.out.drew
    have hpi : (p : Int) < (N : Int) := by omega
    clear hjk cj e0 e1 e2 e3 hcl hx2 hbn hqs hms
    have S0 := Aside0.mk ((Sep.start w5).newBlk 75 #[.int .i64 (p : Int), .slice B bn cB]).drew
    go_wp2_with fail
    obtain ⟨W2, hW2⟩ : ∃ x, w5.alloc (.cells #[.int .i64 (p : Int), .slice B bn cB] 75) = x := ⟨_, rfl⟩
    rw [hW2] at BD S0 ⊢
    clear hgc hW2
    refine start_ (n := 12) (S := fun w' => w'.cell? ⟨gx, 4, none⟩ = some (.slice (some ⟨gp, 0, none⟩) N cp) ∧ w'.cell? ⟨gc, 0, none⟩ = some (.int .i64 (p : Int)) ∧ w'.cell? ⟨gc, 1, none⟩ = some (.slice B bn cB)) (ds := [11]) #[Z,Z,Z,Z,Z,Z,Z,Z,Z,Z,Z,Z] (by kernel_rfl) rfl rfl ⟨(BD.out.at2.cell 4).trans rfl, (BD.out.cell 0).trans rfl, (BD.out.cell 1).trans rfl⟩ (fun hHeld => ?_)
    refine pu_ 0 12 ?_ #[J,Z,Z,Z,Z,Z,Z,Z,Z,Z,Z,Z] rfl rfl ?_ ?_ ?_ ?_
    rotate_left
    · intro w'
      go_simp
      with_reducible rfl
    rotate_left
    · simp only [aP]
      rfl
    refine pu_ 1 13 ?_ #[J,J,Z,Z,Z,Z,Z,Z,Z,Z,Z,Z] rfl rfl ?_ ?_ ?_ ?_
    rotate_left
    · intro w'
      go_simp
      with_reducible rfl
    rotate_left
    · simp only [aP]
      rfl
    refine pu_ 2 14 ?_ #[J,J,J,Z,Z,Z,Z,Z,Z,Z,Z,Z] rfl rfl ?_ ?_ ?_ ?_
    rotate_left
    · intro w'
      go_simp
      with_reducible rfl
    rotate_left
    · simp only [aP]
      rfl
    refine pu_ 4 16 ?_ #[J,J,J,Z,J,Z,Z,Z,Z,Z,Z,Z] rfl rfl ?_ ?_ ?_ ?_
    rotate_left
    · intro w'
      go_simp
      with_reducible rfl
    rotate_left
    · simp only [aP]
      rfl
    refine pu_ 7 19 ?_ #[J,J,J,Z,J,Z,Z,J,Z,Z,Z,Z] rfl rfl ?_ ?_ ?_ ?_
    rotate_left
    · intro w'
      go_simp
      with_reducible rfl
    rotate_left
    · simp only [aP]
      rfl
    refine ta_ 3 15 ?_ #[J,J,J,J,J,Z,Z,J,Z,Z,Z,Z] rfl rfl ?_ hHeld ?_ ?_ ?_
    rotate_left
    · rintro w' ⟨s0, s1, s2⟩
      go_simp
      with_reducible rfl
    rotate_left
    · simp only [aP]
      rfl
    refine ta_ 5 17 ?_ #[J,J,J,J,J,J,Z,J,Z,Z,Z,Z] rfl rfl ?_ hHeld ?_ ?_ ?_
    rotate_left
    · rintro w' ⟨s0, s1, s2⟩
      go_simp
      with_reducible rfl
    rotate_left
    · simp only [aP]
      rfl
    refine ta_ 8 20 ?_ #[J,J,J,J,J,J,Z,J,J,Z,Z,Z] rfl rfl ?_ hHeld ?_ ?_ ?_
    rotate_left
    · rintro w' ⟨s0, s1, s2⟩
      go_simp
      with_reducible rfl
    rotate_left
    · simp only [aP]
      rfl
    refine one_ (i := 6) (N := some 18) #[J,J,J,J,J,J,J,J,J,Z,Z,Z] rfl rfl (by kernel_rfl) (by decide) (fun K hK => ?_)
    refine value_ (w1 := ?_) (v := ?_) (by rfl) rfl ?_ ?_
    rotate_left 2
    · go_simp
      constructor
      · rfl
      · rfl
    have B6 : Aside0 (Sep w0 _ (Row (Kd.int .u8) 5 (.slice (some ⟨W2.heap.size, 0, none⟩) 0 0) [] :: _)) := ⟨BD.out.litRow (enc := Value.int .u8) (h1 := fun _ => rfl) (e := 5) [] (by decide)⟩
    have S6 := Aside0.mk (S0.out.litRow (enc := Value.int .u8) (h1 := fun _ => rfl) (e := 5) [] (by decide))
    refine hK.out _ _ ⟨(B6.out.at3.cell 4).trans rfl, (B6.out.at2.cell 0).trans rfl, (B6.out.at2.cell 1).trans rfl⟩ (fun hHeld => ?_)
    clear hK K
    refine norm_ (a' := ?_) ?_ ?_
    rotate_left
    · show Act.put _ (some 18) _ = _
      simp only [aP]
      rfl
    refine one_ (i := 9) (N := some 21) #[J,J,J,J,J,J,J,J,J,J,Z,Z] rfl rfl (by kernel_rfl) (by decide) (fun K hK => ?_)
    refine B6.out.appendStep (by rfl) (.tmp 18) (.tmp 20) 24 (.int .u8 0) 1 rfl Tryz.underlying24 Base.infoB rfl (by decide) B bn cB (by rfl) (by rfl) (Kd.C_below HE.out.2 S6.out.toBelow) (by have := HBN.out; simp only [List.length_nil]; omega) ?_
    intro v9 w9 hS9
    rw [List.nil_append] at hS9
    obtain ⟨A9, c9, rfl⟩ := hS9.rowN HBN.out.2
    have B9 := Aside0.mk hS9.clSlice
    obtain ⟨ux, f5, f6⟩ := B9.out.at4.rowVFrozen (i := p) hpN
    clear hS9
    refine hK.out _ _ ⟨(B9.out.at3.cell 4).trans rfl, (B9.out.at2.cell 0).trans rfl, (B9.out.at2.cell 1).trans rfl⟩ (fun hHeld => ?_)
    clear hK K
    refine norm_ (a' := ?_) ?_ ?_
    rotate_left
    · show Act.put _ (some 21) _ = _
      simp only [aP]
      rfl
    refine pu_ 10 22 ?_ #[J,J,J,J,J,J,J,J,J,J,J,Z] rfl rfl ?_ ?_ ?_ ?_
    rotate_left
    · intro w'
      go_simp
      with_reducible rfl
    rotate_left
    · simp only [aP]
      rfl
    refine last_ (i := 11) (N := none) #[J,J,J,J,J,J,J,J,J,J,J,J] rfl rfl (by kernel_rfl) (by decide) (fun K hK => ?_)
    refine skip_ (w1 := ?_) (by rfl) rfl ?_ ?_
    rotate_left
    · go_simp
      rfl
    refine hK.out _ _ ?_
    clear hK K
    refine done_ (by kernel_rfl) ?_
    have B11' := B9.out.at4.putV (i := p) (cl := ⟨.slice A9 bn c9, rfl⟩)
    obtain ⟨w11, hw11⟩ : ∃ x, w9.setCell ⟨gp, p, none⟩ (.slice A9 bn c9) = x := ⟨_, rfl⟩
    have B11 : Aside0 (Sep w0 w11 _) := ⟨by have h_ := B11'; rw [show w9.setCell ⟨gp, p, none⟩ (⟨.slice A9 bn c9, rfl⟩ : OV).1 = w11 from hw11] at h_; exact h_⟩
    rw [hw11]
    have BD2 := Aside0.mk B11.out.drew
    obtain ⟨f7, f8⟩ := BD2.out.at4.rowCell (enc := Value.bool) false p hpN
    clear hw11 B11' f5 f6
    go_wp2_with fail
    refine start_ (n := 8) (S := fun w' => w'.cell? ⟨gx, 5, none⟩ = some (.slice (some ⟨gn, 0, none⟩) N cn) ∧ w'.cell? ⟨gc, 0, none⟩ = some (.int .i64 (p : Int))) (ds := [7]) #[Z,Z,Z,Z,Z,Z,Z,Z] (by kernel_rfl) rfl rfl ⟨(BD2.out.at3.cell 5).trans rfl, (BD2.out.at2.cell 0).trans rfl⟩ (fun hHeld => ?_)
    refine pu_ 0 23 ?_ #[J,Z,Z,Z,Z,Z,Z,Z] rfl rfl ?_ ?_ ?_ ?_
    rotate_left
    · intro w'
      go_simp
      with_reducible rfl
    rotate_left
    · simp only [aP]
      rfl
    refine pu_ 1 24 ?_ #[J,J,Z,Z,Z,Z,Z,Z] rfl rfl ?_ ?_ ?_ ?_
    rotate_left
    · intro w'
      go_simp
      with_reducible rfl
    rotate_left
    · simp only [aP]
      rfl
    refine pu_ 2 25 ?_ #[J,J,J,Z,Z,Z,Z,Z] rfl rfl ?_ ?_ ?_ ?_
    rotate_left
    · intro w'
      go_simp
      with_reducible rfl
    rotate_left
    · simp only [aP]
      rfl
    refine pu_ 4 27 ?_ #[J,J,J,Z,J,Z,Z,Z] rfl rfl ?_ ?_ ?_ ?_
    rotate_left
    · intro w'
      go_simp
      with_reducible rfl
    rotate_left
    · simp only [aP]
      rfl
    refine ta_ 3 26 ?_ #[J,J,J,J,J,Z,Z,Z] rfl rfl ?_ hHeld ?_ ?_ ?_
    rotate_left
    · rintro w' ⟨s0, s1⟩
      go_simp
      with_reducible rfl
    rotate_left
    · simp only [aP]
      rfl
    refine ta_ 5 28 ?_ #[J,J,J,J,J,J,Z,Z] rfl rfl ?_ hHeld ?_ ?_ ?_
    rotate_left
    · rintro w' ⟨s0, s1⟩
      go_simp
      with_reducible rfl
    rotate_left
    · simp only [aP]
      rfl
    refine pu_ 6 29 ?_ #[J,J,J,J,J,J,J,Z] rfl rfl ?_ ?_ ?_ ?_
    rotate_left
    · intro w'
      go_simp
      with_reducible rfl
    rotate_left
    · simp only [aP]
      rfl
    refine last_ (i := 7) (N := none) #[J,J,J,J,J,J,J,J] rfl rfl (by kernel_rfl) (by decide) (fun K hK => ?_)
    refine skip_ (w1 := ?_) (by rfl) rfl ?_ ?_
    rotate_left
    · go_simp
      rfl
    refine hK.out _ _ ?_
    clear hK K
    refine done_ (by kernel_rfl) ?_
    have B12 := Aside0.mk ((BD2.out.at4.putRow (enc := Value.bool) p true))
    go_wp2_with fail
    go_roundg (gk - 1)
    case measure => have := AK.out; omega
    case rel => exact ⟨j + 1, by go_num, by have := AK.out; omega, by rw [HT.out.1, HT.out.2, HO.out.1, HO.out.2]; exact B12.out.at3.tail.at2.at3.at3.to3⟩
end
end Go.Proofs.YtjngnigelkgekaaGreat.RStore
namespace Go.Proofs.YtjngnigelkgekaaGreat.Book
open Go.RowKit Go.Proofs.YtjngnigelkgekaaGreatW.PrintWords Go.Proofs.YtjngnigelkgekaaGreatW.PrintLast Go.Proofs.YtjngnigelkgekaaGreatW.PrintMore Go.Proofs.YtjngnigelkgekaaGreat.Kit
theorem rd_eq {xs : List Int} {j : Nat} (h : j < xs.length) : rd xs (j : Int) = xs[j] := by
  unfold rd
  rw [Int.toNat_natCast, List.getD_eq_getElem?_getD, List.getElem?_eq_getElem h]
  rfl
set_option maxHeartbeats 800000 in
set_option maxRecDepth 100000 in
theorem sameI_ {A B : Option Addr} {n c m d : Nat} {xs ys : List Int} {w : World} (h1 : (Kd.int .i64).C w A n xs) (h2 : (Kd.int .i64).C w B m ys) :
    Calls Tryz.prog 91 #[.slice A n c, .slice B m d] w fun e w' => e = .returned (.bool (decide (xs = ys))) ∧ Below w.heap.size w w' := by
  obtain rfl : xs.length = n := h1.1
  obtain rfl : ys.length = m := h2.1
  have hm1 : xs.length ≤ 9223372036854775807 := h1.2.1
  have hm2 : ys.length ≤ 9223372036854775807 := h2.2.1
  have H1 := Aside0.mk h1
  have H2 := Aside0.mk h2
  clear h1 h2
  by_cases hl : xs.length = ys.length
  · have hl' : (xs.length : Int) = (ys.length : Int) := by omega
    go_enter Tryz.func91, Tryz.ntmps91
    go_wp2_with fail
    go_loopg [5] xs.length (fun k p wr => ∃ j : Nat, p = .int .i64 (j : Int) ∧ j + k = xs.length ∧ Below w.heap.size w wr ∧ ∀ i, i < j → xs[i]? = ys[i]?)
    case atStart => exact ⟨0, rfl, by omega, Below.refl _ _, fun i hi => by omega⟩
    case round =>
      obtain ⟨j, rfl, hjk, hB, hp⟩ := hrel
      have AB := Aside0.mk hB
      have AP := Aside0.mk hp
      have AK := Aside0.mk hjk
      clear hB hp
      by_cases hj : j < xs.length
      · clear hjk
        obtain ⟨ad, hA, hc⟩ := Kd.at_int (Kd.C_below H1.out AB.out) (j : Int) (by omega) (by omega)
        obtain ⟨bd, hB, hd⟩ := Kd.at_int (Kd.C_below H2.out AB.out) (j : Int) (by omega) (by omega)
        subst hA hB
        rw [Int.toNat_natCast] at hc hd
        have AR : Aside0 (rd xs (j : Int) = xs[j]) := ⟨rd_eq hj⟩
        have AS : Aside0 (rd ys (j : Int) = ys[j]) := ⟨rd_eq (by omega)⟩
        generalize rd xs (j : Int) = x at *
        generalize rd ys (j : Int) = y at *
        by_cases hxy : x = y
        · go_wp2_with fail
          go_quiet (fail)
          go_wp2_with fail
          go_roundg (gk - 1)
          case measure => have := AK.out; omega
          case rel => exact ⟨j + 1, by go_num, by have := AK.out; omega, pw_below_drewN AB.out _, fun i hi => by
            by_cases hij : i < j
            · exact AP.out i hij
            · obtain rfl : i = j := by omega
              rw [List.getElem?_eq_getElem hj, List.getElem?_eq_getElem (by omega), ← AR.out, ← AS.out, hxy]⟩
        · have hne : xs ≠ ys := fun h => hxy (by rw [AR.out, AS.out]; exact List.getElem_of_eq h hj)
          have ANE := Aside0.mk hne
          have hb : (x != y) = true := by simpa using hxy
          clear hne
          go_wp2_with fail
          go_quiet (fail)
          go_wp2_with fail
          go_ret
          exact ⟨by rw [decide_eq_false ANE.out]; rfl, pw_below_drewN AB.out _⟩
      · have hq : xs = ys := List.ext_getElem? (fun i => by
          by_cases hi : i < j
          · exact AP.out i hi
          · rw [List.getElem?_eq_none (by omega), List.getElem?_eq_none (by omega)])
        have AQ := Aside0.mk hq
        clear hq hjk
        go_wp2_with fail
        go_ret
        exact ⟨by rw [decide_eq_true AQ.out]; rfl, AB.out⟩
  · have hne : xs ≠ ys := fun h => hl (by rw [h])
    have ANE := Aside0.mk hne
    have hl' : ¬ (xs.length : Int) = (ys.length : Int) := by omega
    clear hne
    go_enter Tryz.func91, Tryz.ntmps91
    go_wp2_with fail
    go_ret
    exact ⟨by rw [decide_eq_false ANE.out]; rfl, Below.refl _ _⟩
end Go.Proofs.YtjngnigelkgekaaGreat.Book
namespace Go.Proofs.YtjngnigelkgekaaGreat.Kit.Sep
open Go.Proofs.YtjngnigelkgekaaGreat.Kit
theorem rot24 {w0 W : World} {a b c d e f : HP} {F : List HP} (h : Sep w0 W (a :: b :: c :: d :: e :: f :: F)) : Sep w0 W (c :: d :: e :: f :: a :: b :: F) :=
  h.perm ((List.perm_append_comm (l₁ := [a, b]) (l₂ := [c, d, e, f])).append_right F)
end Go.Proofs.YtjngnigelkgekaaGreat.Kit.Sep
namespace Go.Proofs.YtjngnigelkgekaaGreat.Ref
open Go.RowKit Go.Proofs.YtjngnigelkgekaaGreatW.PrintWords Go.Proofs.YtjngnigelkgekaaGreatW.PrintLast Go.Proofs.YtjngnigelkgekaaGreatW.PrintMore Go.Proofs.YtjngnigelkgekaaGreat.Kit Go.Proofs.YtjngnigelkgekaaGreat.Disk
section
variable {w0 W : World} {g gr n : Nat} {las : List Int} {left done : Int} {F : List HP} {wt : Wt}
theorem bsame_ {A B : Option Addr} {k m c d : Nat} {xs : List Int} {w : World} (h1 : I64.C w A k xs) (h2 : I64.C w B m xs) :
    Calls Tryz.prog 91 #[.slice A k c, .slice B m d] w fun e w' => e = .returned (.bool true) ∧ Below w.heap.size w w' := by
  refine (Book.sameI_ h1 h2).mono ?_
  rintro e w' ⟨rfl, hb⟩
  exact ⟨by rw [decide_eq_true rfl], hb⟩
theorem rwaits_ (h : Sep w0 W (RD gr n las (flushed las wt) (waitL n wt) left done :: F)) (hl : las.length = 64 * n) :
    Calls Tryz.prog 59 #[.pointer (some ⟨gr, 0, none⟩)] W fun e w' => ∃ v, e = .returned v ∧ Sep w0 w' (Row I64 3 v (keysI las wt) :: RD gr n las (flushed las wt) (waitL n wt) left done :: F) := by
  refine (waits_ h).mono ?_
  rintro e w' ⟨v, rfl, hS⟩
  rw [waits_keys] at hS
  refine ⟨v, rfl, ?_⟩
  unfold keysI
  rwa [show las.length / 64 = n by omega]
end
end Go.Proofs.YtjngnigelkgekaaGreat.Ref
namespace Go.Proofs.YtjngnigelkgekaaGreat.Ref
open Go.RowKit Go.Proofs.YtjngnigelkgekaaGreatW.PrintWords Go.Proofs.YtjngnigelkgekaaGreatW.PrintLast Go.Proofs.YtjngnigelkgekaaGreatW.PrintMore Go.Proofs.YtjngnigelkgekaaGreat.Kit Go.Proofs.YtjngnigelkgekaaGreat.Disk
section
variable {w0 W : World} {g gr n : Nat} {las : List Int} {done : Nat} {F : List HP} {wt : Wt}
theorem rflush_ (h : Sep w0 W (RD gr n las (flushed las wt) (waitL n wt) (-1) (done : Int) :: F)) (hl : las.length = 64 * n) (hw : ∀ i b, wt i = some b → b.length = 64) (hd : done ≤ 1000000) :
    Calls Tryz.prog 44 #[.pointer (some ⟨gr, 0, none⟩)] W fun e w' => e = .returned (.tuple #[]) ∧ Sep w0 w' (RD gr n (flushed las wt) (flushed (flushed las wt) (fun _ => none)) (waitL n (fun _ => none)) (-1) ((done + 1 : Nat) : Int) :: F) := by
  refine (flush_in h (by decide) (by decide) (by omega)).mono ?_
  rintro e w' ⟨rfl, hS⟩
  refine ⟨rfl, ?_⟩
  rw [flushed_none (flushed_len hl hw), waitL_none]
  exact hS
theorem rwrite_ (h : Sep w0 W (RD gr n las (flushed las wt) (waitL n wt) (-1) (done : Int) :: F)) (hl : las.length = 64 * n) (hw : ∀ i b, wt i = some b → b.length = 64) (hd : done ≤ 1000000) (i : Nat) (hi : i < n) {A : Option Addr} {c : Nat} {b : List Int} (hb : ∀ W', Sep w0 W' F → U8.C W' A 64 b) :
    Calls Tryz.prog 79 #[.pointer (some ⟨gr, 0, none⟩), .int .i64 (i : Int), .slice A 64 c] W fun e w' => e = .returned (.bool true) ∧ Sep w0 w' (RD gr n las (flushed las (fun j => if j = i then some b else wt j)) (waitL n (fun j => if j = i then some b else wt j)) (-1) ((done + 1 : Nat) : Int) :: F) := by
  refine (write_in h (by decide) (by decide) (by omega) i hi hb).mono ?_
  rintro e w' ⟨rfl, hS⟩
  refine ⟨rfl, ?_⟩
  rw [← flushed_write hl hw hi (hb W h.tail).1, ← waitL_set wt i b]
  exact hS
theorem rcrash_ {A : Option Addr} {m c : Nat} {cuts : List Int} (h : Sep w0 W (RD gr n las (flushed las wt) (waitL n wt) (-1) (done : Int) :: F)) (hl : las.length = 64 * n) (hw : ∀ i b, wt i = some b → b.length = 64) (hcu : ∀ W', Sep w0 W' F → I64.C W' A m cuts) :
    Calls Tryz.prog 19 #[.pointer (some ⟨gr, 0, none⟩), .slice A m c] W fun e w' => e = .returned (.int .i64 ((keysOf (las.length / 64) wt).length : Int)) ∧ Sep w0 w' (RD gr n (crashed las wt cuts) (flushed (crashed las wt cuts) (fun _ => none)) (waitL n (fun _ => none)) (-1) (done : Int) :: F) := by
  refine (crash_ h hw hcu).mono ?_
  rintro e w' ⟨rfl, hS⟩
  rw [show las.length / 64 = n by omega]
  refine ⟨rfl, ?_⟩
  have hcl : (crashed las wt cuts).length = 64 * n := by
    unfold crashed
    rw [show las.length / 64 = n by omega]
    exact secs_len (cutS_len hl hw)
  rw [flushed_none hcl, waitL_none]
  exact hS
theorem rread_ {left dn : Int} (h : Sep w0 W (RD gr n las (flushed las wt) (waitL n wt) left dn :: F)) (hl : las.length = 64 * n) (hw : ∀ i b, wt i = some b → b.length = 64) (i : Nat) (hi : i < n) :
    Calls Tryz.prog 109 #[.pointer (some ⟨gr, 0, none⟩), .int .i64 (i : Int)] W fun e w' => ∃ v, e = .returned (.tuple #[v, .bool true]) ∧ Sep w0 w' (Row U8 5 v ((wt i).getD (sec las i)) :: RD gr n las (flushed las wt) (waitL n wt) left dn :: F) := by
  refine (read_in h i hi).mono ?_
  rintro e w' ⟨v, rfl, hS⟩
  rw [sec_flushed hl hw hi] at hS
  exact ⟨v, rfl, hS⟩
theorem got_len (hl : las.length = 64 * n) (hw : ∀ i b, wt i = some b → b.length = 64) {i : Nat} (hi : i < n) : ((wt i).getD (sec las i)).length = 64 := by
  cases h : wt i with
  | none => exact sec_len (by omega)
  | some b => exact hw i b h
theorem upd_len {i : Nat} {b : List Int} (hw : ∀ i b, wt i = some b → b.length = 64) (hb : b.length = 64) : ∀ k c, (fun j => if j = i then some b else wt j) k = some c → c.length = 64 := fun k c h => by
  by_cases hki : k = i
  · simp only [if_pos hki] at h; injection h with h; rw [← h]; exact hb
  · simp only [if_neg hki] at h; exact hw k c h
theorem none_len : ∀ (i : Nat) (b : List Int), (fun _ => none : Wt) i = some b → b.length = 64 := fun i b h => by cases h
end
end Go.Proofs.YtjngnigelkgekaaGreat.Ref
namespace Go.Proofs.YtjngnigelkgekaaGreat.Str
open Go.RowKit Go.Proofs.YtjngnigelkgekaaGreatW.PrintWords Go.Proofs.YtjngnigelkgekaaGreatW.PrintLast Go.Proofs.YtjngnigelkgekaaGreatW.PrintMore Go.Proofs.YtjngnigelkgekaaGreat.Kit Go.Proofs.YtjngnigelkgekaaGreat.Plain
abbrev U8 : Kd Int := Kd.int .u8
theorem strC {W : World} {A : Option Addr} {n c : Nat} {xs : List Int} (h : U8.C W A n xs) : (convert 24 9 (.slice A n c)).run Tryz.prog W = .ok (.string (strOfNums xs)) W := by
  obtain rfl : xs.length = n := h.1
  exact Kd.C_string (P := Tryz.prog) (c := c) Tryz.underlying24 Tryz.underlying5 Tryz.underlying9 h
theorem beq_str (a b : ByteArray) : (a.toList == b.toList) = decide (a = b) := by
  rw [ByteArray.toList_eq, ByteArray.toList_eq]
  by_cases h : a = b
  · subst h; simp
  · rw [decide_eq_false h]
    exact beq_eq_false_iff_ne.2 (fun h2 => h (ByteArray.ext (by rw [← Array.toList_inj]; exact h2)))
theorem str_inj {xs ys : List Int} (hx : Bytes xs) (hy : Bytes ys) (h : strOfNums xs = strOfNums ys) : xs = ys := by
  have h2 : (strOfNums xs).data.toList = (strOfNums ys).data.toList := by rw [h]
  rw [strOfNums_data, strOfNums_data] at h2
  have hl : xs.length = ys.length := by simpa using congrArg List.length h2
  apply List.ext_getElem hl
  intro i h3 h4
  have h5 : (xs.map fun n => UInt8.ofNat n.toNat)[i]? = (ys.map fun n => UInt8.ofNat n.toNat)[i]? := by rw [h2]
  rw [List.getElem?_map, List.getElem?_map, List.getElem?_eq_getElem h3, List.getElem?_eq_getElem h4, Option.map_some, Option.map_some, Option.some.injEq] at h5
  have a1 := hx xs[i] (List.getElem_mem h3)
  have a2 := hy ys[i] (List.getElem_mem h4)
  have h6 := congrArg UInt8.toNat h5
  rw [UInt8.toNat_ofNat', UInt8.toNat_ofNat'] at h6
  omega
theorem beq_bytes {xs ys : List Int} (hx : Bytes xs) (hy : Bytes ys) : ((strOfNums xs).toList == (strOfNums ys).toList) = decide (xs = ys) := by
  rw [beq_str]
  by_cases h : xs = ys
  · subst h; simp
  · rw [decide_eq_false h, decide_eq_false (fun e => h (str_inj hx hy e))]
end Go.Proofs.YtjngnigelkgekaaGreat.Str
