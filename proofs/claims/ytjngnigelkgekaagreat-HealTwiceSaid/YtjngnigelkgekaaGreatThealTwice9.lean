/- Ref5, Same, Ref6, Play, Root6: what HealTwice needs. -/
import Derived.Test.YtjngnigelkgekaaGreatThealTwice8
import Derived.Deep.Cut
import Derived.Deep.CutRange
import Derived.Deep.QuietTactic
set_option linter.unusedVariables false
set_option linter.unusedSimpArgs false
namespace Go.Proofs.YtjngnigelkgekaaGreat.Ref
open Go.RowKit Go.Proofs.YtjngnigelkgekaaGreatW.PrintWords Go.Proofs.YtjngnigelkgekaaGreatW.PrintLast Go.Proofs.YtjngnigelkgekaaGreatW.PrintMore Go.Proofs.YtjngnigelkgekaaGreat.Kit Go.Proofs.YtjngnigelkgekaaGreat.Disk
def waitL (n : Nat) (wt : Wt) : List Bool := (List.range n).map (fun i => (wt i).isSome)
theorem waitL_getD {n i : Nat} (wt : Wt) (hi : i < n) : (waitL n wt).getD i false = (wt i).isSome := by
  unfold waitL
  rw [List.getD_eq_getElem?_getD, List.getElem?_map, List.getElem?_range hi]
  rfl
theorem waitL_none (n : Nat) : waitL n (fun _ => none) = List.replicate n false := by
  apply List.ext_getElem?
  intro i
  unfold waitL
  by_cases hi : i < n
  · rw [List.getElem?_map, List.getElem?_range hi, List.getElem?_replicate, if_pos hi]; rfl
  · rw [List.getElem?_eq_none (by simp; omega), List.getElem?_eq_none (by simp; omega)]
theorem waitL_set {n : Nat} (wt : Wt) (i : Nat) (b : List Int) : (waitL n wt).set i true = waitL n (fun j => if j = i then some b else wt j) := by
  apply List.ext_getElem?
  intro j
  unfold waitL
  rw [List.getElem?_set, List.getElem?_map, List.getElem?_map, List.length_map, List.length_range]
  by_cases hj : j < n
  · rw [List.getElem?_range hj]
    by_cases hij : i = j
    · subst hij; rw [if_pos rfl, if_pos hj]; simp
    · rw [if_neg hij]; simp [show ¬ j = i from fun h => hij h.symm]
  · rw [List.getElem?_eq_none (by simp; omega)]
    by_cases hij : i = j
    · subst hij; rw [if_pos rfl, if_neg hj]; rfl
    · rw [if_neg hij]; rfl
theorem waits_keys (n : Nat) (wt : Wt) : waitsI (waitL n wt) n = (keysOf n wt).map (fun k : Nat => (k : Int)) := by
  unfold waitsI keysOf
  congr 1
  refine List.filter_congr fun i hi => ?_
  exact waitL_getD wt (List.mem_range.1 hi)
theorem flushed_write {las : List Int} {wt : Wt} {n i : Nat} {b : List Int} (hl : las.length = 64 * n) (hw : ∀ i b, wt i = some b → b.length = 64) (hi : i < n) (hb : b.length = 64) :
    over (flushed las wt) (64 * i) b = flushed las (fun j => if j = i then some b else wt j) := by
  unfold flushed
  rw [show las.length / 64 = n by omega]
  have hs : ∀ k, k < n → ((wt k).getD (sec las k)).length = 64 := fun k hk => by
    cases h : wt k with
    | none => exact sec_len (by omega)
    | some c => exact hw k c h
  rw [over_secs hs hi (by omega)]
  refine secs_congr fun k hk => ?_
  by_cases hki : k = i
  · simp only [if_pos hki, Option.getD_some]
    rw [List.drop_eq_nil_of_le (by rw [hs k hk, hb]; exact Nat.le_refl _), List.append_nil]
  · simp only [if_neg hki]
theorem sec_flushed {las : List Int} {wt : Wt} {n i : Nat} (hl : las.length = 64 * n) (hw : ∀ i b, wt i = some b → b.length = 64) (hi : i < n) : sec (flushed las wt) i = (wt i).getD (sec las i) := by
  unfold flushed
  rw [show las.length / 64 = n by omega]
  refine sec_secs (fun k hk => ?_) hi
  cases h : wt k with
  | none => exact sec_len (by omega)
  | some c => exact hw k c h
theorem flushed_len {las : List Int} {wt : Wt} {n : Nat} (h : las.length = 64 * n) (hw : ∀ i b, wt i = some b → b.length = 64) : (flushed las wt).length = 64 * n := by
  unfold flushed
  rw [show las.length / 64 = n by omega]
  refine secs_len fun i hi => ?_
  cases hb : wt i with
  | none => exact sec_len (by omega)
  | some b => exact hw i b hb
theorem crashTo_len {las : List Int} {wt : Wt} {cuts : List Int} {n j : Nat} (h : las.length = 64 * n) (hw : ∀ i b, wt i = some b → b.length = 64) : (crashTo las wt cuts j).length = 64 * n := by
  unfold crashTo
  rw [show las.length / 64 = n by omega]
  refine secs_len fun i hi => ?_
  split
  · exact cutS_len h hw i hi
  · exact sec_len (by omega)
theorem take_sec (l : List Int) {i m : Nat} (hm : m ≤ 64) : (l.drop (64 * i)).take m = (sec l i).take m := by
  unfold sec
  rw [List.take_take, Nat.min_eq_left hm]
section
variable {w0 W : World} {g n : Nat} {las now : List Int} {wait : List Bool} {left done : Int} {F : List HP} {wt : Wt}
set_option maxHeartbeats 3200000 in
set_option maxRecDepth 100000 in
theorem crash_ {A : Option Addr} {m c : Nat} {cuts : List Int} (h : Sep w0 W (RD g n las (flushed las wt) (waitL n wt) left done :: F)) (hw : ∀ i b, wt i = some b → b.length = 64) (hcu : ∀ W', Sep w0 W' F → I64.C W' A m cuts) :
    Calls Tryz.prog 19 #[.pointer (some ⟨g, 0, none⟩), .slice A m c] W fun e w' => e = .returned (.int .i64 ((keysOf n wt).length : Int)) ∧ Sep w0 w' (RD g n (crashed las wt cuts) (crashed las wt cuts) (List.replicate n false) left done :: F) := by
  have H0 := Aside0.mk h
  have HCU := Aside0.mk hcu
  have HW := Aside0.mk hw
  have hmc : cuts.length = m := (hcu W h.tail).1
  have hm : m ≤ 9223372036854775807 := (hcu W h.tail).2.1
  have AMC := Aside0.mk hmc
  clear h hcu hw hmc
  go_enter Tryz.func19, Tryz.ntmps19
  go_wp2_with fail
  refine (waits_ H0.out).mono ?_
  rintro e w1 ⟨vk, rfl, hI⟩
  rw [waits_keys] at hI
  obtain ⟨ks, hks⟩ : ∃ ks, (keysOf n wt).map (fun k : Nat => (k : Int)) = ks := ⟨_, rfl⟩
  rw [hks] at hI
  obtain ⟨gl, cl, gn, cn, gw, cw, ⟨n1, n2, n3, n4, n5, n6, n7, n8⟩, hs⟩ := open_ hI.at2
  have hkl : ks.length = (keysOf n wt).length := by rw [← hks, List.length_map]
  have hkn : ks.length ≤ 160 := by have := keys_len_le wt n; omega
  obtain ⟨Ak, ck, rfl⟩ := hI.rowV
  have HKS := Aside0.mk hks
  have HKL := Aside0.mk hkl
  have A3 := Aside0.mk (And.intro n3 (And.intro n4 n5))
  have A1 : Aside0 (Sep w0 w1 (Row I64 3 (.slice Ak ks.length ck) ks :: Blk g 93 #[.slice (some ⟨gl, 0, none⟩) (64 * n) cl, .slice (some ⟨gn, 0, none⟩) (64 * n) cn, .slice (some ⟨gw, 0, none⟩) n cw, .int .i64 left, .int .i64 done] ::
      Row U8 5 (.slice (some ⟨gl, 0, none⟩) (64 * n) cl) (crashTo las wt cuts 0) :: Row U8 5 (.slice (some ⟨gn, 0, none⟩) (64 * n) cn) (flushed las wt) :: Row BK 4 (.slice (some ⟨gw, 0, none⟩) n cw) (waitL n wt) :: F)) := ⟨by rw [crashTo_zero n3]; exact hs.at5⟩
  clear hI hs n3 n4 n5 hks hkl
  go_wp2_with fail
  go_loopg [13] ks.length (fun k p wr => ∃ j : Nat, p = .int .i64 (j : Int) ∧ j + k = ks.length ∧ Sep w0 wr (Row I64 3 (.slice Ak ks.length ck) ks :: Blk g 93 #[.slice (some ⟨gl, 0, none⟩) (64 * n) cl, .slice (some ⟨gn, 0, none⟩) (64 * n) cn, .slice (some ⟨gw, 0, none⟩) n cw, .int .i64 left, .int .i64 done] ::
      Row U8 5 (.slice (some ⟨gl, 0, none⟩) (64 * n) cl) (crashTo las wt cuts j) :: Row U8 5 (.slice (some ⟨gn, 0, none⟩) (64 * n) cn) (flushed las wt) :: Row BK 4 (.slice (some ⟨gw, 0, none⟩) n cw) (waitL n wt) :: F))
  case atStart => exact ⟨0, rfl, by omega, A1.out⟩
  case round =>
    obtain ⟨j, rfl, hjk, hS⟩ := hrel
    have AR := Aside0.mk hS
    have AK := Aside0.mk hjk
    by_cases hj : j < ks.length
    · obtain ⟨bk, ck', hform⟩ := hS.rowForm (by omega)
      cases hform
      have hj' : j < (keysOf n wt).length := by rw [← HKL.out]; exact hj
      obtain ⟨i, hki⟩ : ∃ i, (keysOf n wt)[j]? = some i := ⟨_, List.getElem?_eq_getElem hj'⟩
      obtain ⟨k1, k2, k3⟩ := (keys_at wt _ j i).1 hki
      have hkv : ks.getD j 0 = (i : Int) := by rw [← HKS.out, List.getD_eq_getElem?_getD, List.getElem?_map, hki]; rfl
      have hkc : wr.cell? ⟨bk, j, none⟩ = some (.int .i64 (i : Int)) := by
        have := (hS.rowCell (0 : Int) j hj).1; rw [hkv] at this; exact this
      obtain ⟨b, hwb⟩ := Option.isSome_iff_exists.1 k2
      have hst := crashTo_step (cuts := cuts) A3.out.1 HW.out hki hwb
      have AST := Aside0.mk hst
      have HSEC : Aside0 (sec (flushed las wt) i = b) := ⟨by rw [sec_flushed A3.out.1 HW.out k1, hwb]; rfl⟩
      clear hS hjk hkv hki k2 k3 hwb hst hj'
      go_upto_if 21 with fail
      go_cut [8] from 14 to 47 (fun p wx => p = .int .i64 (cutN cuts j : Int) ∧ wx = wr)
      case first =>
        by_cases hjc : j < m
        · obtain ⟨ad, hA, hcc⟩ := Kd.at_int (HCU.out wr AR.out.tail.tail.tail.tail.tail) (j : Int) (by omega) (by omega)
          subst hA
          rw [Int.toNat_natCast] at hcc
          have hE := cut_is (cuts := cuts) (j := j) (by rw [AMC.out]; exact hjc)
          have hE2 : max (min (rd cuts (j : Int)) 64) 0 = (cutN cuts j : Int) := by rw [← hE]; repeat' split
                                                                                    all_goals omega
          have hE3 : max 0 (min (rd cuts (j : Int)) 64) = (cutN cuts j : Int) := by rw [← hE2]; exact Int.max_comm _ _
          generalize rd cuts (j : Int) = x at *
          clear hE
          go_wp2_with fail
          go_meet
          case rel => exact ⟨rfl, rfl⟩
        · have hz : cutN cuts j = 0 := by unfold cutN; rw [if_neg (by rw [AMC.out]; omega)]
          go_wp2_with fail
          go_meet
          case rel => exact ⟨by rw [hz]; rfl, rfl⟩
      case rest =>
        obtain ⟨rfl, rfl⟩ := hcut
        have M64 : cutN cuts j ≤ 64 := cutN_le cuts j
        generalize cutN cuts j = M at *
        have hlo := cutM_ (g := gl) (N := 64 * n) (c := cl) (j := 64 * i) (k := 64 * i + M) (J := (i : Int) * 64) (K := (i : Int) * 64 + (M : Int)) (by omega) (by omega) (by omega) (by omega) (by omega) n6
        have hfr := cutF_ (g := gn) (N := 64 * n) (c := cn) (j := 64 * i) (J := (i : Int) * 64) (by omega) (by omega) n7
        rw [Nat.add_sub_cancel_left] at hlo
        have c0 : wc.drew.cell? ⟨g, 0, none⟩ = some (.slice (some ⟨gl, 0, none⟩) (64 * n) cl) := (AR.out.drew.at2.cell 0).trans rfl
        have c1 : wc.drew.cell? ⟨g, 1, none⟩ = some (.slice (some ⟨gn, 0, none⟩) (64 * n) cn) := (AR.out.drew.at2.cell 1).trans rfl
        have AD := Aside0.mk AR.out.drew.at3
        go_wp2_with fail
        have hw1 : wrap64 ((i : Int) * 64) = (i : Int) * 64 := IntWalk.wrap64_in _ (by omega)
        have hw2 : wrap64 ((i : Int) * 64 + (M : Int)) = (i : Int) * 64 + (M : Int) := IntWalk.wrap64_in _ (by omega)
        refine start_ (n := 19) (S := fun w' => w'.cell? ⟨g, 0, none⟩ = some (.slice (some ⟨gl, 0, none⟩) (64 * n) cl) ∧ w'.cell? ⟨g, 1, none⟩ = some (.slice (some ⟨gn, 0, none⟩) (64 * n) cn)) (ds := [18]) #[fF,fF,fF,fF,fF,fF,fF,fF,fF,fF,fF,fF,fF,fF,fF,fF,fF,fF,fF] (by kernel_rfl) rfl rfl ⟨c0, c1⟩ (fun hHeld => ?_)
        refine pu_ 0 28 ?_ #[tT,fF,fF,fF,fF,fF,fF,fF,fF,fF,fF,fF,fF,fF,fF,fF,fF,fF,fF] rfl rfl ?_ ?_ ?_ ?_
        rotate_left
        · intro w'
          go_simp
          with_reducible rfl
        rotate_left
        · simp only [aP]
          rfl
        refine pu_ 1 29 ?_ #[tT,tT,fF,fF,fF,fF,fF,fF,fF,fF,fF,fF,fF,fF,fF,fF,fF,fF,fF] rfl rfl ?_ ?_ ?_ ?_
        rotate_left
        · intro w'
          go_simp
          with_reducible rfl
        rotate_left
        · simp only [aP]
          rfl
        refine pu_ 2 30 ?_ #[tT,tT,tT,fF,fF,fF,fF,fF,fF,fF,fF,fF,fF,fF,fF,fF,fF,fF,fF] rfl rfl ?_ ?_ ?_ ?_
        rotate_left
        · intro w'
          go_simp
          with_reducible rfl
        rotate_left
        · simp only [aP]
          rfl
        refine pu_ 4 32 ?_ #[tT,tT,tT,fF,tT,fF,fF,fF,fF,fF,fF,fF,fF,fF,fF,fF,fF,fF,fF] rfl rfl ?_ ?_ ?_ ?_
        rotate_left
        · intro w'
          go_simp
          with_reducible rfl
        rotate_left
        · simp only [aP]
          rfl
        refine pu_ 5 33 ?_ #[tT,tT,tT,fF,tT,tT,fF,fF,fF,fF,fF,fF,fF,fF,fF,fF,fF,fF,fF] rfl rfl ?_ ?_ ?_ ?_
        rotate_left
        · intro w'
          go_simp
          with_reducible rfl
        rotate_left
        · simp only [aP]
          rfl
        refine pu_ 6 34 ?_ #[tT,tT,tT,fF,tT,tT,tT,fF,fF,fF,fF,fF,fF,fF,fF,fF,fF,fF,fF] rfl rfl ?_ ?_ ?_ ?_
        rotate_left
        · intro w'
          go_simp
          with_reducible rfl
        rotate_left
        · simp only [aP]
          rfl
        refine pu_ 7 35 ?_ #[tT,tT,tT,fF,tT,tT,tT,tT,fF,fF,fF,fF,fF,fF,fF,fF,fF,fF,fF] rfl rfl ?_ ?_ ?_ ?_
        rotate_left
        · intro w'
          go_simp
          with_reducible rfl
        rotate_left
        · simp only [aP]
          rfl
        refine pu_ 8 36 ?_ #[tT,tT,tT,fF,tT,tT,tT,tT,tT,fF,fF,fF,fF,fF,fF,fF,fF,fF,fF] rfl rfl ?_ ?_ ?_ ?_
        rotate_left
        · intro w'
          go_simp
          with_reducible rfl
        rotate_left
        · simp only [aP]
          rfl
        refine pu_ 9 37 ?_ #[tT,tT,tT,fF,tT,tT,tT,tT,tT,tT,fF,fF,fF,fF,fF,fF,fF,fF,fF] rfl rfl ?_ ?_ ?_ ?_
        rotate_left
        · intro w'
          go_simp
          with_reducible rfl
        rotate_left
        · simp only [aP]
          rfl
        refine pu_ 11 39 ?_ #[tT,tT,tT,fF,tT,tT,tT,tT,tT,tT,fF,tT,fF,fF,fF,fF,fF,fF,fF] rfl rfl ?_ ?_ ?_ ?_
        rotate_left
        · intro w'
          go_simp
          with_reducible rfl
        rotate_left
        · simp only [aP]
          rfl
        refine pu_ 12 40 ?_ #[tT,tT,tT,fF,tT,tT,tT,tT,tT,tT,fF,tT,tT,fF,fF,fF,fF,fF,fF] rfl rfl ?_ ?_ ?_ ?_
        rotate_left
        · intro w'
          go_simp
          with_reducible rfl
        rotate_left
        · simp only [aP]
          rfl
        refine pu_ 13 41 ?_ #[tT,tT,tT,fF,tT,tT,tT,tT,tT,tT,fF,tT,tT,tT,fF,fF,fF,fF,fF] rfl rfl ?_ ?_ ?_ ?_
        rotate_left
        · intro w'
          go_simp
          with_reducible rfl
        rotate_left
        · simp only [aP]
          rfl
        refine pu_ 15 43 ?_ #[tT,tT,tT,fF,tT,tT,tT,tT,tT,tT,fF,tT,tT,tT,fF,tT,fF,fF,fF] rfl rfl ?_ ?_ ?_ ?_
        rotate_left
        · intro w'
          go_simp
          with_reducible rfl
        rotate_left
        · simp only [aP]
          rfl
        refine pu_ 16 44 ?_ #[tT,tT,tT,fF,tT,tT,tT,tT,tT,tT,fF,tT,tT,tT,fF,tT,tT,fF,fF] rfl rfl ?_ ?_ ?_ ?_
        rotate_left
        · intro w'
          go_simp
          with_reducible rfl
        rotate_left
        · simp only [aP]
          rfl
        refine ta_ 3 31 ?_ #[tT,tT,tT,tT,tT,tT,tT,tT,tT,tT,fF,tT,tT,tT,fF,tT,tT,fF,fF] rfl rfl ?_ hHeld ?_ ?_ ?_
        rotate_left
        · rintro w' ⟨s0, s1⟩
          go_simp
          with_reducible rfl
        rotate_left
        · simp only [aP]
          rfl
        refine pu_ 10 38 ?_ #[tT,tT,tT,tT,tT,tT,tT,tT,tT,tT,tT,tT,tT,tT,fF,tT,tT,fF,fF] rfl rfl ?_ ?_ ?_ ?_
        rotate_left
        · intro w'
          go_simp
          with_reducible rfl
        rotate_left
        · simp only [aP]
          rfl
        refine ta_ 14 42 ?_ #[tT,tT,tT,tT,tT,tT,tT,tT,tT,tT,tT,tT,tT,tT,tT,tT,tT,fF,fF] rfl rfl ?_ hHeld ?_ ?_ ?_
        rotate_left
        · rintro w' ⟨s0, s1⟩
          go_simp
          with_reducible rfl
        rotate_left
        · simp only [aP]
          rfl
        refine pu_ 17 45 ?_ #[tT,tT,tT,tT,tT,tT,tT,tT,tT,tT,tT,tT,tT,tT,tT,tT,tT,tT,fF] rfl rfl ?_ ?_ ?_ ?_
        rotate_left
        · intro w'
          go_simp
          with_reducible rfl
        rotate_left
        · simp only [aP]
          rfl
        refine last_ (i := 18) (N := some 46) #[tT,tT,tT,tT,tT,tT,tT,tT,tT,tT,tT,tT,tT,tT,tT,tT,tT,tT,tT] rfl rfl (by kernel_rfl) (by decide) (fun K hK => ?_)
        clear hw1 hw2
        have hCn : U8.C wc.drew (some ⟨gn, 64 * i, none⟩) (64 * n - 64 * i) ((flushed las wt).drop (64 * i)) := by have := C_piece (by have := AD.out.at4.rowC.2.2; rwa [A3.out.2.1] at this) (64 * i) (64 * n - 64 * i) (by omega); rwa [List.take_of_length_le (by rw [List.length_drop, A3.out.2.1]; exact Nat.le_refl _)] at this
        refine AD.out.copyStep (by rfl) (.tmp 38) (.tmp 45) rfl Tryz.underlying24 size1 (o := 64 * i) (n' := M) (c' := cl - 64 * i) (m := 64 * n - 64 * i) (c := cn - 64 * i) (A := some ⟨gn, 64 * i, none⟩) (ys := (flushed las wt).drop (64 * i)) rfl rfl hCn (by omega) (fun W2 hS2 => ?_)
        rw [take_sec _ M64, HSEC.out, AST.out] at hS2
        have A2 := Aside0.mk hS2
        clear hS2 c0 c1 hCn
        refine hK.out _ _ ?_
        clear hK K
        refine norm_ (a' := ?_) ?_ ?_
        rotate_left
        · show Act.put _ (some 46) _ = _
          simp only [aP]
          rfl
        refine done_ (by kernel_rfl) ?_
        go_wp2_with fail
        go_roundg (gk - 1)
        case measure => have := AK.out; omega
        case rel => exact ⟨j + 1, by go_num, by have := AK.out; omega, A2.out.to3⟩
    · have hjn : j = ks.length := by omega
      have hall : crashTo las wt cuts j = crashed las wt cuts := by rw [hjn, HKL.out]; exact crashTo_all A3.out.1
      have A0 : Aside0 _ := ⟨AR.out.tail⟩
      rw [hall] at A0
      have hcl : (crashed las wt cuts).length = 64 * n := by rw [← hall]; exact crashTo_len A3.out.1 HW.out
      obtain ⟨L, hL⟩ : ∃ L, crashed las wt cuts = L := ⟨_, rfl⟩
      rw [hL] at A0 hcl
      have HCL := Aside0.mk hcl
      have HL := Aside0.mk hL
      have c0 : wr.drew.cell? ⟨g, 0, none⟩ = some (.slice (some ⟨gl, 0, none⟩) (64 * n) cl) := (A0.out.drew.cell 0).trans rfl
      have c1 : wr.drew.cell? ⟨g, 1, none⟩ = some (.slice (some ⟨gn, 0, none⟩) (64 * n) cn) := (A0.out.drew.cell 1).trans rfl
      have AD := Aside0.mk A0.out.drew.at3
      have hmk := makeT (m := n) (by omega)
      clear hS hjk hall AR A0 hcl hL
      go_wp2_with fail
      refine start_ (n := 9) (S := fun w' => w'.cell? ⟨g, 1, none⟩ = some (.slice (some ⟨gn, 0, none⟩) (64 * n) cn) ∧ w'.cell? ⟨g, 0, none⟩ = some (.slice (some ⟨gl, 0, none⟩) (64 * n) cl)) (ds := [8]) #[fF,fF,fF,fF,fF,fF,fF,fF,fF] (by kernel_rfl) rfl rfl ⟨c1, c0⟩ (fun hHeld => ?_)
      refine pu_ 0 48 ?_ #[tT,fF,fF,fF,fF,fF,fF,fF,fF] rfl rfl ?_ ?_ ?_ ?_
      rotate_left
      · intro w'
        go_simp
        with_reducible rfl
      rotate_left
      · simp only [aP]
        rfl
      refine pu_ 1 49 ?_ #[tT,tT,fF,fF,fF,fF,fF,fF,fF] rfl rfl ?_ ?_ ?_ ?_
      rotate_left
      · intro w'
        go_simp
        with_reducible rfl
      rotate_left
      · simp only [aP]
        rfl
      refine pu_ 2 50 ?_ #[tT,tT,tT,fF,fF,fF,fF,fF,fF] rfl rfl ?_ ?_ ?_ ?_
      rotate_left
      · intro w'
        go_simp
        with_reducible rfl
      rotate_left
      · simp only [aP]
        rfl
      refine pu_ 4 52 ?_ #[tT,tT,tT,fF,tT,fF,fF,fF,fF] rfl rfl ?_ ?_ ?_ ?_
      rotate_left
      · intro w'
        go_simp
        with_reducible rfl
      rotate_left
      · simp only [aP]
        rfl
      refine pu_ 5 53 ?_ #[tT,tT,tT,fF,tT,tT,fF,fF,fF] rfl rfl ?_ ?_ ?_ ?_
      rotate_left
      · intro w'
        go_simp
        with_reducible rfl
      rotate_left
      · simp only [aP]
        rfl
      refine pu_ 6 54 ?_ #[tT,tT,tT,fF,tT,tT,tT,fF,fF] rfl rfl ?_ ?_ ?_ ?_
      rotate_left
      · intro w'
        go_simp
        with_reducible rfl
      rotate_left
      · simp only [aP]
        rfl
      refine ta_ 3 51 ?_ #[tT,tT,tT,tT,tT,tT,tT,fF,fF] rfl rfl ?_ hHeld ?_ ?_ ?_
      rotate_left
      · rintro w' ⟨s0, s1⟩
        go_simp
        with_reducible rfl
      rotate_left
      · simp only [aP]
        rfl
      refine ta_ 7 55 ?_ #[tT,tT,tT,tT,tT,tT,tT,tT,fF] rfl rfl ?_ hHeld ?_ ?_ ?_
      rotate_left
      · rintro w' ⟨s0, s1⟩
        go_simp
        with_reducible rfl
      rotate_left
      · simp only [aP]
        rfl
      refine last_ (i := 8) (N := some 56) #[tT,tT,tT,tT,tT,tT,tT,tT,tT] rfl rfl (by kernel_rfl) (by decide) (fun K hK => ?_)
      have hCl : U8.C wr.drew (some ⟨gl, 0, none⟩) (64 * n) L := by have := AD.out.at3.rowC.2.2; rwa [HCL.out] at this
      refine AD.out.copyStep (by rfl) (.tmp 51) (.tmp 55) rfl Tryz.underlying24 size1 (o := 0) (n' := 64 * n) (c' := cn) (m := 64 * n) (c := cl) (A := some ⟨gl, 0, none⟩) (ys := L) rfl rfl hCl (by omega) (fun W2 hS2 => ?_)
      rw [List.take_of_length_le (by rw [HCL.out]; exact Nat.le_refl _), over_all (by rw [HCL.out, A3.out.2.1])] at hS2
      have A2 := Aside0.mk hS2
      have c2 : W2.cell? ⟨g, 2, none⟩ = some (.slice (some ⟨gw, 0, none⟩) n cw) := (hS2.at2.cell 2).trans rfl
      have A4 := Aside0.mk (madeT n hS2 (by omega))
      have c3 : (W2.alloc (.cells (madeCells #[.bool false] n) 4)).cell? ⟨g, 2, none⟩ = some (.slice (some ⟨gw, 0, none⟩) n cw) := (A4.out.at3.cell 2).trans rfl
      have z3 := A4.out.at3.frozen 2
      clear hS2 c0 c1 hCl
      refine hK.out _ _ ?_
      clear hK K
      refine norm_ (a' := ?_) ?_ ?_
      rotate_left
      · show Act.put _ (some 56) _ = _
        simp only [aP]
        rfl
      refine done_ (by kernel_rfl) ?_
      go_wp2_with fail
      go_ret
      have h5 := A4.out.at3.setBlk 2 (.slice (some ⟨W2.heap.size, 0, none⟩) n n)
      have h6 := h5.at5.tail
      refine ⟨?_, ?_⟩
      · rw [← HKL.out]; rfl
      · rw [HL.out]; exact shut_ n1 n2 HCL.out HCL.out (List.length_replicate ..) (h6.at2.to4.sw23)
end
end Go.Proofs.YtjngnigelkgekaaGreat.Ref
namespace Go.Proofs.YtjngnigelkgekaaGreat.Book
end Go.Proofs.YtjngnigelkgekaaGreat.Book
namespace Go.Proofs.YtjngnigelkgekaaGreat.Kit.Sep
end Go.Proofs.YtjngnigelkgekaaGreat.Kit.Sep
namespace Go.Proofs.YtjngnigelkgekaaGreat.Ref
end Go.Proofs.YtjngnigelkgekaaGreat.Ref
namespace Go.Proofs.YtjngnigelkgekaaGreat.Ref
open Go.RowKit Go.Proofs.YtjngnigelkgekaaGreatW.PrintWords Go.Proofs.YtjngnigelkgekaaGreatW.PrintLast Go.Proofs.YtjngnigelkgekaaGreatW.PrintMore Go.Proofs.YtjngnigelkgekaaGreat.Kit Go.Proofs.YtjngnigelkgekaaGreat.Disk
section
variable {w0 W : World} {g gr n : Nat} {las : List Int} {done : Nat} {F : List HP} {wt : Wt}
theorem rflush_ (h : Sep w0 W (RD gr n las (flushed las wt) (waitL n wt) (-1) (done : Int) :: F)) (hl : las.length = 64 * n) (hw : ∀ i b, wt i = some b → b.length = 64) (hd : done ≤ 1000000) :
    Calls Tryz.prog 44 #[.pointer (some ⟨gr, 0, none⟩)] W fun e w' => e = .returned (.tuple #[]) ∧ Sep w0 w' (RD gr n (flushed las wt) (flushed (flushed las wt) (fun _ => none)) (waitL n (fun _ => none)) (-1) ((done + 1 : Nat) : Int) :: F) := by
  refine (flush_in h (by decide) (by decide) (by omega)).mono ?_
  rintro e w' ⟨rfl, hS⟩
  refine ⟨rfl, ?_⟩
  rw [flushed_none (flushed_len hl hw), waitL_none]
  exact hS
theorem rwrite_ (h : Sep w0 W (RD gr n las (flushed las wt) (waitL n wt) (-1) (done : Int) :: F)) (hl : las.length = 64 * n) (hw : ∀ i b, wt i = some b → b.length = 64) (hd : done ≤ 1000000) (i : Nat) (hi : i < n) {A : Option Addr} {c : Nat} {b : List Int} (hb : ∀ W', Sep w0 W' F → U8.C W' A 64 b) :
    Calls Tryz.prog 79 #[.pointer (some ⟨gr, 0, none⟩), .int .i64 (i : Int), .slice A 64 c] W fun e w' => e = .returned (.bool true) ∧ Sep w0 w' (RD gr n las (flushed las (fun j => if j = i then some b else wt j)) (waitL n (fun j => if j = i then some b else wt j)) (-1) ((done + 1 : Nat) : Int) :: F) := by
  refine (write_in h (by decide) (by decide) (by omega) i hi hb).mono ?_
  rintro e w' ⟨rfl, hS⟩
  refine ⟨rfl, ?_⟩
  rw [← flushed_write hl hw hi (hb W h.tail).1, ← waitL_set wt i b]
  exact hS
theorem rcrash_ {A : Option Addr} {m c : Nat} {cuts : List Int} (h : Sep w0 W (RD gr n las (flushed las wt) (waitL n wt) (-1) (done : Int) :: F)) (hl : las.length = 64 * n) (hw : ∀ i b, wt i = some b → b.length = 64) (hcu : ∀ W', Sep w0 W' F → I64.C W' A m cuts) :
    Calls Tryz.prog 19 #[.pointer (some ⟨gr, 0, none⟩), .slice A m c] W fun e w' => e = .returned (.int .i64 ((keysOf (las.length / 64) wt).length : Int)) ∧ Sep w0 w' (RD gr n (crashed las wt cuts) (flushed (crashed las wt cuts) (fun _ => none)) (waitL n (fun _ => none)) (-1) (done : Int) :: F) := by
  refine (crash_ h hw hcu).mono ?_
  rintro e w' ⟨rfl, hS⟩
  rw [show las.length / 64 = n by omega]
  refine ⟨rfl, ?_⟩
  have hcl : (crashed las wt cuts).length = 64 * n := by
    unfold crashed
    rw [show las.length / 64 = n by omega]
    exact secs_len (cutS_len hl hw)
  rw [flushed_none hcl, waitL_none]
  exact hS
theorem rread_ {left dn : Int} (h : Sep w0 W (RD gr n las (flushed las wt) (waitL n wt) left dn :: F)) (hl : las.length = 64 * n) (hw : ∀ i b, wt i = some b → b.length = 64) (i : Nat) (hi : i < n) :
    Calls Tryz.prog 109 #[.pointer (some ⟨gr, 0, none⟩), .int .i64 (i : Int)] W fun e w' => ∃ v, e = .returned (.tuple #[v, .bool true]) ∧ Sep w0 w' (Row U8 5 v ((wt i).getD (sec las i)) :: RD gr n las (flushed las wt) (waitL n wt) left dn :: F) := by
  refine (read_in h i hi).mono ?_
  rintro e w' ⟨v, rfl, hS⟩
  rw [sec_flushed hl hw hi] at hS
  exact ⟨v, rfl, hS⟩
theorem got_len (hl : las.length = 64 * n) (hw : ∀ i b, wt i = some b → b.length = 64) {i : Nat} (hi : i < n) : ((wt i).getD (sec las i)).length = 64 := by
  cases h : wt i with
  | none => exact sec_len (by omega)
  | some b => exact hw i b h
theorem upd_len {i : Nat} {b : List Int} (hw : ∀ i b, wt i = some b → b.length = 64) (hb : b.length = 64) : ∀ k c, (fun j => if j = i then some b else wt j) k = some c → c.length = 64 := fun k c h => by
  by_cases hki : k = i
  · simp only [if_pos hki] at h; injection h with h; rw [← h]; exact hb
  · simp only [if_neg hki] at h; exact hw k c h
theorem none_len : ∀ (i : Nat) (b : List Int), (fun _ => none : Wt) i = some b → b.length = 64 := fun i b h => by cases h
end
end Go.Proofs.YtjngnigelkgekaaGreat.Ref
namespace Go.Proofs.YtjngnigelkgekaaGreat.Root
open Go.RowKit Go.Proofs.YtjngnigelkgekaaGreatW.PrintWords Go.Proofs.YtjngnigelkgekaaGreatW.PrintLast Go.Proofs.YtjngnigelkgekaaGreatW.PrintMore Go.Proofs.YtjngnigelkgekaaGreat.Kit Go.Proofs.YtjngnigelkgekaaGreat.Plain Go.Proofs.YtjngnigelkgekaaGreat.Disk
def secF (n : Nat) (las : List Int) (wt : Wt) (j : Nat) : List Int := if j < n then (wt j).getD (sec las j) else []
def bestTo (n : Int) (s : Nat → List Int) : Nat → R3
  | 0 => (0, 0, 0)
  | j + 1 => pickF n (bestTo n s j) (s j)
theorem secF_len {n : Nat} {las : List Int} {wt : Wt} (hl : las.length = 64 * n) (hw : ∀ i b, wt i = some b → b.length = 64) (j : Nat) : (secF n las wt j).length = if j < n then 64 else 0 := by
  unfold secF
  by_cases h : j < n
  · rw [if_pos h, if_pos h]; exact Ref.got_len hl hw h
  · rw [if_neg h, if_neg h]; rfl
section
variable {w0 W : World} {F : List HP} {g n : Nat} {las : List Int} {wt : Wt}
theorem dread_ (h : Sep w0 W (Dsk g las wt :: F)) (hl : las.length = 64 * n) (hw : ∀ i b, wt i = some b → b.length = 64) (j : Nat) :
    Calls Tryz.prog 108 #[.pointer (some ⟨g, 0, none⟩), .int .i64 (j : Int)] W fun e w' => ∃ A m c ok, e = .returned (.tuple #[.slice A m c, .bool ok]) ∧ m ≤ c ∧ U8.C w' A m (secF n las wt j) ∧ Sep w0 w' (Dsk g las wt :: F) := by
  by_cases hj : j < n
  · refine (read_in h j (by omega)).mono ?_
    rintro e w' ⟨v, rfl, hS⟩
    obtain ⟨A, c, rfl⟩ := hS.rowV
    have hC := hS.rowC
    exact ⟨A, _, c, true, rfl, hC.2.1, by unfold secF; rw [if_pos hj]; exact hC.2.2, hS.tail⟩
  · refine (read_out h (j : Int) (by omega)).mono ?_
    rintro e w' ⟨rfl, rfl⟩
    exact ⟨none, 0, 0, false, rfl, Nat.le_refl _, by unfold secF; rw [if_neg hj]; exact Kd.C_nil _ _, h⟩
theorem pick_none {m : Int} {b : R3} {l : List Int} (h : unrootF l = none) : pickF m b l = b := by unfold pickF; rw [h]
theorem pick_no {m : Int} {b r : R3} {l : List Int} (h : unrootF l = some r) (h2 : ¬ (rightR r.1 r.2.1 r.2.2 m = true ∧ b.2.2 < r.2.2)) : pickF m b l = b := by unfold pickF; rw [h]; exact if_neg h2
theorem pick_yes {m : Int} {b r : R3} {l : List Int} (h : unrootF l = some r) (h2 : rightR r.1 r.2.1 r.2.2 m = true) (h3 : b.2.2 < r.2.2) : pickF m b l = r := by unfold pickF; rw [h]; exact if_pos ⟨h2, h3⟩
theorem readV_none {l : List Int} (h : unrootF l = none) : readV l = .tuple #[.agg #[.int .i64 0, .int .i64 0, .int .u32 0], .bool false] := by unfold readV; rw [h]; rfl
theorem readV_some {l : List Int} {x y z : Int} (h : unrootF l = some (x, y, z)) : readV l = .tuple #[.agg #[.int .i64 x, .int .i64 y, .int .u32 z], .bool true] := by unfold readV; rw [h]; rfl
set_option maxHeartbeats 1600000 in
set_option maxRecDepth 100000 in
theorem best_ (h : Sep w0 W (Dsk g las wt :: F)) (hl : las.length = 64 * n) (hn : n ≤ 160) (hw : ∀ i b, wt i = some b → b.length = 64) (hb : ∀ j, Bytes (secF n las wt j)) :
    Calls Tryz.prog 99 #[.pointer (some ⟨g, 0, none⟩)] W fun e w' => e = .returned (.tuple #[rootV (bestTo n (secF n las wt) 2), .bool (decide (0 < (bestTo n (secF n las wt) 2).2.2))]) ∧ Sep w0 w' (Dsk g las wt :: F) := by
  have A0 := (h.newBlk 80 #[.int .i64 0, .int .i64 0, .int .u32 0]).newBlk 80 #[.int .i64 0, .int .i64 0, .int .u32 0]
  rw [show ∀ o : Obj, (W.alloc o).heap.size = W.heap.size + 1 from fun o => by simp] at A0
  have A0' := Aside0.mk A0
  have HLN : Aside0 ((las.length : Int) / 64 = (n : Int)) := ⟨by omega⟩
  have HB := Aside0.mk hb
  have HW := Aside0.mk hw
  have HL := Aside0.mk hl
  clear h A0 hb hw hl
  obtain ⟨s, hs⟩ : ∃ s, secF n las wt = s := ⟨_, rfl⟩
  have HS := Aside0.mk hs
  rw [hs]
  rw [hs] at HB
  clear hs
  go_enter Tryz.func99, Tryz.ntmps99
  go_wp2_with fail
  go_loopg [13] 2 (fun m p wr => ∃ (j : Nat) (x y z : Int), p = .int .i64 (j : Int) ∧ j + m = 2 ∧ bestTo n s j = (x, y, z) ∧ Sep w0 wr (Blk (W.heap.size + 1) 80 #[.int .i64 x, .int .i64 y, .int .u32 z] :: Blk W.heap.size 80 #[.int .i64 0, .int .i64 0, .int .u32 0] :: Dsk g las wt :: F))
  case atStart => exact ⟨0, 0, 0, 0, rfl, rfl, rfl, A0'.out⟩
  case round =>
    obtain ⟨j, bx, by_, bz, rfl, hjm, hbt, hS⟩ := hrel
    have AK := Aside0.mk hjm
    have HBT := Aside0.mk hbt
    have AS := Aside0.mk hS
    clear hS hbt
    by_cases hj : j < 2
    · have hj2 : (j : Int) < 2 := by omega
      have HST : Aside0 (bestTo n s (j + 1) = pickF n (bestTo n s j) (s j)) := ⟨rfl⟩
      clear hjm
      go_wp2_with fail
      refine (dread_ AS.out.at3 HL.out HW.out j).mono ?_
      rintro e w1 ⟨A1, m1, c1, ok, rfl, hmc, hC1, hS1⟩
      rw [HS.out] at hC1
      have HBj := Aside0.mk (HB.out j)
      have B1 := Aside0.mk hS1
      have HC1 := Aside0.mk (And.intro hC1 hmc)
      obtain ⟨l, hlj⟩ : ∃ l, s j = l := ⟨_, rfl⟩
      rw [hlj] at HC1 HST HBj
      clear hS1 hC1 hmc hlj
      go_wp2_with fail
      refine (read_ HC1.out.1 HC1.out.2 HBj.out).mono ?_
      rintro e w2 ⟨rfl, hb2⟩
      have B2 := Aside0.mk (B1.out.below hb2)
      clear hb2
      cases hu : unrootF l with
      | none =>
        rw [readV_none hu]
        have HST2 := Aside0.mk (HST.out.trans (pick_none hu))
        have B3 := Aside0.mk (B2.out.newBlk 80 #[.int .i64 0, .int .i64 0, .int .u32 0])
        clear hu
        go_wp2_with fail
        go_quiet (fail)
        have B4 := Aside0.mk ((B3.out.drewN nq).tail.at2.at3)
        go_wp2_with fail
        go_roundg (gk - 1)
        case measure => have := AK.out; omega
        case rel => exact ⟨j + 1, bx, by_, bz, by go_num, by have := AK.out; omega, by rw [HST2.out, HBT.out], by first | exact B4.out | exact B4.out.at2 | exact B4.out.at3⟩
      | some r =>
        obtain ⟨x, y, z⟩ := r
        rw [readV_some hu]
        have HU := Aside0.mk hu
        have B3 := Aside0.mk (B2.out.newBlk 80 #[.int .i64 x, .int .i64 y, .int .u32 z]).drew
        clear hu
        cases hrt : rightR x y z n with
        | false =>
          have HRT := Aside0.mk hrt
          clear hrt
          go_wp2_with fail
          refine start_ (n := 14) (S := fun w' => w'.cell? ⟨w2.heap.size, 0, none⟩ = some (.int .i64 x) ∧ w'.cell? ⟨w2.heap.size, 1, none⟩ = some (.int .i64 y) ∧ w'.cell? ⟨w2.heap.size, 2, none⟩ = some (.int .u32 z)) (ds := [5]) #[Z,Z,Z,Z,Z,Z,Z,Z,Z,Z,Z,Z,Z,Z] (by kernel_rfl) rfl rfl ⟨(B3.out.cell 0).trans rfl, (B3.out.cell 1).trans rfl, (B3.out.cell 2).trans rfl⟩ (fun hHeld => ?_)
          refine pu_ 0 27 ?_ #[J,Z,Z,Z,Z,Z,Z,Z,Z,Z,Z,Z,Z,Z] rfl rfl ?_ ?_ ?_ ?_
          rotate_left
          · intro w'
            go_simp
            with_reducible rfl
          rotate_left
          · simp only [aP]
            rfl
          refine pu_ 1 28 ?_ #[J,J,Z,Z,Z,Z,Z,Z,Z,Z,Z,Z,Z,Z] rfl rfl ?_ ?_ ?_ ?_
          rotate_left
          · intro w'
            go_simp
            with_reducible rfl
          rotate_left
          · simp only [aP]
            rfl
          refine pu_ 3 30 ?_ #[J,J,Z,J,Z,Z,Z,Z,Z,Z,Z,Z,Z,Z] rfl rfl ?_ ?_ ?_ ?_
          rotate_left
          · intro w'
            go_simp
            with_reducible rfl
          rotate_left
          · simp only [aP]
            rfl
          refine ta_ 2 29 ?_ #[J,J,J,J,Z,Z,Z,Z,Z,Z,Z,Z,Z,Z] rfl rfl ?_ hHeld ?_ ?_ ?_
          rotate_left
          · rintro w' ⟨s0, s1, s2⟩
            go_simp
            with_reducible rfl
          rotate_left
          · simp only [aP]
            rfl
          refine one_ (i := 4) (N := some 31) #[J,J,J,J,J,Z,Z,Z,Z,Z,Z,Z,Z,Z] rfl rfl (by kernel_rfl) (by decide) (fun K hK => ?_)
          refine goes_ Tryz.func65 (by kernel_rfl) rfl #[.pointer (some ⟨g, 0, none⟩)] (by rfl) rfl rfl (by simp only [List.map_toArray, List.map_cons, List.map_nil]; rfl) ?_
          with_reducible refine (len_ B3.out.at2).mono ?_
          rintro e w4 ⟨rfl, rfl⟩
          refine ⟨_, rfl, ?_⟩
          rw [HLN.out]
          refine hK.out _ _ ⟨(B3.out.cell 0).trans rfl, (B3.out.cell 1).trans rfl, (B3.out.cell 2).trans rfl⟩ (fun hHeld => ?_)
          clear hK K
          refine norm_ (a' := ?_) ?_ ?_
          rotate_left
          · show Act.put _ (some 31) _ = _
            simp only [aP]
            rfl
          refine last_ (i := 5) (N := some 32) #[J,J,J,J,J,J,Z,Z,Z,Z,Z,Z,Z,Z] rfl rfl (by kernel_rfl) (by decide) (fun K hK => ?_)
          refine goes_ Tryz.func64 (by kernel_rfl) rfl #[.agg #[.int .i64 x, .int .i64 y, .int .u32 z], .int .i64 (n : Int)] (by rfl) rfl rfl (by simp only [List.map_toArray, List.map_cons, List.map_nil]; rfl) ?_
          with_reducible refine (right_ x y z (n : Int) _).mono ?_
          rintro e w5 ⟨rfl, hb5⟩
          refine ⟨_, rfl, ?_⟩
          rw [HRT.out]
          have B5 := Aside0.mk (B3.out.below hb5)
          clear hb5
          refine hK.out _ _ ?_
          clear hK K
          refine norm_ (a' := ?_) ?_ ?_
          rotate_left
          · show Act.put _ (some 32) _ = _
            simp only [aP]
            rfl
          refine pu_ 6 33 ?_ #[J,J,J,J,J,J,J,Z,Z,Z,Z,Z,Z,Z] rfl rfl ?_ ?_ ?_ ?_
          rotate_left
          · intro w'
            go_simp
            with_reducible rfl
          rotate_left
          · simp only [aP]
            rfl
          refine pu_ 7 34 ?_ #[J,J,J,J,J,J,J,J,Z,Z,Z,Z,Z,Z] rfl rfl ?_ ?_ ?_ ?_
          rotate_left
          · intro w'
            go_simp
            with_reducible rfl
          rotate_left
          · simp only [aP]
            rfl
          refine pure_ (i := 8) (N := some 35) (v := undef) (a' := ?_) #[J,J,J,J,J,J,J,J,J,Z,Z,Z,Z,Z] rfl rfl (by kernel_rfl) (fun _ _ _ h => h) (Or.inr ⟨by rfl, rfl⟩) ?_ ?_
          rotate_left
          · simp only [aP]
            rfl
          refine pure_ (i := 9) (N := some 36) (v := undef) (a' := ?_) #[J,J,J,J,J,J,J,J,J,J,Z,Z,Z,Z] rfl rfl (by kernel_rfl) (fun _ _ _ h => h) (Or.inr ⟨by rfl, rfl⟩) ?_ ?_
          rotate_left
          · simp only [aP]
            rfl
          refine pure_ (i := 10) (N := some 37) (v := undef) (a' := ?_) #[J,J,J,J,J,J,J,J,J,J,J,Z,Z,Z] rfl rfl (by kernel_rfl) (fun _ _ _ h => h) (Or.inr ⟨by rfl, rfl⟩) ?_ ?_
          rotate_left
          · simp only [aP]
            rfl
          refine pure_ (i := 11) (N := some 38) (v := undef) (a' := ?_) #[J,J,J,J,J,J,J,J,J,J,J,J,Z,Z] rfl rfl (by kernel_rfl) (fun _ _ _ h => h) (Or.inr ⟨by rfl, rfl⟩) ?_ ?_
          rotate_left
          · simp only [aP]
            rfl
          refine pure_ (i := 12) (N := some 39) (v := undef) (a' := ?_) #[J,J,J,J,J,J,J,J,J,J,J,J,J,Z] rfl rfl (by kernel_rfl) (fun _ _ _ h => h) (Or.inr ⟨by rfl, rfl⟩) ?_ ?_
          rotate_left
          · simp only [aP]
            rfl
          refine pu_ 13 40 ?_ #[J,J,J,J,J,J,J,J,J,J,J,J,J,J] rfl rfl ?_ ?_ ?_ ?_
          rotate_left
          · intro w'
            go_simp
            with_reducible rfl
          rotate_left
          · simp only [aP]
            rfl
          refine done_ (by kernel_rfl) ?_
          have HST2 := Aside0.mk (HST.out.trans (pick_no HU.out (fun h => by have := HRT.out.symm.trans h.1; cases this)))
          go_wp2_with fail
          go_roundg (gk - 1)
          case measure => have := AK.out; omega
          case rel => exact ⟨j + 1, bx, by_, bz, by go_num, by have := AK.out; omega, by rw [HST2.out, HBT.out], B5.out.at3.drop2.sw23⟩
        | true =>
          have HRT := Aside0.mk hrt
          clear hrt
          by_cases hz : bz < z
          case neg =>
            have hzd : decide (bz < z) = false := decide_eq_false hz
            go_wp2_with fail
            refine start_ (n := 14) (S := fun w' => w'.cell? ⟨w2.heap.size, 0, none⟩ = some (.int .i64 x) ∧ w'.cell? ⟨w2.heap.size, 1, none⟩ = some (.int .i64 y) ∧ w'.cell? ⟨w2.heap.size, 2, none⟩ = some (.int .u32 z) ∧ w'.cell? ⟨W.heap.size + 1, 2, none⟩ = some (.int .u32 bz)) (ds := []) #[Z,Z,Z,Z,Z,Z,Z,Z,Z,Z,Z,Z,Z,Z] (by kernel_rfl) rfl rfl ⟨(B3.out.cell 0).trans rfl, (B3.out.cell 1).trans rfl, (B3.out.cell 2).trans rfl, (B3.out.at3.cell 2).trans rfl⟩ (fun hHeld => ?_)
            refine pu_ 0 27 ?_ #[J,Z,Z,Z,Z,Z,Z,Z,Z,Z,Z,Z,Z,Z] rfl rfl ?_ ?_ ?_ ?_
            rotate_left
            · intro w'
              go_simp
              with_reducible rfl
            rotate_left
            · simp only [aP]
              rfl
            refine pu_ 1 28 ?_ #[J,J,Z,Z,Z,Z,Z,Z,Z,Z,Z,Z,Z,Z] rfl rfl ?_ ?_ ?_ ?_
            rotate_left
            · intro w'
              go_simp
              with_reducible rfl
            rotate_left
            · simp only [aP]
              rfl
            refine pu_ 3 30 ?_ #[J,J,Z,J,Z,Z,Z,Z,Z,Z,Z,Z,Z,Z] rfl rfl ?_ ?_ ?_ ?_
            rotate_left
            · intro w'
              go_simp
              with_reducible rfl
            rotate_left
            · simp only [aP]
              rfl
            refine ta_ 2 29 ?_ #[J,J,J,J,Z,Z,Z,Z,Z,Z,Z,Z,Z,Z] rfl rfl ?_ hHeld ?_ ?_ ?_
            rotate_left
            · rintro w' ⟨s0, s1, s2, s3⟩
              go_simp
              with_reducible rfl
            rotate_left
            · simp only [aP]
              rfl
            refine one_ (i := 4) (N := some 31) #[J,J,J,J,J,Z,Z,Z,Z,Z,Z,Z,Z,Z] rfl rfl (by kernel_rfl) (by decide) (fun K hK => ?_)
            refine goes_ Tryz.func65 (by kernel_rfl) rfl #[.pointer (some ⟨g, 0, none⟩)] (by rfl) rfl rfl (by simp only [List.map_toArray, List.map_cons, List.map_nil]; rfl) ?_
            with_reducible refine (len_ B3.out.at2).mono ?_
            rintro e w4 ⟨rfl, rfl⟩
            refine ⟨_, rfl, ?_⟩
            rw [HLN.out]
            refine hK.out _ _ ⟨(B3.out.cell 0).trans rfl, (B3.out.cell 1).trans rfl, (B3.out.cell 2).trans rfl, (B3.out.at3.cell 2).trans rfl⟩ (fun hHeld => ?_)
            clear hK K
            refine norm_ (a' := ?_) ?_ ?_
            rotate_left
            · show Act.put _ (some 31) _ = _
              simp only [aP]
              rfl
            refine one_ (i := 5) (N := some 32) #[J,J,J,J,J,J,Z,Z,Z,Z,Z,Z,Z,Z] rfl rfl (by kernel_rfl) (by decide) (fun K hK => ?_)
            refine goes_ Tryz.func64 (by kernel_rfl) rfl #[.agg #[.int .i64 x, .int .i64 y, .int .u32 z], .int .i64 (n : Int)] (by rfl) rfl rfl (by simp only [List.map_toArray, List.map_cons, List.map_nil]; rfl) ?_
            with_reducible refine (right_ x y z (n : Int) _).mono ?_
            rintro e w5 ⟨rfl, hb5⟩
            refine ⟨_, rfl, ?_⟩
            rw [HRT.out]
            have B5 := Aside0.mk (B3.out.below hb5)
            clear hb5
            refine hK.out _ _ ⟨(B5.out.cell 0).trans rfl, (B5.out.cell 1).trans rfl, (B5.out.cell 2).trans rfl, (B5.out.at3.cell 2).trans rfl⟩ (fun hHeld => ?_)
            clear hK K
            refine norm_ (a' := ?_) ?_ ?_
            rotate_left
            · show Act.put _ (some 32) _ = _
              simp only [aP]
              rfl
            refine pu_ 6 33 ?_ #[J,J,J,J,J,J,J,Z,Z,Z,Z,Z,Z,Z] rfl rfl ?_ ?_ ?_ ?_
            rotate_left
            · intro w'
              go_simp
              with_reducible rfl
            rotate_left
            · simp only [aP]
              rfl
            refine pu_ 7 34 ?_ #[J,J,J,J,J,J,J,J,Z,Z,Z,Z,Z,Z] rfl rfl ?_ ?_ ?_ ?_
            rotate_left
            · intro w'
              go_simp
              with_reducible rfl
            rotate_left
            · simp only [aP]
              rfl
            refine pu_ 8 35 ?_ #[J,J,J,J,J,J,J,J,J,Z,Z,Z,Z,Z] rfl rfl ?_ ?_ ?_ ?_
            rotate_left
            · intro w'
              go_simp
              with_reducible rfl
            rotate_left
            · simp only [aP]
              rfl
            refine pu_ 10 37 ?_ #[J,J,J,J,J,J,J,J,J,Z,J,Z,Z,Z] rfl rfl ?_ ?_ ?_ ?_
            rotate_left
            · intro w'
              go_simp
              with_reducible rfl
            rotate_left
            · simp only [aP]
              rfl
            refine ta_ 9 36 ?_ #[J,J,J,J,J,J,J,J,J,J,J,Z,Z,Z] rfl rfl ?_ hHeld ?_ ?_ ?_
            rotate_left
            · rintro w' ⟨s0, s1, s2, s3⟩
              go_simp
              with_reducible rfl
            rotate_left
            · simp only [aP]
              rfl
            refine ta_ 11 38 ?_ #[J,J,J,J,J,J,J,J,J,J,J,J,Z,Z] rfl rfl ?_ hHeld ?_ ?_ ?_
            rotate_left
            · rintro w' ⟨s0, s1, s2, s3⟩
              go_simp
              with_reducible rfl
            rotate_left
            · simp only [aP]
              rfl
            refine pu_ 12 39 ?_ #[J,J,J,J,J,J,J,J,J,J,J,J,J,Z] rfl rfl ?_ ?_ ?_ ?_
            rotate_left
            · intro w'
              go_simp
              with_reducible rfl
            rotate_left
            · simp only [aP]
              rfl
            refine pu_ 13 40 ?_ #[J,J,J,J,J,J,J,J,J,J,J,J,J,J] rfl rfl ?_ ?_ ?_ ?_
            rotate_left
            · intro w'
              go_simp
              with_reducible rfl
            rotate_left
            · simp only [aP]
              rfl
            refine done_ (by kernel_rfl) ?_
            have HST2 := Aside0.mk (HST.out.trans (pick_no HU.out (fun h => by rw [HBT.out] at h; have h2 : bz < z := h.2; omega)))
            go_wp2_with fail
            go_roundg (gk - 1)
            case measure => have := AK.out; omega
            case rel => exact ⟨j + 1, bx, by_, bz, by go_num, by have := AK.out; omega, by rw [HST2.out, HBT.out], B5.out.at3.drop2.sw23⟩
          case pos =>
            have hzd : decide (bz < z) = true := decide_eq_true hz
            go_wp2_with fail
            refine start_ (n := 14) (S := fun w' => w'.cell? ⟨w2.heap.size, 0, none⟩ = some (.int .i64 x) ∧ w'.cell? ⟨w2.heap.size, 1, none⟩ = some (.int .i64 y) ∧ w'.cell? ⟨w2.heap.size, 2, none⟩ = some (.int .u32 z) ∧ w'.cell? ⟨W.heap.size + 1, 2, none⟩ = some (.int .u32 bz)) (ds := []) #[Z,Z,Z,Z,Z,Z,Z,Z,Z,Z,Z,Z,Z,Z] (by kernel_rfl) rfl rfl ⟨(B3.out.cell 0).trans rfl, (B3.out.cell 1).trans rfl, (B3.out.cell 2).trans rfl, (B3.out.at3.cell 2).trans rfl⟩ (fun hHeld => ?_)
            refine pu_ 0 27 ?_ #[J,Z,Z,Z,Z,Z,Z,Z,Z,Z,Z,Z,Z,Z] rfl rfl ?_ ?_ ?_ ?_
            rotate_left
            · intro w'
              go_simp
              with_reducible rfl
            rotate_left
            · simp only [aP]
              rfl
            refine pu_ 1 28 ?_ #[J,J,Z,Z,Z,Z,Z,Z,Z,Z,Z,Z,Z,Z] rfl rfl ?_ ?_ ?_ ?_
            rotate_left
            · intro w'
              go_simp
              with_reducible rfl
            rotate_left
            · simp only [aP]
              rfl
            refine pu_ 3 30 ?_ #[J,J,Z,J,Z,Z,Z,Z,Z,Z,Z,Z,Z,Z] rfl rfl ?_ ?_ ?_ ?_
            rotate_left
            · intro w'
              go_simp
              with_reducible rfl
            rotate_left
            · simp only [aP]
              rfl
            refine ta_ 2 29 ?_ #[J,J,J,J,Z,Z,Z,Z,Z,Z,Z,Z,Z,Z] rfl rfl ?_ hHeld ?_ ?_ ?_
            rotate_left
            · rintro w' ⟨s0, s1, s2, s3⟩
              go_simp
              with_reducible rfl
            rotate_left
            · simp only [aP]
              rfl
            refine one_ (i := 4) (N := some 31) #[J,J,J,J,J,Z,Z,Z,Z,Z,Z,Z,Z,Z] rfl rfl (by kernel_rfl) (by decide) (fun K hK => ?_)
            refine goes_ Tryz.func65 (by kernel_rfl) rfl #[.pointer (some ⟨g, 0, none⟩)] (by rfl) rfl rfl (by simp only [List.map_toArray, List.map_cons, List.map_nil]; rfl) ?_
            with_reducible refine (len_ B3.out.at2).mono ?_
            rintro e w4 ⟨rfl, rfl⟩
            refine ⟨_, rfl, ?_⟩
            rw [HLN.out]
            refine hK.out _ _ ⟨(B3.out.cell 0).trans rfl, (B3.out.cell 1).trans rfl, (B3.out.cell 2).trans rfl, (B3.out.at3.cell 2).trans rfl⟩ (fun hHeld => ?_)
            clear hK K
            refine norm_ (a' := ?_) ?_ ?_
            rotate_left
            · show Act.put _ (some 31) _ = _
              simp only [aP]
              rfl
            refine one_ (i := 5) (N := some 32) #[J,J,J,J,J,J,Z,Z,Z,Z,Z,Z,Z,Z] rfl rfl (by kernel_rfl) (by decide) (fun K hK => ?_)
            refine goes_ Tryz.func64 (by kernel_rfl) rfl #[.agg #[.int .i64 x, .int .i64 y, .int .u32 z], .int .i64 (n : Int)] (by rfl) rfl rfl (by simp only [List.map_toArray, List.map_cons, List.map_nil]; rfl) ?_
            with_reducible refine (right_ x y z (n : Int) _).mono ?_
            rintro e w5 ⟨rfl, hb5⟩
            refine ⟨_, rfl, ?_⟩
            rw [HRT.out]
            have B5 := Aside0.mk (B3.out.below hb5)
            clear hb5
            refine hK.out _ _ ⟨(B5.out.cell 0).trans rfl, (B5.out.cell 1).trans rfl, (B5.out.cell 2).trans rfl, (B5.out.at3.cell 2).trans rfl⟩ (fun hHeld => ?_)
            clear hK K
            refine norm_ (a' := ?_) ?_ ?_
            rotate_left
            · show Act.put _ (some 32) _ = _
              simp only [aP]
              rfl
            refine pu_ 6 33 ?_ #[J,J,J,J,J,J,J,Z,Z,Z,Z,Z,Z,Z] rfl rfl ?_ ?_ ?_ ?_
            rotate_left
            · intro w'
              go_simp
              with_reducible rfl
            rotate_left
            · simp only [aP]
              rfl
            refine pu_ 7 34 ?_ #[J,J,J,J,J,J,J,J,Z,Z,Z,Z,Z,Z] rfl rfl ?_ ?_ ?_ ?_
            rotate_left
            · intro w'
              go_simp
              with_reducible rfl
            rotate_left
            · simp only [aP]
              rfl
            refine pu_ 8 35 ?_ #[J,J,J,J,J,J,J,J,J,Z,Z,Z,Z,Z] rfl rfl ?_ ?_ ?_ ?_
            rotate_left
            · intro w'
              go_simp
              with_reducible rfl
            rotate_left
            · simp only [aP]
              rfl
            refine pu_ 10 37 ?_ #[J,J,J,J,J,J,J,J,J,Z,J,Z,Z,Z] rfl rfl ?_ ?_ ?_ ?_
            rotate_left
            · intro w'
              go_simp
              with_reducible rfl
            rotate_left
            · simp only [aP]
              rfl
            refine ta_ 9 36 ?_ #[J,J,J,J,J,J,J,J,J,J,J,Z,Z,Z] rfl rfl ?_ hHeld ?_ ?_ ?_
            rotate_left
            · rintro w' ⟨s0, s1, s2, s3⟩
              go_simp
              with_reducible rfl
            rotate_left
            · simp only [aP]
              rfl
            refine ta_ 11 38 ?_ #[J,J,J,J,J,J,J,J,J,J,J,J,Z,Z] rfl rfl ?_ hHeld ?_ ?_ ?_
            rotate_left
            · rintro w' ⟨s0, s1, s2, s3⟩
              go_simp
              with_reducible rfl
            rotate_left
            · simp only [aP]
              rfl
            refine pu_ 12 39 ?_ #[J,J,J,J,J,J,J,J,J,J,J,J,J,Z] rfl rfl ?_ ?_ ?_ ?_
            rotate_left
            · intro w'
              go_simp
              with_reducible rfl
            rotate_left
            · simp only [aP]
              rfl
            refine pu_ 13 40 ?_ #[J,J,J,J,J,J,J,J,J,J,J,J,J,J] rfl rfl ?_ ?_ ?_ ?_
            rotate_left
            · intro w'
              go_simp
              with_reducible rfl
            rotate_left
            · simp only [aP]
              rfl
            refine done_ (by kernel_rfl) ?_
            have HST2 := Aside0.mk (HST.out.trans (pick_yes (r := (x, y, z)) HU.out HRT.out (by rw [HBT.out]; exact hz)))
            have l0 := (B5.out.cell 0).trans rfl
            have l1 := (B5.out.cell 1).trans rfl
            have l2 := (B5.out.cell 2).trans rfl
            obtain ⟨d0, f0, d1, f1, d2, f2, hS6⟩ := store3 (.int .i64 x) (.int .i64 y) (.int .u32 z) B5.out.at3
            have B6 := Aside0.mk hS6
            clear hS6
            go_wp2_with fail
            go_roundg (gk - 1)
            case measure => have := AK.out; omega
            case rel => exact ⟨j + 1, x, y, z, by go_num, by have := AK.out; omega, HST2.out, B6.out.drop2.sw23⟩
    · obtain rfl : j = 2 := by omega
      have D0 := AS.out.drew
      have r0 := (D0.cell 0).trans rfl
      have r1 := (D0.cell 1).trans rfl
      have r2 := (D0.cell 2).trans rfl
      have d0 : wr.cell? ⟨W.heap.size, 0, none⟩ = some (.int .i64 0) := (AS.out.at2.cell 0).trans rfl
      have d1 : wr.cell? ⟨W.heap.size, 1, none⟩ = some (.int .i64 0) := (AS.out.at2.cell 1).trans rfl
      have d2 : wr.cell? ⟨W.heap.size, 2, none⟩ = some (.int .u32 0) := (AS.out.at2.cell 2).trans rfl
      have f0 := AS.out.at2.frozen 0
      have f1 := AS.out.at2.frozen 1
      have f2 := AS.out.at2.frozen 2
      have hS6 := (store3 (.int .i64 bx) (.int .i64 by_) (.int .u32 bz) AS.out.at2).2.2.2.2.2.2.drew
      obtain ⟨w6, hw6⟩ : ∃ w6, (((wr.setCell ⟨W.heap.size, 0, none⟩ (.int .i64 bx)).setCell ⟨W.heap.size, 1, none⟩ (.int .i64 by_)).setCell ⟨W.heap.size, 2, none⟩ (.int .u32 bz)).drew = w6 := ⟨_, rfl⟩
      rw [hw6] at hS6
      have B6 := Aside0.mk hS6
      clear hS6 hjm
      go_wp2_with fail
      refine start_ (n := 6) (S := fun w' => w'.cell? ⟨W.heap.size + 1, 0, none⟩ = some (.int .i64 bx) ∧ w'.cell? ⟨W.heap.size + 1, 1, none⟩ = some (.int .i64 by_) ∧ w'.cell? ⟨W.heap.size + 1, 2, none⟩ = some (.int .u32 bz)) (ds := []) #[Z,Z,Z,Z,Z,Z] (by kernel_rfl) rfl rfl ⟨r0, r1, r2⟩ (fun hHeld => ?_)
      refine pu_ 1 44 ?_ #[Z,J,Z,Z,Z,Z] rfl rfl ?_ ?_ ?_ ?_
      rotate_left
      · intro w'
        go_simp
        with_reducible rfl
      rotate_left
      · simp only [aP]
        rfl
      refine ta_ 0 43 ?_ #[J,J,Z,Z,Z,Z] rfl rfl ?_ hHeld ?_ ?_ ?_
      rotate_left
      · rintro w' ⟨s0, s1, s2⟩
        go_simp
        with_reducible rfl
      rotate_left
      · simp only [aP]
        rfl
      refine ta_ 2 45 ?_ #[J,J,J,Z,Z,Z] rfl rfl ?_ hHeld ?_ ?_ ?_
      rotate_left
      · rintro w' ⟨s0, s1, s2⟩
        go_simp
        with_reducible rfl
      rotate_left
      · simp only [aP]
        rfl
      refine pu_ 3 46 ?_ #[J,J,J,J,Z,Z] rfl rfl ?_ ?_ ?_ ?_
      rotate_left
      · intro w'
        go_simp
        with_reducible rfl
      rotate_left
      · simp only [aP]
        rfl
      refine one_ (i := 4) (N := none) #[J,J,J,J,J,Z] rfl rfl (by kernel_rfl) (by decide) (fun K hK => ?_)
      refine skip_ (w1 := ?_) (by rfl) rfl ?_ ?_
      rotate_left
      · go_simp
        rfl
      refine hK.out _ _ ⟨(B6.out.at2.cell 0).trans rfl, (B6.out.at2.cell 1).trans rfl, (B6.out.at2.cell 2).trans rfl⟩ (fun hHeld => ?_)
      clear hK K
      refine pu_ 5 3 ?_ #[J,J,J,J,J,J] rfl rfl ?_ ?_ ?_ ?_
      rotate_left
      · intro w'
        go_simp
        with_reducible rfl
      rotate_left
      · simp only [aP]
        rfl
      refine done_ (by kernel_rfl) ?_
      have q0 : w6.cell? ⟨W.heap.size, 0, none⟩ = some (.int .i64 bx) := (B6.out.cell 0).trans rfl
      have q1 : w6.cell? ⟨W.heap.size, 1, none⟩ = some (.int .i64 by_) := (B6.out.cell 1).trans rfl
      have q2 : w6.cell? ⟨W.heap.size, 2, none⟩ = some (.int .u32 bz) := (B6.out.cell 2).trans rfl
      clear r0 r1 r2 d0 d1 d2 f0 f1 f2 D0
      go_wp2_with fail
      go_retc (.tuple #[.agg #[.int .i64 bx, .int .i64 by_, .int .u32 bz], .bool (decide (0 < bz))])
      exact ⟨by rw [HBT.out]; rfl, B6.out.tail.tail⟩
end
end Go.Proofs.YtjngnigelkgekaaGreat.Root
