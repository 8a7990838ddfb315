/- Ref4, Ref5, Same, Ref6, Play: what HealCounts needs. -/
import Derived.Test.YtjngnigelkgekaaGreatThealCounts8
import Derived.Deep.Cut
import Derived.Deep.CutRange
import Derived.Deep.QuietTactic
set_option linter.unusedVariables false
set_option linter.unusedSimpArgs false
namespace Go.Proofs.YtjngnigelkgekaaGreat.Ref
open Go.RowKit Go.Proofs.YtjngnigelkgekaaGreatW.PrintWords Go.Proofs.YtjngnigelkgekaaGreatW.PrintLast Go.Proofs.YtjngnigelkgekaaGreatW.PrintMore Go.Proofs.YtjngnigelkgekaaGreat.Kit Go.Proofs.YtjngnigelkgekaaGreat.Disk
section
variable {w0 W : World} {g n : Nat} {las now : List Int} {wait : List Bool} {left done : Int} {F : List HP}
set_option maxHeartbeats 400000 in
theorem read_out (h : Sep w0 W (RD g n las now wait left done :: F)) (i : Int) (hi : ¬ (0 ≤ i ∧ i < (n : Int))) :
    Calls Tryz.prog 109 #[.pointer (some ⟨g, 0, none⟩), .int .i64 i] W fun e w' => e = .returned (.tuple #[.slice none 0 0, .bool false]) ∧ W = w' := by
  have AS := Aside0.mk h
  clear h
  by_cases h1 : i < 0
  · clear hi
    go_enter Tryz.func109, Tryz.ntmps109
    go_wp2
    go_ret2
    exact ⟨by first | rfl | (simp; done), rfl⟩
  · have h2 : (n : Int) ≤ i := by omega
    clear hi
    go_enter Tryz.func109, Tryz.ntmps109
    go_wp2_with fail
    refine (len_ AS.out).mono ?_
    rintro e w' ⟨rfl, rfl⟩
    go_wp2
    go_ret2
    exact ⟨by first | rfl | (simp; done), rfl⟩
set_option maxHeartbeats 800000 in
set_option maxRecDepth 100000 in
theorem read_in (h : Sep w0 W (RD g n las now wait left done :: F)) (i : Nat) (hi : i < n) :
    Calls Tryz.prog 109 #[.pointer (some ⟨g, 0, none⟩), .int .i64 (i : Int)] W fun e w' => ∃ v, e = .returned (.tuple #[v, .bool true]) ∧ Sep w0 w' (Row U8 5 v (sec now i) :: RD g n las now wait left done :: F) := by
  obtain ⟨gl, cl, gn, cn, gw, cw, ⟨n1, n2, n3, n4, n5, n6, n7, n8⟩, hs⟩ := open_ h
  have c1 : (W.alloc (.cells #[] 5)).cell? ⟨g, 1, none⟩ = some (.slice (some ⟨gn, 0, none⟩) (64 * n) cn) := ((hs.alloc _).cell 1).trans rfl
  have hcut := cutM_ (g := gn) (N := 64 * n) (c := cn) (j := 64 * i) (k := 64 * i + 64) (J := (i : Int) * 64) (K := ((i : Int) + 1) * 64) (by omega) (by omega) (by omega) (by omega) (by omega) n7
  have hr := hs.tail.tail.rowC.2.2
  have AP := Aside0.mk (C_piece hr (64 * i) 64 (by omega))
  have AL := Aside0.mk (h.litRow (enc := Value.int .u8) (h1 := fun _ => rfl) (e := 5) [] (by decide))
  have AS := Aside0.mk h
  have h1 : ¬ (i : Int) < 0 := by omega
  have h2 : ¬ (n : Int) ≤ (i : Int) := by omega
  have h64 : 64 * i + 64 - 64 * i = 64 := by omega
  clear h hs hr n3 n4 n5 n6 n7 n8
  go_enter Tryz.func109, Tryz.ntmps109
  go_wp2_with fail
  refine (len_ AS.out).mono ?_
  rintro e w' ⟨rfl, rfl⟩
  go_wp2_with (first | (refine gate_builtin (b := .append) (xs := #[.tmp 14, .tmp 24]) rfl ?_; go_loud (refine AL.out.appendRow rfl (.tmp 14) (.tmp 24) 24 (.int .u8 0) 1 rfl Tryz.underlying24 infoB rfl (by decide) (some ⟨gn, 64 * i, none⟩) 64 (cn - 64 * i) rfl rfl (Kd.C_alloc AP.out _) (by simp; omega) ?_; intro v1 w1 hS1; rw [List.nil_append] at hS1; have A1 := Aside0.mk hS1; clear hS1)))
  go_ret2
  exact ⟨_, by first | rfl | (simp; done), A1.out⟩
def waitsI (wait : List Bool) (j : Nat) : List Int := ((List.range j).filter (fun i => wait.getD i false)).map (fun k : Nat => (k : Int))
theorem waitsI_succ (wait : List Bool) (j : Nat) : waitsI wait (j + 1) = waitsI wait j ++ if wait.getD j false then [(j : Int)] else [] := by
  unfold waitsI
  rw [List.range_succ, List.filter_append, List.map_append]
  congr 1
  have hp : ∀ p : Nat → Bool, ([j].filter p).map (fun k : Nat => (k : Int)) = if p j then [(j : Int)] else [] := fun p => by
    by_cases h : p j = true <;> simp [h]
  exact hp (fun i => wait.getD i false)
theorem waitsI_len (wait : List Bool) (j : Nat) : (waitsI wait j).length ≤ j := by
  unfold waitsI
  rw [List.length_map]
  have := List.length_filter_le (fun i => wait.getD i false) (List.range j)
  rwa [List.length_range] at this
set_option maxHeartbeats 1600000 in
set_option maxRecDepth 100000 in
theorem waits_ (h : Sep w0 W (RD g n las now wait left done :: F)) :
    Calls Tryz.prog 59 #[.pointer (some ⟨g, 0, none⟩)] W fun e w' => ∃ v, e = .returned v ∧ Sep w0 w' (Row I64 3 v (waitsI wait n) :: RD g n las now wait left done :: F) := by
  obtain ⟨gl, cl, gn, cn, gw, cw, ⟨n1, n2, n3, n4, n5, n6, n7, n8⟩, hs⟩ := open_ h
  have c2 : W.cell? ⟨g, 2, none⟩ = some (.slice (some ⟨gw, 0, none⟩) n cw) := (hs.cell 2).trans rfl
  have AN : Aside0 (Sep w0 W (Row I64 3 (.slice none 0 0) [] :: Blk g 93 _ :: _)) := ⟨hs.nilRow I64 3⟩
  have A3 := Aside0.mk (And.intro n3 (And.intro n4 n5))
  clear h hs n3 n4 n5
  go_enter Tryz.func59, Tryz.ntmps59
  go_wp2_with fail
  go_loopg [3, 10] n (fun k v p wr => ∃ i : Nat, p = .int .i64 (i : Int) ∧ i + k = n ∧ Sep w0 wr (Row I64 3 v (waitsI wait i) :: Blk g 93 #[.slice (some ⟨gl, 0, none⟩) (64 * n) cl, .slice (some ⟨gn, 0, none⟩) (64 * n) cn, .slice (some ⟨gw, 0, none⟩) n cw, .int .i64 left, .int .i64 done] ::
      Row U8 5 (.slice (some ⟨gl, 0, none⟩) (64 * n) cl) las :: Row U8 5 (.slice (some ⟨gn, 0, none⟩) (64 * n) cn) now :: Row BK 4 (.slice (some ⟨gw, 0, none⟩) n cw) wait :: F))
  case atStart => exact ⟨0, rfl, by omega, AN.out⟩
  case round =>
    obtain ⟨i, rfl, hik, hS⟩ := hrel
    have AR := Aside0.mk hS
    have AK := Aside0.mk hik
    by_cases hi : i < n
    · have d2 : wr.cell? ⟨g, 2, none⟩ = some (.slice (some ⟨gw, 0, none⟩) n cw) := (hS.at2.cell 2).trans rfl
      obtain ⟨f1, f2⟩ := hS.at5.rowCell false i hi
      have hks := waitsI_succ wait i
      have hkl := waitsI_len wait i
      clear hS hik c2 f2
      cases hb : wait.getD i false with
      | false =>
        rw [hb] at f1
        rw [hb, if_neg (by decide), List.append_nil] at hks
        have AKS := Aside0.mk hks
        clear hks hb
        go_wp2_with fail
        go_roundg (gk - 1)
        case measure => have := AK.out; omega
        case rel => exact ⟨i + 1, by go_num, by have := AK.out; omega, by rw [AKS.out]; exact AR.out⟩
      | true =>
        rw [hb] at f1
        rw [hb, if_pos rfl] at hks
        have AKS := Aside0.mk hks
        have AKL := Aside0.mk hkl
        have AR2 := Aside0.mk (AR.out.litRow (enc := Value.int .i64) (h1 := fun _ => rfl) (e := 3) [(i : Int)] (by simp)).at2
        clear hks hb hkl
        go_wp2_with (first | (refine gate_builtin (b := .append) (xs := #[.tmp 20, .tmp 22]) rfl ?_; go_loud (refine AR2.out.appendRow rfl (.tmp 20) (.tmp 22) 22 (.int .i64 0) 8 rfl Tryz.underlying22 (by kernel_rfl) rfl (by omega) (some ⟨wr.heap.size, 0, none⟩) 1 1 rfl rfl AR2.out.at2.rowC.2.2 (by have := AKL.out; simp; omega) ?_; intro v1 w2 hS2; have AS2 := Aside0.mk hS2; clear hS2)))
        go_roundg (gk - 1)
        case measure => have := AK.out; omega
        case rel => exact ⟨i + 1, by go_num, by have := AK.out; omega, by rw [AKS.out]; exact AS2.out.drop2⟩
    · have hin : i = n := by omega
      subst hin
      clear hS hik c2
      go_wp2_with fail
      go_ret
      obtain ⟨n3, n4, n5⟩ := A3.out
      exact ⟨_, rfl, (shut_ n1 n2 n3 n4 n5 ((AR.out).to5)).at2⟩
end
end Go.Proofs.YtjngnigelkgekaaGreat.Ref
namespace Go.Proofs.YtjngnigelkgekaaGreat.Ref
open Go.RowKit Go.Proofs.YtjngnigelkgekaaGreatW.PrintWords Go.Proofs.YtjngnigelkgekaaGreatW.PrintLast Go.Proofs.YtjngnigelkgekaaGreatW.PrintMore Go.Proofs.YtjngnigelkgekaaGreat.Kit Go.Proofs.YtjngnigelkgekaaGreat.Disk
def waitL (n : Nat) (wt : Wt) : List Bool := (List.range n).map (fun i => (wt i).isSome)
theorem waitL_getD {n i : Nat} (wt : Wt) (hi : i < n) : (waitL n wt).getD i false = (wt i).isSome := by
  unfold waitL
  rw [List.getD_eq_getElem?_getD, List.getElem?_map, List.getElem?_range hi]
  rfl
theorem waitL_none (n : Nat) : waitL n (fun _ => none) = List.replicate n false := by
  apply List.ext_getElem?
  intro i
  unfold waitL
  by_cases hi : i < n
  · rw [List.getElem?_map, List.getElem?_range hi, List.getElem?_replicate, if_pos hi]; rfl
  · rw [List.getElem?_eq_none (by simp; omega), List.getElem?_eq_none (by simp; omega)]
theorem waitL_set {n : Nat} (wt : Wt) (i : Nat) (b : List Int) : (waitL n wt).set i true = waitL n (fun j => if j = i then some b else wt j) := by
  apply List.ext_getElem?
  intro j
  unfold waitL
  rw [List.getElem?_set, List.getElem?_map, List.getElem?_map, List.length_map, List.length_range]
  by_cases hj : j < n
  · rw [List.getElem?_range hj]
    by_cases hij : i = j
    · subst hij; rw [if_pos rfl, if_pos hj]; simp
    · rw [if_neg hij]; simp [show ¬ j = i from fun h => hij h.symm]
  · rw [List.getElem?_eq_none (by simp; omega)]
    by_cases hij : i = j
    · subst hij; rw [if_pos rfl, if_neg hj]; rfl
    · rw [if_neg hij]; rfl
theorem waits_keys (n : Nat) (wt : Wt) : waitsI (waitL n wt) n = (keysOf n wt).map (fun k : Nat => (k : Int)) := by
  unfold waitsI keysOf
  congr 1
  refine List.filter_congr fun i hi => ?_
  exact waitL_getD wt (List.mem_range.1 hi)
theorem flushed_write {las : List Int} {wt : Wt} {n i : Nat} {b : List Int} (hl : las.length = 64 * n) (hw : ∀ i b, wt i = some b → b.length = 64) (hi : i < n) (hb : b.length = 64) :
    over (flushed las wt) (64 * i) b = flushed las (fun j => if j = i then some b else wt j) := by
  unfold flushed
  rw [show las.length / 64 = n by omega]
  have hs : ∀ k, k < n → ((wt k).getD (sec las k)).length = 64 := fun k hk => by
    cases h : wt k with
    | none => exact sec_len (by omega)
    | some c => exact hw k c h
  rw [over_secs hs hi (by omega)]
  refine secs_congr fun k hk => ?_
  by_cases hki : k = i
  · simp only [if_pos hki, Option.getD_some]
    rw [List.drop_eq_nil_of_le (by rw [hs k hk, hb]; exact Nat.le_refl _), List.append_nil]
  · simp only [if_neg hki]
theorem sec_flushed {las : List Int} {wt : Wt} {n i : Nat} (hl : las.length = 64 * n) (hw : ∀ i b, wt i = some b → b.length = 64) (hi : i < n) : sec (flushed las wt) i = (wt i).getD (sec las i) := by
  unfold flushed
  rw [show las.length / 64 = n by omega]
  refine sec_secs (fun k hk => ?_) hi
  cases h : wt k with
  | none => exact sec_len (by omega)
  | some c => exact hw k c h
theorem flushed_len {las : List Int} {wt : Wt} {n : Nat} (h : las.length = 64 * n) (hw : ∀ i b, wt i = some b → b.length = 64) : (flushed las wt).length = 64 * n := by
  unfold flushed
  rw [show las.length / 64 = n by omega]
  refine secs_len fun i hi => ?_
  cases hb : wt i with
  | none => exact sec_len (by omega)
  | some b => exact hw i b hb
theorem crashTo_len {las : List Int} {wt : Wt} {cuts : List Int} {n j : Nat} (h : las.length = 64 * n) (hw : ∀ i b, wt i = some b → b.length = 64) : (crashTo las wt cuts j).length = 64 * n := by
  unfold crashTo
  rw [show las.length / 64 = n by omega]
  refine secs_len fun i hi => ?_
  split
  · exact cutS_len h hw i hi
  · exact sec_len (by omega)
theorem take_sec (l : List Int) {i m : Nat} (hm : m ≤ 64) : (l.drop (64 * i)).take m = (sec l i).take m := by
  unfold sec
  rw [List.take_take, Nat.min_eq_left hm]
section
variable {w0 W : World} {g n : Nat} {las now : List Int} {wait : List Bool} {left done : Int} {F : List HP} {wt : Wt}
set_option maxHeartbeats 3200000 in
set_option maxRecDepth 100000 in
theorem crash_ {A : Option Addr} {m c : Nat} {cuts : List Int} (h : Sep w0 W (RD g n las (flushed las wt) (waitL n wt) left done :: F)) (hw : ∀ i b, wt i = some b → b.length = 64) (hcu : ∀ W', Sep w0 W' F → I64.C W' A m cuts) :
    Calls Tryz.prog 19 #[.pointer (some ⟨g, 0, none⟩), .slice A m c] W fun e w' => e = .returned (.int .i64 ((keysOf n wt).length : Int)) ∧ Sep w0 w' (RD g n (crashed las wt cuts) (crashed las wt cuts) (List.replicate n false) left done :: F) := by
  have H0 := Aside0.mk h
  have HCU := Aside0.mk hcu
  have HW := Aside0.mk hw
  have hmc : cuts.length = m := (hcu W h.tail).1
  have hm : m ≤ 9223372036854775807 := (hcu W h.tail).2.1
  have AMC := Aside0.mk hmc
  clear h hcu hw hmc
  go_enter Tryz.func19, Tryz.ntmps19
  go_wp2_with fail
  refine (waits_ H0.out).mono ?_
  rintro e w1 ⟨vk, rfl, hI⟩
  rw [waits_keys] at hI
  obtain ⟨ks, hks⟩ : ∃ ks, (keysOf n wt).map (fun k : Nat => (k : Int)) = ks := ⟨_, rfl⟩
  rw [hks] at hI
  obtain ⟨gl, cl, gn, cn, gw, cw, ⟨n1, n2, n3, n4, n5, n6, n7, n8⟩, hs⟩ := open_ hI.at2
  have hkl : ks.length = (keysOf n wt).length := by rw [← hks, List.length_map]
  have hkn : ks.length ≤ 160 := by have := keys_len_le wt n; omega
  obtain ⟨Ak, ck, rfl⟩ := hI.rowV
  have HKS := Aside0.mk hks
  have HKL := Aside0.mk hkl
  have A3 := Aside0.mk (And.intro n3 (And.intro n4 n5))
  have A1 : Aside0 (Sep w0 w1 (Row I64 3 (.slice Ak ks.length ck) ks :: Blk g 93 #[.slice (some ⟨gl, 0, none⟩) (64 * n) cl, .slice (some ⟨gn, 0, none⟩) (64 * n) cn, .slice (some ⟨gw, 0, none⟩) n cw, .int .i64 left, .int .i64 done] ::
      Row U8 5 (.slice (some ⟨gl, 0, none⟩) (64 * n) cl) (crashTo las wt cuts 0) :: Row U8 5 (.slice (some ⟨gn, 0, none⟩) (64 * n) cn) (flushed las wt) :: Row BK 4 (.slice (some ⟨gw, 0, none⟩) n cw) (waitL n wt) :: F)) := ⟨by rw [crashTo_zero n3]; exact hs.at5⟩
  clear hI hs n3 n4 n5 hks hkl
  go_wp2_with fail
  go_loopg [13] ks.length (fun k p wr => ∃ j : Nat, p = .int .i64 (j : Int) ∧ j + k = ks.length ∧ Sep w0 wr (Row I64 3 (.slice Ak ks.length ck) ks :: Blk g 93 #[.slice (some ⟨gl, 0, none⟩) (64 * n) cl, .slice (some ⟨gn, 0, none⟩) (64 * n) cn, .slice (some ⟨gw, 0, none⟩) n cw, .int .i64 left, .int .i64 done] ::
      Row U8 5 (.slice (some ⟨gl, 0, none⟩) (64 * n) cl) (crashTo las wt cuts j) :: Row U8 5 (.slice (some ⟨gn, 0, none⟩) (64 * n) cn) (flushed las wt) :: Row BK 4 (.slice (some ⟨gw, 0, none⟩) n cw) (waitL n wt) :: F))
  case atStart => exact ⟨0, rfl, by omega, A1.out⟩
  case round =>
    obtain ⟨j, rfl, hjk, hS⟩ := hrel
    have AR := Aside0.mk hS
    have AK := Aside0.mk hjk
    by_cases hj : j < ks.length
    · obtain ⟨bk, ck', hform⟩ := hS.rowForm (by omega)
      cases hform
      have hj' : j < (keysOf n wt).length := by rw [← HKL.out]; exact hj
      obtain ⟨i, hki⟩ : ∃ i, (keysOf n wt)[j]? = some i := ⟨_, List.getElem?_eq_getElem hj'⟩
      obtain ⟨k1, k2, k3⟩ := (keys_at wt _ j i).1 hki
      have hkv : ks.getD j 0 = (i : Int) := by rw [← HKS.out, List.getD_eq_getElem?_getD, List.getElem?_map, hki]; rfl
      have hkc : wr.cell? ⟨bk, j, none⟩ = some (.int .i64 (i : Int)) := by
        have := (hS.rowCell (0 : Int) j hj).1; rw [hkv] at this; exact this
      obtain ⟨b, hwb⟩ := Option.isSome_iff_exists.1 k2
      have hst := crashTo_step (cuts := cuts) A3.out.1 HW.out hki hwb
      have AST := Aside0.mk hst
      have HSEC : Aside0 (sec (flushed las wt) i = b) := ⟨by rw [sec_flushed A3.out.1 HW.out k1, hwb]; rfl⟩
      clear hS hjk hkv hki k2 k3 hwb hst hj'
      go_upto_if 21 with fail
      go_cut [8] from 14 to 47 (fun p wx => p = .int .i64 (cutN cuts j : Int) ∧ wx = wr)
      case first =>
        by_cases hjc : j < m
        · obtain ⟨ad, hA, hcc⟩ := Kd.at_int (HCU.out wr AR.out.tail.tail.tail.tail.tail) (j : Int) (by omega) (by omega)
          subst hA
          rw [Int.toNat_natCast] at hcc
          have hE := cut_is (cuts := cuts) (j := j) (by rw [AMC.out]; exact hjc)
          have hE2 : max (min (rd cuts (j : Int)) 64) 0 = (cutN cuts j : Int) := by rw [← hE]; repeat' split
                                                                                    all_goals omega
          have hE3 : max 0 (min (rd cuts (j : Int)) 64) = (cutN cuts j : Int) := by rw [← hE2]; exact Int.max_comm _ _
          generalize rd cuts (j : Int) = x at *
          clear hE
          go_wp2_with fail
          go_meet
          case rel => exact ⟨rfl, rfl⟩
        · have hz : cutN cuts j = 0 := by unfold cutN; rw [if_neg (by rw [AMC.out]; omega)]
          go_wp2_with fail
          go_meet
          case rel => exact ⟨by rw [hz]; rfl, rfl⟩
      case rest =>
        obtain ⟨rfl, rfl⟩ := hcut
        have M64 : cutN cuts j ≤ 64 := cutN_le cuts j
        generalize cutN cuts j = M at *
        have hlo := cutM_ (g := gl) (N := 64 * n) (c := cl) (j := 64 * i) (k := 64 * i + M) (J := (i : Int) * 64) (K := (i : Int) * 64 + (M : Int)) (by omega) (by omega) (by omega) (by omega) (by omega) n6
        have hfr := cutF_ (g := gn) (N := 64 * n) (c := cn) (j := 64 * i) (J := (i : Int) * 64) (by omega) (by omega) n7
        rw [Nat.add_sub_cancel_left] at hlo
        have c0 : wc.drew.cell? ⟨g, 0, none⟩ = some (.slice (some ⟨gl, 0, none⟩) (64 * n) cl) := (AR.out.drew.at2.cell 0).trans rfl
        have c1 : wc.drew.cell? ⟨g, 1, none⟩ = some (.slice (some ⟨gn, 0, none⟩) (64 * n) cn) := (AR.out.drew.at2.cell 1).trans rfl
        have AD := Aside0.mk AR.out.drew.at3
        go_wp2_with fail
        have hw1 : wrap64 ((i : Int) * 64) = (i : Int) * 64 := IntWalk.wrap64_in _ (by omega)
        have hw2 : wrap64 ((i : Int) * 64 + (M : Int)) = (i : Int) * 64 + (M : Int) := IntWalk.wrap64_in _ (by omega)
        refine start_ (n := 19) (S := fun w' => w'.cell? ⟨g, 0, none⟩ = some (.slice (some ⟨gl, 0, none⟩) (64 * n) cl) ∧ w'.cell? ⟨g, 1, none⟩ = some (.slice (some ⟨gn, 0, none⟩) (64 * n) cn)) (ds := [18]) #[false, false, false, false, false, false, false, false, false, false, false, false, false, false, false, false, false, false, false] (by kernel_rfl) rfl rfl ⟨c0, c1⟩ (fun hHeld => ?_)
        refine pure_ (i := 0) (N := some 28) (v := ?_) (a' := ?_) #[true, false, false, false, false, false, false, false, false, false, false, false, false, false, false, false, false, false, false] rfl rfl (by kernel_rfl) (fun _ _ _ h => h) (Or.inl ⟨by rfl, ?_⟩) ?_ ?_
        rotate_left
        · intro w'
          go_simp
          with_reducible rfl
        rotate_left
        · simp only [Act.put, sIB, sCz, sCs, i64_w, i32_w]
          rfl
        refine pure_ (i := 1) (N := some 29) (v := ?_) (a' := ?_) #[true, true, false, false, false, false, false, false, false, false, false, false, false, false, false, false, false, false, false] rfl rfl (by kernel_rfl) (fun _ _ _ h => h) (Or.inl ⟨by rfl, ?_⟩) ?_ ?_
        rotate_left
        · intro w'
          go_simp
          with_reducible rfl
        rotate_left
        · simp only [Act.put, sIB, sCz, sCs, i64_w, i32_w]
          rfl
        refine pure_ (i := 2) (N := some 30) (v := ?_) (a' := ?_) #[true, true, true, false, false, false, false, false, false, false, false, false, false, false, false, false, false, false, false] rfl rfl (by kernel_rfl) (fun _ _ _ h => h) (Or.inl ⟨by rfl, ?_⟩) ?_ ?_
        rotate_left
        · intro w'
          go_simp
          with_reducible rfl
        rotate_left
        · simp only [Act.put, sIB, sCz, sCs, i64_w, i32_w]
          rfl
        refine pure_ (i := 4) (N := some 32) (v := ?_) (a' := ?_) #[true, true, true, false, true, false, false, false, false, false, false, false, false, false, false, false, false, false, false] rfl rfl (by kernel_rfl) (fun _ _ _ h => h) (Or.inl ⟨by rfl, ?_⟩) ?_ ?_
        rotate_left
        · intro w'
          go_simp
          with_reducible rfl
        rotate_left
        · simp only [Act.put, sIB, sCz, sCs, i64_w, i32_w]
          rfl
        refine pure_ (i := 5) (N := some 33) (v := ?_) (a' := ?_) #[true, true, true, false, true, true, false, false, false, false, false, false, false, false, false, false, false, false, false] rfl rfl (by kernel_rfl) (fun _ _ _ h => h) (Or.inl ⟨by rfl, ?_⟩) ?_ ?_
        rotate_left
        · intro w'
          go_simp
          with_reducible rfl
        rotate_left
        · simp only [Act.put, sIB, sCz, sCs, i64_w, i32_w]
          rfl
        refine pure_ (i := 6) (N := some 34) (v := ?_) (a' := ?_) #[true, true, true, false, true, true, true, false, false, false, false, false, false, false, false, false, false, false, false] rfl rfl (by kernel_rfl) (fun _ _ _ h => h) (Or.inl ⟨by rfl, ?_⟩) ?_ ?_
        rotate_left
        · intro w'
          go_simp
          with_reducible rfl
        rotate_left
        · simp only [Act.put, sIB, sCz, sCs, i64_w, i32_w]
          rfl
        refine pure_ (i := 7) (N := some 35) (v := ?_) (a' := ?_) #[true, true, true, false, true, true, true, true, false, false, false, false, false, false, false, false, false, false, false] rfl rfl (by kernel_rfl) (fun _ _ _ h => h) (Or.inl ⟨by rfl, ?_⟩) ?_ ?_
        rotate_left
        · intro w'
          go_simp
          with_reducible rfl
        rotate_left
        · simp only [Act.put, sIB, sCz, sCs, i64_w, i32_w]
          rfl
        refine pure_ (i := 8) (N := some 36) (v := ?_) (a' := ?_) #[true, true, true, false, true, true, true, true, true, false, false, false, false, false, false, false, false, false, false] rfl rfl (by kernel_rfl) (fun _ _ _ h => h) (Or.inl ⟨by rfl, ?_⟩) ?_ ?_
        rotate_left
        · intro w'
          go_simp
          with_reducible rfl
        rotate_left
        · simp only [Act.put, sIB, sCz, sCs, i64_w, i32_w]
          rfl
        refine pure_ (i := 9) (N := some 37) (v := ?_) (a' := ?_) #[true, true, true, false, true, true, true, true, true, true, false, false, false, false, false, false, false, false, false] rfl rfl (by kernel_rfl) (fun _ _ _ h => h) (Or.inl ⟨by rfl, ?_⟩) ?_ ?_
        rotate_left
        · intro w'
          go_simp
          with_reducible rfl
        rotate_left
        · simp only [Act.put, sIB, sCz, sCs, i64_w, i32_w]
          rfl
        refine pure_ (i := 11) (N := some 39) (v := ?_) (a' := ?_) #[true, true, true, false, true, true, true, true, true, true, false, true, false, false, false, false, false, false, false] rfl rfl (by kernel_rfl) (fun _ _ _ h => h) (Or.inl ⟨by rfl, ?_⟩) ?_ ?_
        rotate_left
        · intro w'
          go_simp
          with_reducible rfl
        rotate_left
        · simp only [Act.put, sIB, sCz, sCs, i64_w, i32_w]
          rfl
        refine pure_ (i := 12) (N := some 40) (v := ?_) (a' := ?_) #[true, true, true, false, true, true, true, true, true, true, false, true, true, false, false, false, false, false, false] rfl rfl (by kernel_rfl) (fun _ _ _ h => h) (Or.inl ⟨by rfl, ?_⟩) ?_ ?_
        rotate_left
        · intro w'
          go_simp
          with_reducible rfl
        rotate_left
        · simp only [Act.put, sIB, sCz, sCs, i64_w, i32_w]
          rfl
        refine pure_ (i := 13) (N := some 41) (v := ?_) (a' := ?_) #[true, true, true, false, true, true, true, true, true, true, false, true, true, true, false, false, false, false, false] rfl rfl (by kernel_rfl) (fun _ _ _ h => h) (Or.inl ⟨by rfl, ?_⟩) ?_ ?_
        rotate_left
        · intro w'
          go_simp
          with_reducible rfl
        rotate_left
        · simp only [Act.put, sIB, sCz, sCs, i64_w, i32_w]
          rfl
        refine pure_ (i := 15) (N := some 43) (v := ?_) (a' := ?_) #[true, true, true, false, true, true, true, true, true, true, false, true, true, true, false, true, false, false, false] rfl rfl (by kernel_rfl) (fun _ _ _ h => h) (Or.inl ⟨by rfl, ?_⟩) ?_ ?_
        rotate_left
        · intro w'
          go_simp
          with_reducible rfl
        rotate_left
        · simp only [Act.put, sIB, sCz, sCs, i64_w, i32_w]
          rfl
        refine pure_ (i := 16) (N := some 44) (v := ?_) (a' := ?_) #[true, true, true, false, true, true, true, true, true, true, false, true, true, true, false, true, true, false, false] rfl rfl (by kernel_rfl) (fun _ _ _ h => h) (Or.inl ⟨by rfl, ?_⟩) ?_ ?_
        rotate_left
        · intro w'
          go_simp
          with_reducible rfl
        rotate_left
        · simp only [Act.put, sIB, sCz, sCs, i64_w, i32_w]
          rfl
        refine take_ (i := 3) (N := some 31) (v := ?_) (a' := ?_) #[true, true, true, true, true, true, true, true, true, true, false, true, true, true, false, true, true, false, false] rfl rfl (by kernel_rfl) (fun _ _ _ h => h) (Or.inl ⟨by rfl, ?_⟩) hHeld ?_ ?_
        rotate_left
        · rintro w' ⟨s0, s1⟩
          go_simp
          with_reducible rfl
        rotate_left
        · simp only [Act.put, sIB, sCz, sCs, i64_w, i32_w]
          rfl
        refine pure_ (i := 10) (N := some 38) (v := ?_) (a' := ?_) #[true, true, true, true, true, true, true, true, true, true, true, true, true, true, false, true, true, false, false] rfl rfl (by kernel_rfl) (fun _ _ _ h => h) (Or.inl ⟨by rfl, ?_⟩) ?_ ?_
        rotate_left
        · intro w'
          go_simp
          with_reducible rfl
        rotate_left
        · simp only [Act.put, sIB, sCz, sCs, i64_w, i32_w]
          rfl
        refine take_ (i := 14) (N := some 42) (v := ?_) (a' := ?_) #[true, true, true, true, true, true, true, true, true, true, true, true, true, true, true, true, true, false, false] rfl rfl (by kernel_rfl) (fun _ _ _ h => h) (Or.inl ⟨by rfl, ?_⟩) hHeld ?_ ?_
        rotate_left
        · rintro w' ⟨s0, s1⟩
          go_simp
          with_reducible rfl
        rotate_left
        · simp only [Act.put, sIB, sCz, sCs, i64_w, i32_w]
          rfl
        refine pure_ (i := 17) (N := some 45) (v := ?_) (a' := ?_) #[true, true, true, true, true, true, true, true, true, true, true, true, true, true, true, true, true, true, false] rfl rfl (by kernel_rfl) (fun _ _ _ h => h) (Or.inl ⟨by rfl, ?_⟩) ?_ ?_
        rotate_left
        · intro w'
          go_simp
          with_reducible rfl
        rotate_left
        · simp only [Act.put, sIB, sCz, sCs, i64_w, i32_w]
          rfl
        refine last_ (i := 18) (N := some 46) #[true, true, true, true, true, true, true, true, true, true, true, true, true, true, true, true, true, true, true] rfl rfl (by kernel_rfl) (by decide) (fun K hK => ?_)
        clear hw1 hw2
        have hCn : U8.C wc.drew (some ⟨gn, 64 * i, none⟩) (64 * n - 64 * i) ((flushed las wt).drop (64 * i)) := by have := C_piece (by have := AD.out.at4.rowC.2.2; rwa [A3.out.2.1] at this) (64 * i) (64 * n - 64 * i) (by omega); rwa [List.take_of_length_le (by rw [List.length_drop, A3.out.2.1]; exact Nat.le_refl _)] at this
        refine AD.out.copyStep (by rfl) (.tmp 38) (.tmp 45) rfl Tryz.underlying24 size1 (o := 64 * i) (n' := M) (c' := cl - 64 * i) (m := 64 * n - 64 * i) (c := cn - 64 * i) (A := some ⟨gn, 64 * i, none⟩) (ys := (flushed las wt).drop (64 * i)) rfl rfl hCn (by omega) (fun W2 hS2 => ?_)
        rw [take_sec _ M64, HSEC.out, AST.out] at hS2
        have A2 := Aside0.mk hS2
        clear hS2 c0 c1 hCn
        refine hK.out _ _ ?_
        clear hK K
        refine norm_ (a' := ?_) ?_ ?_
        rotate_left
        · show Act.put _ (some 46) _ = _
          simp only [Act.put, sIB, sCz, sCs, i64_w, i32_w]
          rfl
        refine done_ (by kernel_rfl) ?_
        go_wp2_with fail
        go_roundg (gk - 1)
        case measure => have := AK.out; omega
        case rel => exact ⟨j + 1, by go_num, by have := AK.out; omega, A2.out.to3⟩
    · have hjn : j = ks.length := by omega
      have hall : crashTo las wt cuts j = crashed las wt cuts := by rw [hjn, HKL.out]; exact crashTo_all A3.out.1
      have A0 : Aside0 _ := ⟨AR.out.tail⟩
      rw [hall] at A0
      have hcl : (crashed las wt cuts).length = 64 * n := by rw [← hall]; exact crashTo_len A3.out.1 HW.out
      obtain ⟨L, hL⟩ : ∃ L, crashed las wt cuts = L := ⟨_, rfl⟩
      rw [hL] at A0 hcl
      have HCL := Aside0.mk hcl
      have HL := Aside0.mk hL
      have c0 : wr.drew.cell? ⟨g, 0, none⟩ = some (.slice (some ⟨gl, 0, none⟩) (64 * n) cl) := (A0.out.drew.cell 0).trans rfl
      have c1 : wr.drew.cell? ⟨g, 1, none⟩ = some (.slice (some ⟨gn, 0, none⟩) (64 * n) cn) := (A0.out.drew.cell 1).trans rfl
      have AD := Aside0.mk A0.out.drew.at3
      have hmk := makeT (m := n) (by omega)
      clear hS hjk hall AR A0 hcl hL
      go_wp2_with fail
      refine start_ (n := 9) (S := fun w' => w'.cell? ⟨g, 1, none⟩ = some (.slice (some ⟨gn, 0, none⟩) (64 * n) cn) ∧ w'.cell? ⟨g, 0, none⟩ = some (.slice (some ⟨gl, 0, none⟩) (64 * n) cl)) (ds := [8]) #[false, false, false, false, false, false, false, false, false] (by kernel_rfl) rfl rfl ⟨c1, c0⟩ (fun hHeld => ?_)
      refine pure_ (i := 0) (N := some 48) (v := ?_) (a' := ?_) #[true, false, false, false, false, false, false, false, false] rfl rfl (by kernel_rfl) (fun _ _ _ h => h) (Or.inl ⟨by rfl, ?_⟩) ?_ ?_
      rotate_left
      · intro w'
        go_simp
        with_reducible rfl
      rotate_left
      · simp only [Act.put, sIB, sCz, sCs, i64_w, i32_w]
        rfl
      refine pure_ (i := 1) (N := some 49) (v := ?_) (a' := ?_) #[true, true, false, false, false, false, false, false, false] rfl rfl (by kernel_rfl) (fun _ _ _ h => h) (Or.inl ⟨by rfl, ?_⟩) ?_ ?_
      rotate_left
      · intro w'
        go_simp
        with_reducible rfl
      rotate_left
      · simp only [Act.put, sIB, sCz, sCs, i64_w, i32_w]
        rfl
      refine pure_ (i := 2) (N := some 50) (v := ?_) (a' := ?_) #[true, true, true, false, false, false, false, false, false] rfl rfl (by kernel_rfl) (fun _ _ _ h => h) (Or.inl ⟨by rfl, ?_⟩) ?_ ?_
      rotate_left
      · intro w'
        go_simp
        with_reducible rfl
      rotate_left
      · simp only [Act.put, sIB, sCz, sCs, i64_w, i32_w]
        rfl
      refine pure_ (i := 4) (N := some 52) (v := ?_) (a' := ?_) #[true, true, true, false, true, false, false, false, false] rfl rfl (by kernel_rfl) (fun _ _ _ h => h) (Or.inl ⟨by rfl, ?_⟩) ?_ ?_
      rotate_left
      · intro w'
        go_simp
        with_reducible rfl
      rotate_left
      · simp only [Act.put, sIB, sCz, sCs, i64_w, i32_w]
        rfl
      refine pure_ (i := 5) (N := some 53) (v := ?_) (a' := ?_) #[true, true, true, false, true, true, false, false, false] rfl rfl (by kernel_rfl) (fun _ _ _ h => h) (Or.inl ⟨by rfl, ?_⟩) ?_ ?_
      rotate_left
      · intro w'
        go_simp
        with_reducible rfl
      rotate_left
      · simp only [Act.put, sIB, sCz, sCs, i64_w, i32_w]
        rfl
      refine pure_ (i := 6) (N := some 54) (v := ?_) (a' := ?_) #[true, true, true, false, true, true, true, false, false] rfl rfl (by kernel_rfl) (fun _ _ _ h => h) (Or.inl ⟨by rfl, ?_⟩) ?_ ?_
      rotate_left
      · intro w'
        go_simp
        with_reducible rfl
      rotate_left
      · simp only [Act.put, sIB, sCz, sCs, i64_w, i32_w]
        rfl
      refine take_ (i := 3) (N := some 51) (v := ?_) (a' := ?_) #[true, true, true, true, true, true, true, false, false] rfl rfl (by kernel_rfl) (fun _ _ _ h => h) (Or.inl ⟨by rfl, ?_⟩) hHeld ?_ ?_
      rotate_left
      · rintro w' ⟨s0, s1⟩
        go_simp
        with_reducible rfl
      rotate_left
      · simp only [Act.put, sIB, sCz, sCs, i64_w, i32_w]
        rfl
      refine take_ (i := 7) (N := some 55) (v := ?_) (a' := ?_) #[true, true, true, true, true, true, true, true, false] rfl rfl (by kernel_rfl) (fun _ _ _ h => h) (Or.inl ⟨by rfl, ?_⟩) hHeld ?_ ?_
      rotate_left
      · rintro w' ⟨s0, s1⟩
        go_simp
        with_reducible rfl
      rotate_left
      · simp only [Act.put, sIB, sCz, sCs, i64_w, i32_w]
        rfl
      refine last_ (i := 8) (N := some 56) #[true, true, true, true, true, true, true, true, true] rfl rfl (by kernel_rfl) (by decide) (fun K hK => ?_)
      have hCl : U8.C wr.drew (some ⟨gl, 0, none⟩) (64 * n) L := by have := AD.out.at3.rowC.2.2; rwa [HCL.out] at this
      refine AD.out.copyStep (by rfl) (.tmp 51) (.tmp 55) rfl Tryz.underlying24 size1 (o := 0) (n' := 64 * n) (c' := cn) (m := 64 * n) (c := cl) (A := some ⟨gl, 0, none⟩) (ys := L) rfl rfl hCl (by omega) (fun W2 hS2 => ?_)
      rw [List.take_of_length_le (by rw [HCL.out]; exact Nat.le_refl _), over_all (by rw [HCL.out, A3.out.2.1])] at hS2
      have A2 := Aside0.mk hS2
      have c2 : W2.cell? ⟨g, 2, none⟩ = some (.slice (some ⟨gw, 0, none⟩) n cw) := (hS2.at2.cell 2).trans rfl
      have A4 := Aside0.mk (madeT n hS2 (by omega))
      have c3 : (W2.alloc (.cells (madeCells #[.bool false] n) 4)).cell? ⟨g, 2, none⟩ = some (.slice (some ⟨gw, 0, none⟩) n cw) := (A4.out.at3.cell 2).trans rfl
      have z3 := A4.out.at3.frozen 2
      clear hS2 c0 c1 hCl
      refine hK.out _ _ ?_
      clear hK K
      refine norm_ (a' := ?_) ?_ ?_
      rotate_left
      · show Act.put _ (some 56) _ = _
        simp only [Act.put, sIB, sCz, sCs, i64_w, i32_w]
        rfl
      refine done_ (by kernel_rfl) ?_
      go_wp2_with fail
      go_ret
      have h5 := A4.out.at3.setBlk 2 (.slice (some ⟨W2.heap.size, 0, none⟩) n n)
      have h6 := h5.at5.tail
      refine ⟨?_, ?_⟩
      · rw [← HKL.out]; rfl
      · rw [HL.out]; exact shut_ n1 n2 HCL.out HCL.out (List.length_replicate ..) (h6.at2.to4.sw23)
end
end Go.Proofs.YtjngnigelkgekaaGreat.Ref
namespace Go.Proofs.YtjngnigelkgekaaGreat.Book
end Go.Proofs.YtjngnigelkgekaaGreat.Book
namespace Go.Proofs.YtjngnigelkgekaaGreat.Kit.Sep
end Go.Proofs.YtjngnigelkgekaaGreat.Kit.Sep
namespace Go.Proofs.YtjngnigelkgekaaGreat.Ref
end Go.Proofs.YtjngnigelkgekaaGreat.Ref
namespace Go.Proofs.YtjngnigelkgekaaGreat.Ref
open Go.RowKit Go.Proofs.YtjngnigelkgekaaGreatW.PrintWords Go.Proofs.YtjngnigelkgekaaGreatW.PrintLast Go.Proofs.YtjngnigelkgekaaGreatW.PrintMore Go.Proofs.YtjngnigelkgekaaGreat.Kit Go.Proofs.YtjngnigelkgekaaGreat.Disk
section
variable {w0 W : World} {g gr n : Nat} {las : List Int} {done : Nat} {F : List HP} {wt : Wt}
theorem rflush_ (h : Sep w0 W (RD gr n las (flushed las wt) (waitL n wt) (-1) (done : Int) :: F)) (hl : las.length = 64 * n) (hw : ∀ i b, wt i = some b → b.length = 64) (hd : done ≤ 1000000) :
    Calls Tryz.prog 44 #[.pointer (some ⟨gr, 0, none⟩)] W fun e w' => e = .returned (.tuple #[]) ∧ Sep w0 w' (RD gr n (flushed las wt) (flushed (flushed las wt) (fun _ => none)) (waitL n (fun _ => none)) (-1) ((done + 1 : Nat) : Int) :: F) := by
  refine (flush_in h (by decide) (by decide) (by omega)).mono ?_
  rintro e w' ⟨rfl, hS⟩
  refine ⟨rfl, ?_⟩
  rw [flushed_none (flushed_len hl hw), waitL_none]
  exact hS
theorem rwrite_ (h : Sep w0 W (RD gr n las (flushed las wt) (waitL n wt) (-1) (done : Int) :: F)) (hl : las.length = 64 * n) (hw : ∀ i b, wt i = some b → b.length = 64) (hd : done ≤ 1000000) (i : Nat) (hi : i < n) {A : Option Addr} {c : Nat} {b : List Int} (hb : ∀ W', Sep w0 W' F → U8.C W' A 64 b) :
    Calls Tryz.prog 79 #[.pointer (some ⟨gr, 0, none⟩), .int .i64 (i : Int), .slice A 64 c] W fun e w' => e = .returned (.bool true) ∧ Sep w0 w' (RD gr n las (flushed las (fun j => if j = i then some b else wt j)) (waitL n (fun j => if j = i then some b else wt j)) (-1) ((done + 1 : Nat) : Int) :: F) := by
  refine (write_in h (by decide) (by decide) (by omega) i hi hb).mono ?_
  rintro e w' ⟨rfl, hS⟩
  refine ⟨rfl, ?_⟩
  rw [← flushed_write hl hw hi (hb W h.tail).1, ← waitL_set wt i b]
  exact hS
theorem rcrash_ {A : Option Addr} {m c : Nat} {cuts : List Int} (h : Sep w0 W (RD gr n las (flushed las wt) (waitL n wt) (-1) (done : Int) :: F)) (hl : las.length = 64 * n) (hw : ∀ i b, wt i = some b → b.length = 64) (hcu : ∀ W', Sep w0 W' F → I64.C W' A m cuts) :
    Calls Tryz.prog 19 #[.pointer (some ⟨gr, 0, none⟩), .slice A m c] W fun e w' => e = .returned (.int .i64 ((keysOf (las.length / 64) wt).length : Int)) ∧ Sep w0 w' (RD gr n (crashed las wt cuts) (flushed (crashed las wt cuts) (fun _ => none)) (waitL n (fun _ => none)) (-1) (done : Int) :: F) := by
  refine (crash_ h hw hcu).mono ?_
  rintro e w' ⟨rfl, hS⟩
  rw [show las.length / 64 = n by omega]
  refine ⟨rfl, ?_⟩
  have hcl : (crashed las wt cuts).length = 64 * n := by
    unfold crashed
    rw [show las.length / 64 = n by omega]
    exact secs_len (cutS_len hl hw)
  rw [flushed_none hcl, waitL_none]
  exact hS
theorem rread_ {left dn : Int} (h : Sep w0 W (RD gr n las (flushed las wt) (waitL n wt) left dn :: F)) (hl : las.length = 64 * n) (hw : ∀ i b, wt i = some b → b.length = 64) (i : Nat) (hi : i < n) :
    Calls Tryz.prog 109 #[.pointer (some ⟨gr, 0, none⟩), .int .i64 (i : Int)] W fun e w' => ∃ v, e = .returned (.tuple #[v, .bool true]) ∧ Sep w0 w' (Row U8 5 v ((wt i).getD (sec las i)) :: RD gr n las (flushed las wt) (waitL n wt) left dn :: F) := by
  refine (read_in h i hi).mono ?_
  rintro e w' ⟨v, rfl, hS⟩
  rw [sec_flushed hl hw hi] at hS
  exact ⟨v, rfl, hS⟩
theorem got_len (hl : las.length = 64 * n) (hw : ∀ i b, wt i = some b → b.length = 64) {i : Nat} (hi : i < n) : ((wt i).getD (sec las i)).length = 64 := by
  cases h : wt i with
  | none => exact sec_len (by omega)
  | some b => exact hw i b h
theorem upd_len {i : Nat} {b : List Int} (hw : ∀ i b, wt i = some b → b.length = 64) (hb : b.length = 64) : ∀ k c, (fun j => if j = i then some b else wt j) k = some c → c.length = 64 := fun k c h => by
  by_cases hki : k = i
  · simp only [if_pos hki] at h; injection h with h; rw [← h]; exact hb
  · simp only [if_neg hki] at h; exact hw k c h
theorem none_len : ∀ (i : Nat) (b : List Int), (fun _ => none : Wt) i = some b → b.length = 64 := fun i b h => by cases h
end
end Go.Proofs.YtjngnigelkgekaaGreat.Ref
