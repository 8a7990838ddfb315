/- Package nest: match, Of, Deep. -/
import Derived.Test.YtkkgfpdjlohojaaNest7
import Derived.Test.YtkkgfpdjlohojaaTok
namespace Go.Proofs.Ytkkgfpdjlohojaa.Nest
set_option linter.unusedVariables false
set_option linter.unusedSimpArgs false
open Go.RowKit Go.Proofs.YtkkgfpdjlohojaaW.PrintWords Go.Proofs.YtkkgfpdjlohojaaW.PrintLast Go.Proofs.YtkkgfpdjlohojaaW.PrintMore Go.Proofs.Ytkkgfpdjlohojaa.Kit
open Go.Proofs.Ytkkgfpdjlohojaa.NestP Go.Proofs.Ytkkgfpdjlohojaa.TokP Go.Proofs.Ytkkgfpdjlohojaa.Tok
theorem fill_set (n j : Nat) (hj : j < n) : (List.replicate j (-1 : Int) ++ List.replicate (n - j) 0).set j (-1) = List.replicate (j + 1) (-1) ++ List.replicate (n - (j + 1)) 0 := by
  rw [List.set_append_right _ _ (by simp), List.length_replicate, Nat.sub_self, show n - j = (n - (j + 1)) + 1 by omega, List.replicate_succ, List.set_cons_zero]
  rw [List.replicate_succ' (n := j), List.append_assoc]
  rfl
theorem alloc_size (w : World) (o : Obj) : (w.alloc o).heap.size = w.heap.size + 1 := by simp
def contN (t : List Int) (i : Nat) : Option MS → Option MS
  | none => none
  | some m2 => NestP.runN i t m2
theorem runN_step (i : Nat) (s : Int) (t : List Int) (m : MS) : NestP.runN i (s :: t) m = contN t (i + 1) (tokN i s m) := by
  unfold contN
  rw [NestP.runN]
  cases tokN i s m <;> rfl
def mtch (gm : Nat) (w0 w' : World) (F : List HP) (e : Ending) : Option MS → Prop
  | some m => e = .returned (.tuple #[.pointer (some ⟨gm, 0, none⟩), .bool true]) ∧ Sep w0 w' (Mt gm m :: F)
  | none => e = .returned (.tuple #[.pointer (some ⟨gm, 0, none⟩), .bool false]) ∧ Sep w0 w' F
theorem matchN_def (sg : List Int) : matchN sg = match NestP.runN 0 sg ⟨List.replicate sg.length (-1), [], 0⟩ with
  | some m => if m.opn = [] then some m else none
  | none => none := rfl
theorem mtch_some {gm : Nat} {w0 w' : World} {F : List HP} {sg : List Int} {m : MS} {n : Nat} (hn : sg.length = n) (h : NestP.runN 0 sg ⟨List.replicate n (-1), [], 0⟩ = some m) (hS : Sep w0 w' (Mt gm m :: F)) :
    mtch gm w0 w' F (.returned (.tuple #[.pointer (some ⟨gm, 0, none⟩), .bool (decide (m.opn.length = 0))])) (matchN sg) := by
  subst hn
  rw [matchN_def, h]
  dsimp only
  by_cases h0 : m.opn = []
  · rw [if_pos h0, h0]
    exact ⟨rfl, hS⟩
  · rw [if_neg h0, decide_eq_false (fun h1 => h0 (List.eq_nil_of_length_eq_zero h1))]
    exact ⟨rfl, hS.tail⟩
theorem mtch_none {gm : Nat} {w0 w' : World} {F : List HP} {sg : List Int} {n : Nat} (hn : sg.length = n) (h : NestP.runN 0 sg ⟨List.replicate n (-1), [], 0⟩ = none) (hS : Sep w0 w' F) :
    mtch gm w0 w' F (.returned (.tuple #[.pointer (some ⟨gm, 0, none⟩), .bool false])) (matchN sg) := by
  subst hn
  rw [matchN_def, h]
  exact ⟨rfl, hS⟩
section
variable {w0 W : World} {F : List HP}
theorem mt_new {gm gt n : Nat} (h : Sep w0 W (Blk gm 69 #[.slice (some ⟨gt, 0, none⟩) n n, .slice none 0 0, .int .i64 0] :: Row I64 3 (.slice (some ⟨gt, 0, none⟩) n n) (List.replicate n (-1)) :: F)) : Sep w0 W (Mt gm ⟨List.replicate n (-1), [], 0⟩ :: F) := by
  have h2 := Sep.push [_, _] (h.nilRow (Kd.raw 4) 92)
  exact mt_shut (m := ⟨List.replicate n (-1), [], 0⟩) (vt := .slice (some ⟨gt, 0, none⟩) n n) (vo := .slice none 0 0) (vs := []) rfl h2
set_option maxHeartbeats 3200000 in
set_option maxRecDepth 100000 in
theorem match_ {A : Option Addr} {n c : Nat} {l : List Tok} (hC : ∀ W', Sep w0 W' F → TC W' A n l) (h : Sep w0 W F) (hn : n ≤ 1000000) :
    Calls Try.prog 28 #[.slice A n c] W fun e w' => ∃ gm, mtch gm w0 w' F e (matchN (sgn l)) := by
  have hll := (hC W h).len
  have hsl : (sgn l).length = n := by unfold sgn; rw [List.length_map]; exact hll
  have hmk : ∀ W : World, (Instr.makeSlice 22 (.int .i64 (n : Int)) (.int .i64 (n : Int))).run Try.prog W = .ok (.slice (some ⟨W.heap.size, 0, none⟩) n n) (W.alloc (.cells (madeCells #[.int .i64 0] n) 3)) := by
    intro W
    exact print_make (P := Try.prog) 22 3 .i64 8 Try.underlying22 infoInt (by decide) n (by omega) W
  have S2 := (h.madeRow (h1 := fun _ => rfl) (e := 3) (enc := Value.int .i64) 0 n (by omega)).newBlk 69 #[.slice (some ⟨W.heap.size, 0, none⟩) n n, .slice none 0 0, .int .i64 0]
  rw [alloc_size] at S2
  have H2 := Aside0.mk S2
  have HL := Aside0.mk (And.intro hll hsl)
  have HC := Aside0.mk hC
  clear h S2 hC hll hsl
  obtain ⟨M0, hM0⟩ : ∃ M0 : MS, (⟨List.replicate n (-1), [], 0⟩ : MS) = M0 := ⟨_, rfl⟩
  have HM0 := Aside0.mk hM0
  clear hM0
  go_enter Try.func28, Try.ntmps28
  go_wp2_with fail
  obtain ⟨w2, hw2⟩ : ∃ x, (W.alloc (.cells (madeCells #[Value.int .i64 0] n) 3)).alloc (.cells #[.slice (some ⟨W.heap.size, 0, none⟩) n n, .slice none 0 0, .int .i64 0] 69) = x := ⟨_, rfl⟩
  rw [hw2] at H2 ⊢
  obtain ⟨gt, hgt⟩ : ∃ gt, W.heap.size = gt := ⟨_, rfl⟩
  rw [hgt] at H2 ⊢
  obtain ⟨gm, hgm⟩ : ∃ gm, gt + 1 = gm := ⟨_, rfl⟩
  rw [hgm] at H2 ⊢
  clear hw2 hgt hgm
  go_loopg [15] n (fun m q wr => ∃ j : Nat, j + m = n ∧ q = .int .i64 (j : Int) ∧ Sep w0 wr (Blk gm 69 #[.slice (some ⟨gt, 0, none⟩) n n, .slice none 0 0, .int .i64 0] :: Row I64 3 (.slice (some ⟨gt, 0, none⟩) n n) (List.replicate j (-1) ++ List.replicate (n - j) 0) :: F))
  case atStart => exact ⟨0, by omega, rfl, H2.out⟩
  case round =>
    obtain ⟨j, hjm, rfl, hS⟩ := hrel
    have AK := Aside0.mk hjm
    by_cases hj : j < n
    · have z0 : wr.cell? ⟨gm, 0, none⟩ = some (.slice (some ⟨gt, 0, none⟩) n n) := (hS.cell 0).trans rfl
      obtain ⟨f1, f2⟩ := hS.tail.rowCell (0 : Int) j hj
      have B1 := Aside0.mk ((hS.at2).putRow (enc := Value.int .i64) j (-1))
      have AJ := Aside0.mk hj
      clear hS hjm
      go_wp2_with fail
      go_roundg (gk - 1)
      case measure => have := AK.out; omega
      case rel => exact ⟨j + 1, by have := AK.out; omega, by go_num, by have h9 := B1.out.at2; rw [fill_set n j AJ.out] at h9; exact h9⟩
    · have hjn : j = n := by omega
      subst hjn
      rw [Nat.sub_self, List.replicate_zero, List.append_nil] at hS
      have B0 := Aside0.mk (mt_new hS)
      rw [HM0.out] at B0
      clear hS hjm AK hj
      obtain ⟨w3, hw3⟩ : ∃ x, wr = x := ⟨_, rfl⟩
      rw [hw3] at B0 ⊢
      clear hw3
      go_wp2_with fail
      go_loopg [27] j (fun m q wr => ∃ (i : Nat) (N : MS), i + m = j ∧ q = .int .i64 (i : Int) ∧ NestP.runN 0 (sgn l) M0 = NestP.runN i ((sgn l).drop i) N ∧ Bd i j N ∧ Sep w0 wr (Mt gm N :: F))
      case atStart => exact ⟨0, M0, by omega, rfl, rfl, by rw [← HM0.out]; exact ⟨by simp, Nat.zero_le _, fun p hp => by cases hp⟩, B0.out⟩
      case round =>
        obtain ⟨i, N, him, rfl, hrun, hbd, hS⟩ := hrel
        have AK := Aside0.mk him
        have HB := Aside0.mk hbd
        have HR := Aside0.mk hrun
        have HS := Aside0.mk hS
        by_cases hi : i < j
        · obtain ⟨ad, t, rfl, ht, d0, d1, d2⟩ := TC.at_ (HC.out _ hS.tail) hi
          obtain ⟨o, ho⟩ : ∃ o, tokN i t.sign N = o := ⟨_, rfl⟩
          have HO := Aside0.mk ho
          have hdrop : (sgn l).drop i = t.sign :: (sgn l).drop (i + 1) := by
            have hil : i < (sgn l).length := by rw [HL.out.2]; exact hi
            rw [List.drop_eq_getElem_cons hil]
            congr 1
            have h8 : (sgn l)[i]? = some t.sign := by unfold sgn; rw [List.getElem?_map, ht]; rfl
            rw [List.getElem?_eq_getElem hil] at h8
            exact Option.some.inj h8
          have HR2 : Aside0 (NestP.runN 0 (sgn l) M0 = contN ((sgn l).drop (i + 1)) (i + 1) o) := ⟨by rw [hrun, hdrop, runN_step, ho]⟩
          have HA := Aside0.mk (hS.alloc (.cells #[.int .i32 t.sign, .int .i64 t.num, .int .i32 t.name] 42))
          have hij : (i : Int) < (j : Int) := by omega
          have HI := Aside0.mk hi
          clear hS hrun hbd him ho ht hdrop
          cases o with
          | none =>
            go_wp2_with (go_at_call 35; refine (token_ HA.out HB.out HI.out hn t.sign).mono ?_; intro e w4 hA; rw [HO.out] at hA; obtain ⟨rfl, hA⟩ := hA; replace hA := Aside0.mk hA)
            go_ret2
            exact ⟨gm, mtch_none HL.out.2 (by rw [HM0.out]; exact HR2.out) hA.out⟩
          | some m2 =>
            go_wp2_with (go_at_call 35; refine (token_ HA.out HB.out HI.out hn t.sign).mono ?_; intro e w4 hA; rw [HO.out] at hA; obtain ⟨rfl, hA⟩ := hA; replace hA := Aside0.mk hA)
            go_roundg (gk - 1)
            case measure => have := AK.out; omega
            case rel => exact ⟨i + 1, m2, by have := AK.out; omega, by go_num, HR2.out, HB.out.tok HI.out HO.out, hA.out⟩
        · have hij : i = j := by omega
          obtain ⟨vt, vo, vs, hv, hs⟩ := mt_open hS
          obtain ⟨A9, c9, rfl⟩ := Sep.rowN (n := N.opn.length) (show Sep w0 wr (Row (Kd.raw 4) 92 vo (rawC N.opn.reverse vs) :: _) from Sep.pull [_, _] hs) (by rw [rawC_len _ vs hv, List.length_reverse])
          have z1 : ∀ q, (wr.drewN q).cell? ⟨gm, 1, none⟩ = some (.slice A9 N.opn.length c9) := fun q => (Sep.cell (show Sep w0 (wr.drewN q) (Blk gm 69 #[vt, .slice A9 N.opn.length c9, .int .i64 (N.deep : Int)] :: _) from hs.drewN q) 1).trans rfl
          subst hij
          have hrun2 : NestP.runN 0 (sgn l) M0 = some N := by rw [hrun, List.drop_of_length_le (by rw [HL.out.2]; exact Nat.le_refl _)]; rfl
          have HR2 := Aside0.mk hrun2
          have hde : ((N.opn.length : Int) == 0) = decide (N.opn.length = 0) := by rw [Bool.eq_iff_iff, beq_iff_eq, decide_eq_true_eq]; omega
          have HDE := Aside0.mk hde
          clear hS hs hrun hbd him hi hrun2 hv hde
          go_wp2_with fail
          go_quiet (fail)
          go_wp2_with fail
          go_ret2
          refine ⟨gm, ?_⟩
          have h9 := mtch_some HL.out.2 (by rw [HM0.out]; exact HR2.out) (HS.out.drewN nq)
          rw [← HDE.out] at h9
          exact h9
end
end Go.Proofs.Ytkkgfpdjlohojaa.Nest
