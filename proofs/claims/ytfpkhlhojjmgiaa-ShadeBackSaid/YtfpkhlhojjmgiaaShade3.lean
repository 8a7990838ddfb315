/- Package shade: what was turned. -/
import Derived.Test.YtfpkhlhojjmgiaaShade2
import Derived.Test.YtfpkhlhojjmgiaaCutsAny
namespace Go.Proofs.Ytfpkhlhojjmgiaa.Shade
set_option linter.unusedVariables false
set_option linter.unusedSimpArgs false
open Go.RowKit Go.Proofs.YtfpkhlhojjmgiaaW.PrintWords Go.Proofs.YtfpkhlhojjmgiaaW.PrintLast Go.Proofs.YtfpkhlhojjmgiaaW.PrintMore Go.Proofs.Ytfpkhlhojjmgiaa.Kit Go.Proofs.Ytfpkhlhojjmgiaa.Base Go.Proofs.Ytfpkhlhojjmgiaa.Plain Go.Proofs.Ytfpkhlhojjmgiaa.Cells
abbrev Chg := Int × List Int
abbrev KC : Kd Chg := Kd.pair (Kd.int .i64) (Kd.slice 5 (Kd.int .u8))
theorem infoCh : (Try.prog.info? 69).map (fun i => (i.zero, i.size, i.bytes)) = some (some (.agg #[.int .i64 0, .slice none 0 0]), 2, 32) := by kernel_rfl
def turnF (b1 b2 : List Int) (n1 : Nat) (first : Int) (i : Nat) : List Chg := if n1 ≤ i ∨ pageF b2 i ≠ pageF b1 i then [(first + (i : Int), pageF b2 i)] else []
def changesF (b1 b2 : List Int) (n1 n2 : Nat) (first : Int) : List Chg := (List.range n2).flatMap (turnF b1 b2 n1 first)
theorem changesF_snoc (b1 b2 : List Int) (n1 : Nat) (first : Int) (i : Nat) : changesF b1 b2 n1 (i + 1) first = changesF b1 b2 n1 i first ++ turnF b1 b2 n1 first i := by
  unfold changesF
  rw [List.range_succ, List.flatMap_append]
  simp
theorem changesF_len (b1 b2 : List Int) (n1 : Nat) (first : Int) : ∀ i, (changesF b1 b2 n1 i first).length ≤ i
  | 0 => Nat.le_refl _
  | i + 1 => by
    rw [changesF_snoc, List.length_append]
    have := changesF_len b1 b2 n1 first i
    unfold turnF
    split <;> simp <;> omega
theorem pick {w0 W : World} {p q : HP} {L F : List HP} (h : Sep w0 W (p :: L)) (hp : L.Perm (q :: F)) : Sep w0 W (q :: p :: F) := h.perm ((List.Perm.cons p hp).trans (.swap _ _ _))
theorem unpick {w0 W : World} {p q : HP} {L F : List HP} (h : Sep w0 W (p :: q :: F)) (hp : L.Perm (q :: F)) : Sep w0 W (p :: L) := h.perm (List.Perm.cons p hp.symm)
theorem mem_len {w0 W : World} {F : List HP} {g : Nat} {b : List Int} {most : Int} {dirty : List Bool} (h : Sep w0 W (Mem g b most dirty :: F)) : b.length = 64 * dirty.length ∧ dirty.length ≤ 64 := by
  obtain ⟨Ab, cb, Ad, cd, hn, hs⟩ := open_ h
  omega
set_option maxHeartbeats 1600000 in
set_option maxRecDepth 100000 in
theorem changes_none1 {v : Value} {first : Int} {w : World} : Calls Try.prog 31 #[.pointer none, v, .int .i64 first] w fun e w' => e = .returned (.slice none 0 0) ∧ w = w' := by
  go_enter Try.func31, Try.ntmps31
  go_wp2_with fail
  go_ret
  exact ⟨by first | rfl | (simp; done), rfl⟩
set_option maxHeartbeats 3200000 in
set_option maxRecDepth 100000 in
theorem changes_ {w0 W : World} {L F1 F2 : List HP} {g1 g2 : Nat} {b1 b2 : List Int} {m1 m2 : Int} {d1 d2 : List Bool} {first : Int} (h : Sep w0 W L) (p1 : L.Perm (Mem g1 b1 m1 d1 :: F1)) (p2 : L.Perm (Mem g2 b2 m2 d2 :: F2)) (hf : 0 ≤ first ∧ first ≤ 1000000) :
    Calls Try.prog 31 #[.pointer (some ⟨g1, 0, none⟩), .pointer (some ⟨g2, 0, none⟩), .int .i64 first] W fun e w' => ∃ v, e = .returned v ∧ Sep w0 w' (Row KC 69 v (changesF b1 b2 d1.length d2.length first) :: L) := by
  have hl1 := mem_len (h.perm p1)
  have hl2 := mem_len (h.perm p2)
  have AH := Aside0.mk h
  have P1 := Aside0.mk p1
  have P2 := Aside0.mk p2
  obtain ⟨n1, hn1⟩ : ∃ n1, d1.length = n1 := ⟨_, rfl⟩
  obtain ⟨n2, hn2⟩ : ∃ n2, d2.length = n2 := ⟨_, rfl⟩
  have HN := Aside0.mk (And.intro hn1 hn2)
  rw [hn1] at hl1 ⊢
  rw [hn2] at hl2 ⊢
  have HL := Aside0.mk (And.intro hl1 hl2)
  obtain ⟨k1, hk1⟩ : ∃ k1, b1.length = k1 := ⟨_, rfl⟩
  obtain ⟨k2, hk2⟩ : ∃ k2, b2.length = k2 := ⟨_, rfl⟩
  have HK := Aside0.mk (And.intro hk1 hk2)
  clear h p1 p2 hn1 hn2 hl1 hl2 hk1 hk2
  go_enter Try.func31, Try.ntmps31
  go_wp2_with fail
  refine (bytes_ (AH.out.perm P1.out)).mono ?_
  rintro e w1 ⟨v1, rfl, hS1⟩
  obtain ⟨A1, c1, rfl⟩ := hS1.rowN HK.out.1
  have B1 := Aside0.mk (unpick hS1 P1.out)
  clear hS1
  go_wp2_with fail
  refine (bytes_ (pick B1.out P2.out)).mono ?_
  rintro e w2 ⟨v2, rfl, hS2⟩
  obtain ⟨A2, c2, rfl⟩ := hS2.rowN HK.out.2
  have B2 : Aside0 (Sep w0 w2 (Row U8 5 (.slice A2 k2 c2) b2 :: Row U8 5 (.slice A1 k1 c1) b1 :: L)) := ⟨hS2.perm (List.Perm.cons _ ((List.Perm.swap _ _ _).trans (List.Perm.cons _ P2.out.symm)))⟩
  clear hS2
  have hc1 : k1 ≤ c1 := B2.out.at2.rowC.2.1
  have hc2 : k2 ≤ c2 := B2.out.rowC.2.1
  go_wp2_with fail
  have B2' := B2.out.perm (List.Perm.cons _ (List.Perm.cons _ P2.out))
  refine (pages_ B2'.at3).mono ?_
  rintro e w3 ⟨rfl, rfl⟩
  rw [HN.out.2]
  clear B2'
  have hn264 : n2 ≤ 64 := HL.out.2.2
  have hn164 : n1 ≤ 64 := HL.out.1.2
  have B3 := Aside0.mk (B2.out.nilRow KC 69)
  go_wp2_with fail
  go_loopg [9, 24] n2 (fun m v s wr => ∃ i : Nat, s = .int .i64 (i : Int) ∧ i + m = n2 ∧ Sep w0 wr (Row KC 69 v (changesF b1 b2 n1 i first) :: Row U8 5 (.slice A2 k2 c2) b2 :: Row U8 5 (.slice A1 k1 c1) b1 :: L))
  case atStart => exact ⟨0, rfl, by omega, B3.out⟩
  case round =>
    obtain ⟨i, rfl, him, hS⟩ := hrel
    have HFL := Aside0.mk (changesF_len b1 b2 n1 first i)
    have HNX := Aside0.mk (changesF_snoc b1 b2 n1 first i)
    obtain ⟨A3, c3, rfl⟩ := hS.rowV
    have AS := Aside0.mk hS
    have AK := Aside0.mk him
    clear hS
    by_cases hi : i < n2
    · have hin : (i : Int) < (n2 : Int) := by omega
      have hi64 : i ≤ 64 := by omega
      have hw : wrap64 (first + (i : Int)) = first + (i : Int) := IntWalk.wrap64_in _ (by omega)
      clear him
      go_wp2_with fail
      refine (page_ (b := b2) (i := i) HK.out.2 hc2 (by have := HL.out; have := HK.out; omega) (by omega)).mono ?_
      rintro e w4 ⟨Aq, cq, rfl, hqc, rfl, hq2⟩
      have HQ2' := Aside0.mk hq2
      have HQC' := Aside0.mk hqc
      have HQL' : Aside0 ((pageF b2 i).length ≤ 64) := ⟨by rw [pageF_len (by have := HL.out; omega)]; exact Nat.le_refl _⟩
      obtain ⟨qs, hqs⟩ : ∃ qs, pageF b2 i = qs := ⟨_, rfl⟩
      rw [hqs] at HQ2' HQC' HQL' ⊢
      have HQ2 : Aside0 (∀ W : World, U8.C W A2 k2 b2 → U8.C W Aq qs.length qs) := HQ2'
      have HQC := HQC'
      have HQL := HQL'
      have HQ := Aside0.mk hqs
      clear hq2 hqc hqs HQ2' HQC' HQL'
      go_wp2_with fail
      have B4 := AS.out.perm (List.Perm.cons _ (List.Perm.cons _ (List.Perm.cons _ P1.out)))
      refine (pages_ B4.at4).mono ?_
      rintro e w4 ⟨rfl, rfl⟩
      rw [HN.out.1]
      clear B4
      by_cases h1 : n1 ≤ i
      · have h1' : (n1 : Int) ≤ (i : Int) := by omega
        have HQ0 : Aside0 ([(first + (i : Int), qs)] = turnF b1 b2 n1 first i) := ⟨by unfold turnF; rw [HQ.out, if_pos (.inl h1)]⟩
        clear h1
        go_wp2_with fail
        refine (clone_ (l := qs) (HQ2.out _ AS.out.at2.rowC') HQC.out (by have := HQL.out; omega)).mono ?_
        rintro e w5 ⟨v5, rfl, hS5⟩
        obtain ⟨A5, c5, rfl⟩ := hS5.rowV
        have L5 := Aside0.mk (((AS.out.lift1 hS5).elSlice.elPair (a := Kd.int .i64) (x := first + (i : Int)) (p := [.int .i64 (first + (i : Int))]) (fun _ _ _ => rfl)).at2)
        clear hS5
        go_wp2_with (first | (refine gate_builtin (b := .append) (xs := #[.tmp 42, .tmp 49]) rfl ?_; go_loud (refine L5.out.appendDeep rfl (.tmp 42) (.tmp 49) 66 _ 32 rfl Try.underlying66 infoCh rfl (by decide) (by decide) rfl rfl (by have := HFL.out; omega) ?_; intro v6 w6 hs6 hS6; have A6 := Aside0.mk hS6; clear hS6)))
        go_roundg (gk - 1)
        case measure => have := AK.out; omega
        case rel => exact ⟨i + 1, by go_num, by have := AK.out; omega, by rw [HNX.out, ← HQ0.out]; exact A6.out⟩
      · have h1' : ¬ (n1 : Int) ≤ (i : Int) := by omega
        go_wp2_with fail
        refine (page_ (b := b1) (i := i) HK.out.1 hc1 (by have := HL.out; have := HK.out; omega) (by omega)).mono ?_
        rintro e w4 ⟨Ar, cr, rfl, hrc, rfl, hr2⟩
        have HR2 := Aside0.mk hr2
        clear hr2 hrc
        go_wp2_with fail
        refine (equal_ (HQ2.out _ AS.out.at2.rowC') (HR2.out _ AS.out.at3.rowC')).mono ?_
        rintro e w4 ⟨rfl, hb4⟩
        have B4 := Aside0.mk (AS.out.below hb4)
        clear hb4
        by_cases h2 : qs = pageF b1 i
        · rw [decide_eq_true h2]
          have HQ0 : Aside0 ([] = turnF b1 b2 n1 first i) := ⟨by unfold turnF; rw [if_neg (fun h => h.elim h1 (fun h => h (HQ.out.trans h2)))]⟩
          clear h2
          go_wp2_with fail
          go_roundg (gk - 1)
          case measure => have := AK.out; omega
          case rel => exact ⟨i + 1, by go_num, by have := AK.out; omega, by rw [HNX.out, ← HQ0.out, List.append_nil]; exact B4.out⟩
        · rw [decide_eq_false h2]
          have HQ0 : Aside0 ([(first + (i : Int), qs)] = turnF b1 b2 n1 first i) := ⟨by unfold turnF; rw [HQ.out, if_pos (.inr h2)]⟩
          clear h2
          go_wp2_with fail
          refine (clone_ (l := qs) (HQ2.out _ B4.out.at2.rowC') HQC.out (by have := HQL.out; omega)).mono ?_
          rintro e w5 ⟨v5, rfl, hS5⟩
          obtain ⟨A5, c5, rfl⟩ := hS5.rowV
          have L5 := Aside0.mk (((B4.out.lift1 hS5).elSlice.elPair (a := Kd.int .i64) (x := first + (i : Int)) (p := [.int .i64 (first + (i : Int))]) (fun _ _ _ => rfl)).at2)
          clear hS5
          go_wp2_with (first | (refine gate_builtin (b := .append) (xs := #[.tmp 42, .tmp 49]) rfl ?_; go_loud (refine L5.out.appendDeep rfl (.tmp 42) (.tmp 49) 66 _ 32 rfl Try.underlying66 infoCh rfl (by decide) (by decide) rfl rfl (by have := HFL.out; omega) ?_; intro v6 w6 hs6 hS6; have A6 := Aside0.mk hS6; clear hS6)))
          go_roundg (gk - 1)
          case measure => have := AK.out; omega
          case rel => exact ⟨i + 1, by go_num, by have := AK.out; omega, by rw [HNX.out, ← HQ0.out]; exact A6.out⟩
    · have hin : ¬ (i : Int) < (n2 : Int) := by omega
      have hie : i = n2 := by omega
      subst hie
      clear him
      go_wp2_with fail
      go_ret
      exact ⟨_, by first | rfl | (simp; done), Sep.perm (L := Row KC 69 (.slice A3 (changesF b1 b2 n1 i first).length c3) (changesF b1 b2 n1 i first) :: L) ((AS.out.perm (List.Perm.cons _ ((List.Perm.swap _ _ _).trans (List.Perm.refl _)))).drop2.drop2) (List.Perm.refl _)⟩
end Go.Proofs.Ytfpkhlhojjmgiaa.Shade
