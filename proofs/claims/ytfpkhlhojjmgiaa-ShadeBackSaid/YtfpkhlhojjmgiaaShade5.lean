/- Package shade: changes applied. -/
import Derived.Test.YtfpkhlhojjmgiaaShade4
import Derived.Test.YtfpkhlhojjmgiaaRowV
namespace Go.Proofs.Ytfpkhlhojjmgiaa.Shade
set_option linter.unusedVariables false
set_option linter.unusedSimpArgs false
open Go.RowKit Go.Proofs.YtfpkhlhojjmgiaaW.PrintWords Go.Proofs.YtfpkhlhojjmgiaaW.PrintLast Go.Proofs.YtfpkhlhojjmgiaaW.PrintMore Go.Proofs.Ytfpkhlhojjmgiaa.Kit Go.Proofs.Ytfpkhlhojjmgiaa.Base Go.Proofs.Ytfpkhlhojjmgiaa.Plain Go.Proofs.Ytfpkhlhojjmgiaa.Cells
abbrev KP : Kd (List Int) := Kd.slice 5 (Kd.int .u8)
theorem infoS : (Try.prog.info? 22).map (fun i => (i.zero, i.size, i.bytes)) = some (some (.slice none 0 0), 1, 24) := by kernel_rfl
def applyOne (ps : List (List Int)) (c : Chg) : List (List Int) := if 0 ≤ c.1 ∧ c.1 < (ps.length : Int) then ps.set c.1.toNat c.2 else ps
def applyF (ps : List (List Int)) (l : List Chg) : List (List Int) := l.foldl applyOne ps
theorem applyOne_len (ps : List (List Int)) (c : Chg) : (applyOne ps c).length = ps.length := by unfold applyOne; split <;> simp
theorem applyF_len (l : List Chg) : ∀ ps : List (List Int), (applyF ps l).length = ps.length := by
  induction l with
  | nil => intro ps; rfl
  | cons c r ih => intro ps; exact (ih _).trans (applyOne_len ps c)
theorem applyF_snoc (ps : List (List Int)) (l : List Chg) (c : Chg) : applyF ps (l ++ [c]) = applyOne (applyF ps l) c := by unfold applyF; rw [List.foldl_append]; rfl
theorem take_one {α : Type} {l : List α} {j : Nat} (h : j < l.length) : l.take (j + 1) = l.take j ++ [l[j]] := by
  rw [List.take_add_one, List.getElem?_eq_getElem h]; rfl
/-- A row's element: one cell that holds a slice. -/
theorem elemP {W : World} {A : Option Addr} {n : Nat} {xs : List (List Int)} (h : KP.C W A n xs) {i : Nat} (hi : i < n) :
    ∃ (hx : i < xs.length) (a : Addr) (B : Option Addr) (c : Nat), A = some a ∧ W.cell? (a.add i) = some (.slice B (xs[i]).length c) ∧ (xs[i]).length ≤ c ∧ U8.C W B (xs[i]).length xs[i] := by
  obtain ⟨hx, a, cs, e, ⟨B, c, h1, h2, h3⟩, hc0, _⟩ := elem_ h hi
  subst h1
  have := hc0 _ rfl
  rw [show i * KP.sz = i from Nat.mul_one i] at this
  exact ⟨hx, a, B, c, e, this, h2, h3⟩
set_option maxHeartbeats 3200000 in
set_option maxRecDepth 100000 in
theorem apply_ {A A2 : Option Addr} {n c n2 c2 : Nat} {ps : List (List Int)} {l : List Chg} {w : World} (h1 : KP.C w A n ps) (h2 : KC.C w A2 n2 l) (hn : n ≤ 100000) (hp : ∀ p ∈ ps, p.length ≤ 1000000) (hl : ∀ x ∈ l, x.2.length ≤ 1000000) :
    Calls Try.prog 33 #[.slice A n c, .slice A2 n2 c2] w fun e w' => ∃ v, e = .returned v ∧ Sep w w' [RowV KP 22 v (applyF ps l)] := by
  obtain rfl : ps.length = n := h1.1
  obtain rfl : l.length = n2 := h2.1
  have hm2 : l.length ≤ 9223372036854775807 := h2.2.1
  have H1 := Aside0.mk h1
  have H2 := Aside0.mk h2
  have HP := Aside0.mk (And.intro hp hl)
  have A0 := Aside0.mk ((Sep.start w).rowV_nil KP 22)
  clear h1 h2 hp hl
  go_enter Try.func33, Try.ntmps33
  go_wp2_with fail
  go_loopg [5, 12] ps.length (fun m v s wr => ∃ j : Nat, s = .int .i64 (j : Int) ∧ j + m = ps.length ∧ Sep w wr [RowV KP 22 v (ps.take j)])
  case atStart => exact ⟨0, rfl, by omega, A0.out⟩
  case round =>
    obtain ⟨j, rfl, hjm, hS⟩ := hrel
    have AK := Aside0.mk hjm
    by_cases hj : j < ps.length
    · obtain ⟨A3, c3, rfl⟩ := hS.rowVN (n := j) (by rw [List.length_take]; omega)
      obtain ⟨hx, ad, B, cB, rfl, e0, e1, e2⟩ := elemP H1.out hj
      have hbl := HP.out.1 _ (List.getElem_mem hx)
      have htk := take_one hj
      have AS := Aside0.mk hS
      have z0 := cell_later hS.toBelow e0
      have HE := Aside0.mk (And.intro e1 e2)
      have HT := Aside0.mk htk
      obtain ⟨xs, hxs⟩ : ∃ xs, ps[j] = xs := ⟨_, rfl⟩
      rw [hxs] at z0 hbl HE HT
      obtain ⟨bn, hbn⟩ : ∃ bn, xs.length = bn := ⟨_, rfl⟩
      rw [hbn] at z0 hbl HE
      have HBN := Aside0.mk hbn
      have hjl : (j : Int) < (ps.length : Int) := by omega
      clear hS e0 e1 e2 htk hxs hbn hjm
      go_wp2_with fail
      refine (clone_ (l := xs) (Kd.C_below HE.out.2 AS.out.toBelow) HE.out.1 (by omega)).mono ?_
      rintro e w5 ⟨v5, rfl, hS5⟩
      obtain ⟨A5, c5, rfl⟩ := hS5.rowN HBN.out
      have L5 := Aside0.mk ((AS.out.lift1 hS5).clSlice.at2)
      clear hS5
      go_wp2_with (first | (refine gate_builtin (b := .append) (xs := #[.tmp 16, .tmp 19]) rfl ?_; go_loud (refine L5.out.appendV (cl := ⟨.slice A5 bn c5, rfl⟩) rfl (.tmp 16) (.tmp 19) 71 _ 24 rfl Try.underlying71 infoS rfl (by decide) rfl rfl (by rw [List.length_take]; omega) ?_; intro v6 w6 hS6; have A6 := Aside0.mk hS6; clear hS6)))
      go_roundg (gk - 1)
      case measure => have := AK.out; omega
      case rel => exact ⟨j + 1, by go_num, by have := AK.out; omega, by rw [HT.out]; exact A6.out⟩
    · have hjn : j = ps.length := by omega
      rw [hjn, List.take_length] at hS
      obtain ⟨A3, c3, rfl⟩ := hS.rowVN (n := ps.length) rfl
      have AS := Aside0.mk hS
      subst hjn
      clear hS hjm AK hj
      go_wp2_with fail
      go_loopg [24] l.length (fun m s wr => ∃ j : Nat, s = .int .i64 (j : Int) ∧ j + m = l.length ∧ Sep w wr [RowV KP 22 (.slice A3 ps.length c3) (applyF ps (l.take j))])
      case atStart => exact ⟨0, rfl, by omega, AS.out⟩
      case round =>
        obtain ⟨j, rfl, hjm, hS⟩ := hrel
        have AK := Aside0.mk hjm
        by_cases hj : j < l.length
        · obtain ⟨hx, ad, B, cB, rfl, e0, e1, e2, e3⟩ := elem2_ H2.out hj
          have hbl := HP.out.2 _ (List.getElem_mem hx)
          have HT : Aside0 (applyF ps (l.take (j + 1)) = applyOne (applyF ps (l.take j)) l[j]) := ⟨by rw [take_one hj, applyF_snoc]⟩
          have HLN := Aside0.mk (applyF_len (l.take j) ps)
          have z0 := cell_later hS.toBelow e0
          have z1 := cell_later hS.toBelow e1
          have HE := Aside0.mk (And.intro e2 e3)
          obtain ⟨pg, bs, hx2⟩ : ∃ pg bs, l[j] = (pg, bs) := ⟨_, _, rfl⟩
          rw [hx2] at z0 z1 hbl HE HT
          obtain ⟨bn, hbn⟩ : ∃ bn, bs.length = bn := ⟨_, rfl⟩
          replace hbl : bn ≤ 1000000 := by rw [← hbn]; exact hbl
          replace z0 : wr.cell? (ad.add (j * 2)) = some (.int .i64 pg) := z0
          replace z1 : wr.cell? ⟨(ad.add (j * 2)).block, (ad.add (j * 2)).off + 1, none⟩ = some (.slice B bn cB) := by rw [← hbn]; exact z1
          have HE' : Aside0 (bn ≤ cB ∧ U8.C w B bn bs) := ⟨by rw [← hbn]; exact HE.out⟩
          have HBN := Aside0.mk hbn
          obtain ⟨qs, hqs⟩ : ∃ qs, applyF ps (l.take j) = qs := ⟨_, rfl⟩
          rw [hqs] at hS HT HLN
          have AS := Aside0.mk hS
          have BK := Aside0.mk (hS.newBlk 69 #[.int .i64 pg, .slice B bn cB])
          have hjl : (j : Int) < (l.length : Int) := by omega
          have y0 : (wr.alloc (.cells #[.int .i64 pg, .slice B bn cB] 69)).cell? ⟨wr.heap.size, 0, none⟩ = some (.int .i64 pg) := (BK.out.cell 0).trans rfl
          clear hS e0 e1 e2 e3 hx2 hbn hjm HE hqs
          by_cases h1 : 0 ≤ pg
          · have h1' : decide (0 ≤ pg) = true := decide_eq_true h1
            by_cases h2 : pg < (ps.length : Int)
            · have h2' : decide (pg < (ps.length : Int)) = true := decide_eq_true h2
              obtain ⟨p, rfl⟩ := Int.eq_ofNat_of_zero_le h1
              have HO : Aside0 (applyOne qs ((p : Int), bs) = qs.set p bs) := ⟨by unfold applyOne; rw [if_pos ⟨h1, by rw [HLN.out]; exact h2⟩, Int.toNat_natCast]⟩
              obtain ⟨g, rfl⟩ := BK.out.at2.rowVForm (by omega)
              have BD := Aside0.mk BK.out.drew
              have y2 := (BD.out.cell 0).trans rfl
              have y3 := (BD.out.cell 1).trans rfl
              go_wp2_with fail
              refine start_ (n := 8) (S := fun w' => w'.cell? ⟨wr.heap.size, 0, none⟩ = some (.int .i64 (p : Int)) ∧ w'.cell? ⟨wr.heap.size, 1, none⟩ = some (.slice B bn cB)) (ds := [7]) #[false, false, false, false, false, false, false, false] (by kernel_rfl) rfl rfl ⟨y2, y3⟩ (fun hHeld => ?_)
              refine pure_ (i := 0) (N := some 38) (v := ?_) (a' := ?_) #[true, false, false, false, false, false, false, false] rfl rfl (by kernel_rfl) (fun _ _ _ h => h) (Or.inl ⟨by rfl, ?_⟩) ?_ ?_
              rotate_left
              · intro w'
                go_simp
                with_reducible rfl
              rotate_left
              · simp only [Act.put, List.setIfInBounds_toArray, List.set_cons_zero, List.set_cons_succ, i64_w, i32_w]
                rfl
              refine pure_ (i := 1) (N := some 39) (v := ?_) (a' := ?_) #[true, true, false, false, false, false, false, false] rfl rfl (by kernel_rfl) (fun _ _ _ h => h) (Or.inl ⟨by rfl, ?_⟩) ?_ ?_
              rotate_left
              · intro w'
                go_simp
                with_reducible rfl
              rotate_left
              · simp only [Act.put, List.setIfInBounds_toArray, List.set_cons_zero, List.set_cons_succ, i64_w, i32_w]
                rfl
              refine pure_ (i := 3) (N := some 41) (v := ?_) (a' := ?_) #[true, true, false, true, false, false, false, false] rfl rfl (by kernel_rfl) (fun _ _ _ h => h) (Or.inl ⟨by rfl, ?_⟩) ?_ ?_
              rotate_left
              · intro w'
                go_simp
                with_reducible rfl
              rotate_left
              · simp only [Act.put, List.setIfInBounds_toArray, List.set_cons_zero, List.set_cons_succ, i64_w, i32_w]
                rfl
              refine take_ (i := 2) (N := some 40) (v := ?_) (a' := ?_) #[true, true, true, true, false, false, false, false] rfl rfl (by kernel_rfl) (fun _ _ _ h => h) (Or.inl ⟨by rfl, ?_⟩) hHeld ?_ ?_
              rotate_left
              · rintro w' ⟨s0, s1⟩
                go_simp
                with_reducible rfl
              rotate_left
              · simp only [Act.put, List.setIfInBounds_toArray, List.set_cons_zero, List.set_cons_succ, i64_w, i32_w]
                rfl
              refine take_ (i := 4) (N := some 42) (v := ?_) (a' := ?_) #[true, true, true, true, true, false, false, false] rfl rfl (by kernel_rfl) (fun _ _ _ h => h) (Or.inl ⟨by rfl, ?_⟩) hHeld ?_ ?_
              rotate_left
              · rintro w' ⟨s0, s1⟩
                go_simp
                with_reducible rfl
              rotate_left
              · simp only [Act.put, List.setIfInBounds_toArray, List.set_cons_zero, List.set_cons_succ, i64_w, i32_w]
                rfl
              refine one_ (i := 5) (N := some 43) #[true, true, true, true, true, true, false, false] rfl rfl (by kernel_rfl) (by decide) (fun K hK => ?_)
              refine goes_ Try.func35 (by kernel_rfl) rfl #[.slice B bn cB] (by rfl) rfl rfl (by simp only [List.map_toArray, List.map_cons, List.map_nil]; rfl) ?_
              with_reducible refine (clone_ (l := bs) (Kd.C_below HE'.out.2 BD.out.toBelow) HE'.out.1 (by omega)).mono ?_
              rintro e w5 ⟨v5, rfl, hS5⟩
              refine ⟨_, rfl, ?_⟩
              obtain ⟨A5, c5, rfl⟩ := hS5.rowN HBN.out
              have B5 := Aside0.mk ((BD.out.lift1 hS5).clSlice)
              obtain ⟨ux, f5, f6⟩ := B5.out.at3.rowVFrozen (i := p) (by omega)
              clear hS5
              refine hK.out _ _ ⟨(B5.out.at2.cell 0).trans rfl, (B5.out.at2.cell 1).trans rfl⟩ (fun hHeld => ?_)
              clear hK K
              refine norm_ (a' := ?_) ?_ ?_
              rotate_left
              · show Act.put _ (some 43) _ = _
                simp only [Act.put, List.setIfInBounds_toArray, List.set_cons_zero, List.set_cons_succ, i64_w, i32_w]
                rfl
              refine pure_ (i := 6) (N := some 44) (v := ?_) (a' := ?_) #[true, true, true, true, true, true, true, false] rfl rfl (by kernel_rfl) (fun _ _ _ h => h) (Or.inl ⟨by rfl, ?_⟩) ?_ ?_
              rotate_left
              · intro w'
                go_simp
                with_reducible rfl
              rotate_left
              · simp only [Act.put, List.setIfInBounds_toArray, List.set_cons_zero, List.set_cons_succ, i64_w, i32_w]
                rfl
              refine last_ (i := 7) (N := none) #[true, true, true, true, true, true, true, true] rfl rfl (by kernel_rfl) (by decide) (fun K hK => ?_)
              refine skip_ (w1 := ?_) (by rfl) rfl ?_ ?_
              rotate_left
              · go_simp
                rfl
              refine hK.out _ _ ?_
              clear hK K
              refine done_ (by kernel_rfl) ?_
              have B7 := Aside0.mk ((B5.out.at3.perm (List.Perm.refl _)).putV (i := p) (cl := ⟨.slice A5 bn c5, rfl⟩)).drop2
              go_wp2_with fail
              go_roundg (gk - 1)
              case measure => have := AK.out; omega
              case rel => exact ⟨j + 1, by go_num, by have := AK.out; omega, by rw [HT.out, HO.out]; exact B7.out⟩
            · have h2' : decide (pg < (ps.length : Int)) = false := decide_eq_false h2
              have HO : Aside0 (applyOne qs (pg, bs) = qs) := ⟨by unfold applyOne; rw [if_neg (fun h => h2 (by rw [← HLN.out]; exact h.2))]⟩
              go_wp2_with fail
              go_roundg (gk - 1)
              case measure => have := AK.out; omega
              case rel => exact ⟨j + 1, by go_num, by have := AK.out; omega, by rw [HT.out, HO.out]; exact BK.out.tail⟩
          · have h1' : decide (0 ≤ pg) = false := decide_eq_false h1
            have HO : Aside0 (applyOne qs (pg, bs) = qs) := ⟨by unfold applyOne; rw [if_neg (fun h => h1 h.1)]⟩
            go_wp2_with fail
            go_roundg (gk - 1)
            case measure => have := AK.out; omega
            case rel => exact ⟨j + 1, by go_num, by have := AK.out; omega, by rw [HT.out, HO.out]; exact BK.out.tail⟩
        · have hjn : j = l.length := by omega
          rw [hjn, List.take_length] at hS
          have AS := Aside0.mk hS
          subst hjn
          clear hS hjm AK hj
          go_wp2_with fail
          go_ret
          exact ⟨_, by first | rfl | (simp; done), AS.out⟩
end Go.Proofs.Ytfpkhlhojjmgiaa.Shade
