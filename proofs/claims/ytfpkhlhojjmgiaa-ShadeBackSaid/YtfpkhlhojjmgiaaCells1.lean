/- Memory: its resource; memories of bytes; how many pages; what lies within. -/
import Derived.Test.YtfpkhlhojjmgiaaBase
import Derived.Test.YtfpkhlhojjmgiaaZero
import Derived.Test.YtfpkhlhojjmgiaaBytes
import Derived.Deep.RegionWith
import Derived.Deep.LoopGhost
namespace Go.Proofs.Ytfpkhlhojjmgiaa.Cells
set_option linter.unusedVariables false
set_option linter.unusedSimpArgs false
open Go.RowKit Go.Proofs.YtfpkhlhojjmgiaaW.PrintWords Go.Proofs.YtfpkhlhojjmgiaaW.PrintLast Go.Proofs.YtfpkhlhojjmgiaaW.PrintMore Go.Proofs.Ytfpkhlhojjmgiaa.Kit Go.Proofs.Ytfpkhlhojjmgiaa.Base Go.Proofs.Ytfpkhlhojjmgiaa.Plain
abbrev BK : Kd Bool := Kd.bool
theorem infoT : (Try.prog.info? 4).map (fun i => (i.zero, i.size, i.bytes)) = some (some (.bool false), 1, 1) := by kernel_rfl
theorem madeT {w0 W : World} {F : List HP} (m : Nat) (h : Sep w0 W F) (hm : m ≤ 100000) : Sep w0 (W.alloc (.cells (madeCells #[.bool false] m) 4)) (Row BK 4 (.slice (some ⟨W.heap.size, 0, none⟩) m m) (List.replicate m false) :: F) :=
  h.madeRow (h1 := fun _ => rfl) (e := 4) (enc := Value.bool) false m (by omega)
theorem makeT {m : Nat} (hm : m ≤ 100000) : ∀ W : World, (Instr.makeSlice 58 (.int .i64 (m : Int)) (.int .i64 (m : Int))).run Try.prog W = .ok (.slice (some ⟨W.heap.size, 0, none⟩) m m) (W.alloc (.cells (madeCells #[.bool false] m) 4)) := by
  exact print_make_of (P := Try.prog) 58 4 (.bool false) 1 Try.underlying58 infoT rfl (by decide) m (by omega)
/-- Pages of bytes; how many there may be; which were stored to. -/
def Mem (g : Nat) (b : List Int) (most : Int) (dirty : List Bool) : HP := Ex fun (x : Value × Value) =>
  Star [Pu (b.length = 64 * dirty.length ∧ (dirty.length : Int) ≤ most ∧ most ≤ 64), Blk g 77 #[x.1, .int .i64 most, x.2], Row U8 5 x.1 b, Row BK 4 x.2 dirty]
section
variable {w0 W : World} {g : Nat} {b : List Int} {most : Int} {dirty : List Bool} {F : List HP}
theorem open_ (h : Sep w0 W (Mem g b most dirty :: F)) : ∃ Ab cb Ad cd, (b.length = 64 * dirty.length ∧ (dirty.length : Int) ≤ most ∧ most ≤ 64 ∧ b.length ≤ cb ∧ dirty.length ≤ cd) ∧
    Sep w0 W (Blk g 77 #[.slice Ab b.length cb, .int .i64 most, .slice Ad dirty.length cd] :: Row U8 5 (.slice Ab b.length cb) b :: Row BK 4 (.slice Ad dirty.length cd) dirty :: F) := by
  obtain ⟨⟨v0, v1⟩, h⟩ := h.ex
  obtain ⟨⟨n1, n2, n3⟩, h⟩ := h.star.pu
  obtain ⟨Ab, cb, e0⟩ := h.tail.rowV
  obtain ⟨Ad, cd, e1⟩ := h.tail.tail.rowV
  subst e0 e1
  have h : Sep w0 W (Blk g 77 _ :: Row U8 5 (.slice Ab b.length cb) b :: Row BK 4 (.slice Ad dirty.length cd) dirty :: F) := h
  exact ⟨Ab, cb, Ad, cd, ⟨n1, n2, n3, h.tail.rowC.2.1, h.tail.tail.rowC.2.1⟩, h⟩
theorem shut_ {v0 v1 : Value} (n1 : b.length = 64 * dirty.length) (n2 : (dirty.length : Int) ≤ most) (n3 : most ≤ 64)
    (h : Sep w0 W (Blk g 77 #[v0, .int .i64 most, v1] :: Row U8 5 v0 b :: Row BK 4 v1 dirty :: F)) : Sep w0 W (Mem g b most dirty :: F) := by
  refine Sep.unex (v0, v1) (Sep.unstar ?_)
  exact Sep.unpu ⟨n1, n2, n3⟩ h
theorem may_ (p m : Int) (w : World) : Calls Try.prog 34 #[.int .i64 p, .int .i64 m] w fun e w' => e = .returned (.bool (decide (0 ≤ p ∧ p ≤ m ∧ m ≤ 64))) ∧ w = w' := by
  by_cases h0 : 0 ≤ p
  · by_cases h1 : p ≤ m
    all_goals
      go_enter Try.func34, Try.ntmps34
      go_wp2
      go_ret
      exact ⟨by simp [h0, h1] <;> omega, rfl⟩
  · go_enter Try.func34, Try.ntmps34
    go_wp2
    go_ret
    exact ⟨by simp [h0] <;> omega, rfl⟩
set_option maxHeartbeats 1600000 in
set_option maxRecDepth 100000 in
theorem of_ok {A : Option Addr} {k c n : Nat} {l : List Int} {most : Int} {w : World} (hr : U8.C w A k l) (hc : k ≤ c) (hk : k = 64 * n) (hm : (n : Int) ≤ most) (hm2 : most ≤ 64) :
    Calls Try.prog 11 #[.slice A k c, .int .i64 most] w fun e w' => ∃ g, e = .returned (.pointer (some ⟨g, 0, none⟩)) ∧ Sep w w' [Mem g l most (List.replicate n false)] := by
  subst hk
  have hd : (64 * (n : Int)).tdiv 64 = (n : Int) := Int.mul_tdiv_cancel_left _ (by decide)
  have hmm : (64 * (n : Int)).tmod 64 = 0 := Int.mul_tmod_right _ _
  have hmk := makeT (m := n) (by omega)
  have AR := Aside0.mk hr
  have AL := Aside0.mk hr.1
  have AC := Aside0.mk hc
  have hdec : decide (0 ≤ (n : Int) ∧ (n : Int) ≤ most ∧ most ≤ 64) = true := decide_eq_true ⟨by omega, hm, hm2⟩
  clear hr hc
  go_enter Try.func11, Try.ntmps11
  go_wp2_with (go_at_call 34; refine (may_ (n : Int) most _).mono ?_; rintro e w' ⟨rfl, rfl⟩; rw [hdec])
  have hw : wrap64 (n : Int) = (n : Int) := IntWalk.wrap64_in _ (by omega)
  refine start_ (n := 10) (S := fun w' => True) (ds := []) #[false, false, false, false, false, false, false, false, false, false] (by kernel_rfl) rfl rfl trivial (fun hHeld => ?_)
  refine pure_ (i := 0) (N := some 17) (v := ?_) (a' := ?_) #[true, false, false, false, false, false, false, false, false, false] rfl rfl (by kernel_rfl) (fun _ _ _ h => h) (Or.inl ⟨by rfl, ?_⟩) ?_ ?_
  rotate_left
  · intro w'
    go_simp
    with_reducible rfl
  rotate_left
  · simp only [Act.put, List.setIfInBounds_toArray, List.set_cons_zero, List.set_cons_succ, i64_w, i32_w]
    rfl
  refine pure_ (i := 2) (N := some 19) (v := ?_) (a' := ?_) #[true, false, true, false, false, false, false, false, false, false] rfl rfl (by kernel_rfl) (fun _ _ _ h => h) (Or.inl ⟨by rfl, ?_⟩) ?_ ?_
  rotate_left
  · intro w'
    go_simp
    with_reducible rfl
  rotate_left
  · simp only [Act.put, List.setIfInBounds_toArray, List.set_cons_zero, List.set_cons_succ, i64_w, i32_w]
    rfl
  refine pure_ (i := 3) (N := some 20) (v := ?_) (a' := ?_) #[true, false, true, true, false, false, false, false, false, false] rfl rfl (by kernel_rfl) (fun _ _ _ h => h) (Or.inl ⟨by rfl, ?_⟩) ?_ ?_
  rotate_left
  · intro w'
    go_simp
    with_reducible rfl
  rotate_left
  · simp only [Act.put, List.setIfInBounds_toArray, List.set_cons_zero, List.set_cons_succ, i64_w, i32_w]
    rfl
  refine pure_ (i := 4) (N := some 21) (v := ?_) (a' := ?_) #[true, false, true, true, true, false, false, false, false, false] rfl rfl (by kernel_rfl) (fun _ _ _ h => h) (Or.inl ⟨by rfl, ?_⟩) ?_ ?_
  rotate_left
  · intro w'
    go_simp
    with_reducible rfl
  rotate_left
  · simp only [Act.put, List.setIfInBounds_toArray, List.set_cons_zero, List.set_cons_succ, i64_w, i32_w]
    rfl
  refine pure_ (i := 5) (N := some 22) (v := ?_) (a' := ?_) #[true, false, true, true, true, true, false, false, false, false] rfl rfl (by kernel_rfl) (fun _ _ _ h => h) (Or.inl ⟨by rfl, ?_⟩) ?_ ?_
  rotate_left
  · intro w'
    go_simp
    with_reducible rfl
  rotate_left
  · simp only [Act.put, List.setIfInBounds_toArray, List.set_cons_zero, List.set_cons_succ, i64_w, i32_w]
    rfl
  refine join_ (σ := Value × Value) 3 #[true, true, true, true, true, true, true, false, false, false] (fun s_ => [(18, s_.1), (23, s_.2)]) (fun s_ w' => Sep w w' ((Row U8 5 (s_.1) l) :: (Row BK 4 (s_.2) (List.replicate n false)) :: [])) ?_ ?_
  rotate_left
  · intro hJ1_6
    refine join_ (σ := Value) 4 #[true, true, true, true, true, true, false, false, false, false] (fun s_ => [(18, s_)]) (fun s_ w' => Sep w w' ((Row U8 5 (s_) l) :: [])) ?_ ?_
    rotate_left
    · intro hJ1
      refine join_ (σ := Value) 4 #[true, false, true, true, true, true, true, false, false, false] (fun s_ => [(23, s_)]) (fun s_ w' => Sep w w' ((Row BK 4 (s_) (List.replicate n false)) :: [])) ?_ ?_
      rotate_left
      · intro hJ6
        refine two_ (i := 1) (j := 6) (Ni := some 18) (Nj := some 23) #[true, true, true, true, true, true, false, false, false, false] #[true, false, true, true, true, true, true, false, false, false] rfl rfl rfl rfl (by kernel_rfl) (by decide) (by decide) (fun K hK => ?_) (fun K hK => ?_)
        · skip
          refine goes_ Try.func35 (by kernel_rfl) rfl #[.slice A (64 * n) c] (by rfl) rfl rfl (by simp only [List.map_toArray, List.map_cons, List.map_nil]; rfl) ?_
          with_reducible refine (clone_ (l := l) (Kd.C_below AR.out ((Sep.start w).drew).toBelow) AC.out (by omega)).mono ?_
          rintro e wn_ ⟨vn_, rfl, hS_⟩
          refine ⟨_, rfl, ?_⟩
          have hN := ((Sep.start w).drew).lift1 hS_
          clear hS_
          refine hK.out _ _ trivial (fun hHeld => ?_)
          clear hK K
          refine norm_ (a' := ?_) ?_ ?_
          rotate_left
          · show Act.put _ (some 18) _ = _
            simp only [Act.put, List.setIfInBounds_toArray, List.set_cons_zero, List.set_cons_succ, i64_w, i32_w]
            rfl
          exact norm_ (by first | (simp only [putAll, Act.put, List.setIfInBounds_toArray, List.set_cons_zero, List.set_cons_succ]; done) | (simp only [putAll, Act.put, List.setIfInBounds_toArray, List.set_cons_zero, List.set_cons_succ]; rfl)) (hJ1 vn_ _ hN)
        · skip
          refine value_ (w1 := ?_) (v := ?_) (by rfl) rfl ?_ ?_
          rotate_left 2
          · go_simp
            constructor
            · rfl
            · rfl
          have hN := madeT n ((Sep.start w).drew) (by omega)
          refine hK.out _ _ trivial (fun hHeld => ?_)
          clear hK K
          refine norm_ (a' := ?_) ?_ ?_
          rotate_left
          · show Act.put _ (some 23) _ = _
            simp only [Act.put, List.setIfInBounds_toArray, List.set_cons_zero, List.set_cons_succ, i64_w, i32_w]
            rfl
          exact norm_ (by first | (simp only [putAll, Act.put, List.setIfInBounds_toArray, List.set_cons_zero, List.set_cons_succ]; done) | (simp only [putAll, Act.put, List.setIfInBounds_toArray, List.set_cons_zero, List.set_cons_succ]; rfl)) (hJ6 (.slice (some ⟨(w.drew).heap.size, 0, none⟩) n n) _ hN)
      · skip
        rintro v6_ W_ hQ_
        have hSep : Aside0 (Sep w W_ ((Row BK 4 (v6_) (List.replicate n false)) :: [])) := ⟨hQ_⟩
        clear hQ_
        have hHeld := trivial
        refine norm_ (a' := ?_) ?_ ?_
        rotate_left
        · simp only [putAll, Act.put, List.setIfInBounds_toArray, List.set_cons_zero, List.set_cons_succ]
          rfl
        refine one_ (i := 1) (N := some 18) #[true, true, true, true, true, true, true, false, false, false] rfl rfl (by kernel_rfl) (by decide) (fun K hK => ?_)
        refine goes_ Try.func35 (by kernel_rfl) rfl #[.slice A (64 * n) c] (by rfl) rfl rfl (by simp only [List.map_toArray, List.map_cons, List.map_nil]; rfl) ?_
        with_reducible refine (clone_ (l := l) (Kd.C_below AR.out (hSep.out).toBelow) AC.out (by omega)).mono ?_
        rintro e wn_ ⟨vn_, rfl, hS_⟩
        refine ⟨_, rfl, ?_⟩
        have hN := (hSep.out).lift1 hS_
        clear hS_
        refine hK.out _ _ trivial (fun hHeld => ?_)
        clear hK K
        refine norm_ (a' := ?_) ?_ ?_
        rotate_left
        · show Act.put _ (some 18) _ = _
          simp only [Act.put, List.setIfInBounds_toArray, List.set_cons_zero, List.set_cons_succ, i64_w, i32_w]
          rfl
        exact norm_ (by first | (simp only [putAll, Act.put, List.setIfInBounds_toArray, List.set_cons_zero, List.set_cons_succ]; done) | (simp only [putAll, Act.put, List.setIfInBounds_toArray, List.set_cons_zero, List.set_cons_succ]; rfl)) (hJ1_6 (vn_, v6_) _ hN)
    · skip
      rintro v1_ W_ hQ_
      have hSep : Aside0 (Sep w W_ ((Row U8 5 (v1_) l) :: [])) := ⟨hQ_⟩
      clear hQ_
      have hHeld := trivial
      refine norm_ (a' := ?_) ?_ ?_
      rotate_left
      · simp only [putAll, Act.put, List.setIfInBounds_toArray, List.set_cons_zero, List.set_cons_succ]
        rfl
      refine one_ (i := 6) (N := some 23) #[true, true, true, true, true, true, true, false, false, false] rfl rfl (by kernel_rfl) (by decide) (fun K hK => ?_)
      refine value_ (w1 := ?_) (v := ?_) (by rfl) rfl ?_ ?_
      rotate_left 2
      · go_simp
        constructor
        · rfl
        · rfl
      have hN := madeT n (hSep.out) (by omega)
      refine hK.out _ _ trivial (fun hHeld => ?_)
      clear hK K
      refine norm_ (a' := ?_) ?_ ?_
      rotate_left
      · show Act.put _ (some 23) _ = _
        simp only [Act.put, List.setIfInBounds_toArray, List.set_cons_zero, List.set_cons_succ, i64_w, i32_w]
        rfl
      exact norm_ (by first | (simp only [putAll, Act.put, List.setIfInBounds_toArray, List.set_cons_zero, List.set_cons_succ]; done) | (simp only [putAll, Act.put, List.setIfInBounds_toArray, List.set_cons_zero, List.set_cons_succ]; rfl)) (hJ1_6 (v1_, .slice (some ⟨(W_).heap.size, 0, none⟩) n n) _ hN.at2)
  rintro ⟨v1_, v6_⟩ W_ hQ_
  have hSep : Aside0 (Sep w W_ ((Row U8 5 (v1_) l) :: (Row BK 4 (v6_) (List.replicate n false)) :: [])) := ⟨hQ_⟩
  clear hQ_
  have hHeld := trivial
  obtain ⟨A1, c1, rfl⟩ := hSep.out.rowN AL.out
  obtain ⟨A6, c6, rfl⟩ := hSep.out.at2.rowN (List.length_replicate ..)
  refine norm_ (a' := ?_) ?_ ?_
  rotate_left
  · simp only [putAll, Act.put, List.setIfInBounds_toArray, List.set_cons_zero, List.set_cons_succ]
    rfl
  refine pure_ (i := 7) (N := some 24) (v := ?_) (a' := ?_) #[true, true, true, true, true, true, true, true, false, false] rfl rfl (by kernel_rfl) (fun _ _ _ h => h) (Or.inl ⟨by rfl, ?_⟩) ?_ ?_
  rotate_left
  · intro w'
    go_simp
    with_reducible rfl
  rotate_left
  · simp only [Act.put, List.setIfInBounds_toArray, List.set_cons_zero, List.set_cons_succ, i64_w, i32_w]
    rfl
  refine one_ (i := 8) (N := some 25) #[true, true, true, true, true, true, true, true, true, false] rfl rfl (by kernel_rfl) (by decide) (fun K hK => ?_)
  clear hw
  refine value_ (w1 := ?_) (v := ?_) (by rfl) rfl ?_ ?_
  rotate_left 2
  · go_simp
    constructor
    · rfl
    · rfl
  refine hK.out _ _ trivial (fun hHeld => ?_)
  clear hK K
  refine norm_ (a' := ?_) ?_ ?_
  rotate_left
  · show Act.put _ (some 25) _ = _
    simp only [Act.put, List.setIfInBounds_toArray, List.set_cons_zero, List.set_cons_succ, i64_w, i32_w]
    rfl
  refine pure_ (i := 9) (N := some 4) (v := ?_) (a' := ?_) #[true, true, true, true, true, true, true, true, true, true] rfl rfl (by kernel_rfl) (fun _ _ _ h => h) (Or.inl ⟨by rfl, ?_⟩) ?_ ?_
  rotate_left
  · intro w'
    go_simp
    with_reducible rfl
  rotate_left
  · simp only [Act.put, List.setIfInBounds_toArray, List.set_cons_zero, List.set_cons_succ, i64_w, i32_w]
    rfl
  refine done_ (by kernel_rfl) ?_
  go_wp2_with fail
  go_ret
  have h6 := hSep.out.newBlk 77 #[.slice A1 (64 * n) c1, .int .i64 most, .slice A6 n c6]
  exact ⟨_, rfl, shut_ (by rw [AL.out, List.length_replicate]) (by rw [List.length_replicate]; exact hm) hm2 h6⟩
end
end Go.Proofs.Ytfpkhlhojjmgiaa.Cells
