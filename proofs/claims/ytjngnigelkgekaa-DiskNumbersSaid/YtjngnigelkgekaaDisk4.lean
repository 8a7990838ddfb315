/- The disk: a sector is let wait. -/
import Derived.Test.YtjngnigelkgekaaDisk3
namespace Go.Proofs.Ytjngnigelkgekaa.Disk
set_option linter.unusedVariables false
set_option linter.unusedSimpArgs false
open Go.RowKit Go.Proofs.YtjngnigelkgekaaW.PrintWords Go.Proofs.YtjngnigelkgekaaW.PrintLast Go.Proofs.YtjngnigelkgekaaW.PrintMore Go.Proofs.Ytjngnigelkgekaa.Kit
theorem not_ens {ents : List Ent} {i : Nat} (h : ∀ x ∈ ents, x.k ≠ i) : ∀ e ∈ ents.map Ent.en, e.k ≠ (i : Int) := fun y hy => by
  obtain ⟨x, hx, rfl⟩ := List.mem_map.1 hy
  have := h x hx
  show (x.k : Int) ≠ (i : Int)
  omega
/-- What a store among the sectors that wait leaves. -/
theorem upd_ {w0 W : World} {g m clock c1 : Nat} {A1 : Option Addr} {v : Value} {ents : List Ent} {las b : List Int} {wt : Nat → Option (List Int)} {F : List HP} (hok : DskOk las ents clock wt)
    (h : Sep w0 W (Row U8 5 (.slice A1 64 c1) b :: Blk g 96 #[v, .map (some m)] :: Row U8 5 v las :: MapB m (ens (ents.map Ent.en)) clock :: (ents.map Ent.rd ++ F))) (i : Nat) (hi : 64 * i < las.length) :
    ∃ W', (Instr.mapUpdate 94 (.map (some m)) (.int .i64 (i : Int)) (.slice A1 64 c1)).run Try.prog W = .ok () W' ∧ Sep w0 W' (Dsk g las (fun j => if j = i then some b else wt j) :: F) := by
  have hC := h.rowC
  have hb : b.length = 64 := hC.1.symm
  have hm := h.tail.tail.tail.map
  have h1 : Sep w0 W (MapB m (ens (ents.map Ent.en)) clock :: Rd U8 A1 64 b :: Blk g 96 #[v, .map (some m)] :: Row U8 5 v las :: (ents.map Ent.rd ++ F)) := h.rowRd.at4
  cases hf : ents.find? (fun e => e.k == i) with
  | none =>
    have hn := find_not hf
    refine ⟨_, update_new Try.underlying94 Try.underlying3 hm _ _ (not_ens hn), ?_⟩
    have h2 := h1.setMap (ens (ents.map Ent.en ++ [⟨(i : Int), .slice A1 64 c1, clock⟩])) (clock + 1)
    refine shut_ (v := v) (m := m) (ents := ents ++ [⟨i, b, A1, c1, clock⟩]) (clock := clock + 1) ?_ ?_
    · refine ⟨hok.len, ?_, ?_, ?_, ?_⟩
      · rw [List.map_append, List.nodup_append]
        refine ⟨hok.keys, by simp, fun x hx y hy => ?_⟩
        obtain ⟨e, he, rfl⟩ := List.mem_map.1 hx
        simp at hy; subst hy
        exact hn e he
      · rw [List.map_append, List.nodup_append]
        refine ⟨hok.borns, by simp, fun x hx y hy => ?_⟩
        obtain ⟨e, he, rfl⟩ := List.mem_map.1 hx
        simp at hy; subst hy
        have := (hok.each e he).1; omega
      · intro e he
        rcases List.mem_append.1 he with he | he
        · have := hok.each e he; exact ⟨by omega, this.2⟩
        · simp at he; subst he; exact ⟨by simp, hi, hb, hC.2.1⟩
      · intro j
        rw [List.find?_append]
        by_cases hj : j = i
        · subst hj
          rw [hf]; simp
        · have hne : (i == j) = false := by simp; omega
          simp only [if_neg hj, hok.wt j]
          cases ents.find? (fun e => e.k == j) <;> simp [hne]
    · rw [List.map_append, List.map_append]
      refine h2.to4.to4.perm (.cons _ (.cons _ (.cons _ ?_)))
      rw [List.append_assoc]
      exact List.perm_middle.symm
  | some e =>
    obtain ⟨pre, post, rfl, rfl, hp⟩ := find_split hf
    rw [List.map_append, List.map_cons] at hm
    refine ⟨_, update_old (e := e.en) Try.underlying94 Try.underlying3 hm _ (not_ens hp), ?_⟩
    have h2 := h1.setMap (ens (pre.map Ent.en ++ ⟨(e.k : Int), .slice A1 64 c1, e.born⟩ :: post.map Ent.en)) clock
    refine shut_ (v := v) (m := m) (ents := pre ++ ⟨e.k, b, A1, c1, e.born⟩ :: post) (clock := clock) ?_ ?_
    · refine ⟨hok.len, ?_, ?_, ?_, ?_⟩
      · have := hok.keys; simpa using this
      · have := hok.borns; simpa using this
      · intro x hx
        rcases List.mem_append.1 hx with hx | hx
        · exact hok.each x (by simp [hx])
        · rcases List.mem_cons.1 hx with rfl | hx
          · exact ⟨(hok.each e (by simp)).1, hi, hb, hC.2.1⟩
          · exact hok.each x (by simp [hx])
      · intro j
        rw [List.find?_append, List.find?_cons]
        have hw := hok.wt j
        rw [List.find?_append, List.find?_cons] at hw
        by_cases hj : j = e.k
        · subst hj
          have : pre.find? (fun x => x.k == e.k) = none := by
            rw [List.find?_eq_none]; intro x hx; simpa using hp x hx
          rw [this]; simp
        · have hne : (e.k == j) = false := by simp; omega
          simp only [if_neg hj, hw, hne]
    · rw [List.map_append, List.map_cons, List.map_append, List.map_cons]
      rw [List.map_append, List.map_cons] at h2
      refine Sep.tail (p := e.rd) (h2.to4.to4.perm ?_)
      rw [List.append_assoc, List.append_assoc, List.cons_append, List.cons_append]
      refine ((List.Perm.cons _ (.cons _ (.cons _ ?_))).trans (List.perm_middle (l₁ := [_, _, _])))
      exact (List.Perm.cons _ List.perm_middle).trans ((List.Perm.swap _ _ _).trans (.cons _ List.perm_middle.symm))
/-- Write where there is no such sector, or no such length. -/
theorem write_out {w0 W : World} {g : Nat} {las : List Int} {wt : Nat → Option (List Int)} {F : List HP} (h : Sep w0 W (Dsk g las wt :: F)) (i : Int) {A : Option Addr} {n c : Nat} (hm : n ≤ 9223372036854775807) (hi : ¬ (0 ≤ i ∧ i < (las.length : Int) / 64) ∨ n ≠ 64) :
    Calls Try.prog 45 #[.pointer (some ⟨g, 0, none⟩), .int .i64 i, .slice A n c] W fun e w' => e = .returned (.bool false) ∧ W = w' := by
  by_cases h1 : 0 ≤ i ∧ i < (las.length : Int) / 64
  · have hd : decide (0 ≤ i ∧ i < (las.length : Int) / 64) = true := decide_eq_true h1
    have hn : ((n : Int) != 64) = true := by have := hi.resolve_left (fun h => h h1); simp; omega
    clear hi h1
    go_enter Try.func45, Try.ntmps45
    go_wp2_with (go_at_call 93; refine (there_ h i).mono ?_; rintro e w' ⟨rfl, rfl⟩; rw [hd])
    go_ret
    exact ⟨by first | rfl | (simp; done), rfl⟩
  · have hd : decide (0 ≤ i ∧ i < (las.length : Int) / 64) = false := decide_eq_false h1
    clear hi h1
    go_enter Try.func45, Try.ntmps45
    go_wp2_with (go_at_call 93; refine (there_ h i).mono ?_; rintro e w' ⟨rfl, rfl⟩; rw [hd])
    go_ret
    exact ⟨by first | rfl | (simp; done), rfl⟩
set_option maxHeartbeats 400000 in
set_option maxRecDepth 100000 in
theorem write_in {w0 W : World} {g : Nat} {las : List Int} {wt : Nat → Option (List Int)} {F : List HP} (h : Sep w0 W (Dsk g las wt :: F)) (i : Nat) (hi : 64 * (i + 1) ≤ las.length) {A : Option Addr} {c : Nat} {b : List Int} (hb : U8.C W A 64 b) (hc : 64 ≤ c) :
    Calls Try.prog 45 #[.pointer (some ⟨g, 0, none⟩), .int .i64 (i : Int), .slice A 64 c] W fun e w' => e = .returned (.bool true) ∧ Sep w0 w' (Dsk g las (fun j => if j = i then some b else wt j) :: F) := by
  obtain ⟨v, m, ents, clock, hok, hs⟩ := open_ h
  obtain ⟨p1, p2, p3⟩ := hok.pos
  have hd : decide (0 ≤ (i : Int) ∧ (i : Int) < (las.length : Int) / 64) = true := decide_eq_true (by omega)
  have HI := Aside0.mk hi
  have HB := Aside0.mk hb
  have HOK := Aside0.mk hok
  have hbl : b.length = 64 := hb.1
  have HBL := Aside0.mk hbl
  clear p3 hok hb hi hbl
  go_enter Try.func45, Try.ntmps45
  go_wp2_with (go_at_call 93; refine (there_ h i).mono ?_; rintro e w' ⟨rfl, rfl⟩; rw [hd])
  refine start_ (n := 8) (S := fun w' => w'.cell? ⟨g, 1, none⟩ = some (.map (some m))) (ds := [7]) #[false, false, false, false, false, false, false, false] (by kernel_rfl) rfl rfl (by rw [hs.drew.cell 1]; rfl) (fun hHeld => ?_)
  refine pure_ (i := 0) (N := some 16) (v := ?_) (a' := ?_) #[true, false, false, false, false, false, false, false] rfl rfl (by kernel_rfl) (fun _ _ _ h => h) (Or.inl ⟨by rfl, ?_⟩) ?_ ?_
  rotate_left
  · intro w'
    go_simp
    with_reducible rfl
  rotate_left
  · simp only [Act.put, List.setIfInBounds_toArray, List.set_cons_zero, List.set_cons_succ, i64_w, i32_w]
    rfl
  refine pure_ (i := 1) (N := some 17) (v := ?_) (a' := ?_) #[true, true, false, false, false, false, false, false] rfl rfl (by kernel_rfl) (fun _ _ _ h => h) (Or.inl ⟨by rfl, ?_⟩) ?_ ?_
  rotate_left
  · intro w'
    go_simp
    with_reducible rfl
  rotate_left
  · simp only [Act.put, List.setIfInBounds_toArray, List.set_cons_zero, List.set_cons_succ, i64_w, i32_w]
    rfl
  refine pure_ (i := 2) (N := some 18) (v := ?_) (a' := ?_) #[true, true, true, false, false, false, false, false] rfl rfl (by kernel_rfl) (fun _ _ _ h => h) (Or.inl ⟨by rfl, ?_⟩) ?_ ?_
  rotate_left
  · intro w'
    go_simp
    with_reducible rfl
  rotate_left
  · simp only [Act.put, List.setIfInBounds_toArray, List.set_cons_zero, List.set_cons_succ, i64_w, i32_w]
    rfl
  refine pure_ (i := 4) (N := some 20) (v := ?_) (a' := ?_) #[true, true, true, false, true, false, false, false] rfl rfl (by kernel_rfl) (fun _ _ _ h => h) (Or.inl ⟨by rfl, ?_⟩) ?_ ?_
  rotate_left
  · intro w'
    go_simp
    with_reducible rfl
  rotate_left
  · simp only [Act.put, List.setIfInBounds_toArray, List.set_cons_zero, List.set_cons_succ, i64_w, i32_w]
    rfl
  refine pure_ (i := 5) (N := some 21) (v := ?_) (a' := ?_) #[true, true, true, false, true, true, false, false] rfl rfl (by kernel_rfl) (fun _ _ _ h => h) (Or.inl ⟨by rfl, ?_⟩) ?_ ?_
  rotate_left
  · intro w'
    go_simp
    with_reducible rfl
  rotate_left
  · simp only [Act.put, List.setIfInBounds_toArray, List.set_cons_zero, List.set_cons_succ, i64_w, i32_w]
    rfl
  refine take_ (i := 3) (N := some 19) (v := ?_) (a' := ?_) #[true, true, true, true, true, true, false, false] rfl rfl (by kernel_rfl) (fun _ _ _ h => h) (Or.inl ⟨by rfl, ?_⟩) hHeld ?_ ?_
  rotate_left
  · intro w' s0
    go_simp
    with_reducible rfl
  rotate_left
  · simp only [Act.put, List.setIfInBounds_toArray, List.set_cons_zero, List.set_cons_succ, i64_w, i32_w]
    rfl
  refine one_ (i := 6) (N := some 22) #[true, true, true, true, true, true, true, false] rfl rfl (by kernel_rfl) (by decide) (fun K hK => ?_)
  refine goes_ Try.func94 (by kernel_rfl) rfl #[.slice A 64 c] (by rfl) rfl rfl (by simp only [List.map_toArray, List.map_cons, List.map_nil]; rfl) ?_
  with_reducible refine (clone_ (w := W.drew) (Kd.C_drew HB.out) hc (by omega)).mono ?_
  rintro e w3 ⟨v3, rfl, hS1⟩
  refine ⟨_, rfl, ?_⟩
  have hs3 := hs.drew.lift1 hS1
  obtain ⟨A1, c1, rfl⟩ := hs3.rowN HBL.out
  refine hK.out _ _ (by rw [hs3.tail.cell 1]; rfl) (fun hHeld => ?_)
  clear hK K
  refine norm_ (a' := ?_) ?_ ?_
  rotate_left
  · show Act.put _ (some 22) _ = _
    simp only [Act.put, List.setIfInBounds_toArray, List.set_cons_zero, List.set_cons_succ, i64_w, i32_w]
    rfl
  refine last_ (i := 7) (N := none) #[true, true, true, true, true, true, true, true] rfl rfl (by kernel_rfl) (by decide) (fun K hK => ?_)
  obtain ⟨W4, hup, hfin⟩ := upd_ HOK.out hs3 i (by have := HI.out; omega)
  refine skip_ (w1 := ?_) (by rfl) rfl ?_ ?_
  rotate_left
  · go_simp
    rfl
  refine hK.out _ _ ?_
  clear hK K
  refine done_ (by kernel_rfl) ?_
  go_wp2
  go_ret
  exact ⟨by first | rfl | (simp; done), hfin⟩
end Go.Proofs.Ytjngnigelkgekaa.Disk
