/- Ref2, Ref3, Ref4, Ref5: what RedoNumbers needs. -/
import Derived.Test.YtjngnigelkgekaaTredoNumbers5
import Derived.Deep.Cut
import Derived.Deep.CutRange
namespace Go.Proofs.Ytjngnigelkgekaa.Ref
set_option linter.unusedVariables false
set_option linter.unusedSimpArgs false
open Go.RowKit Go.Proofs.YtjngnigelkgekaaW.PrintWords Go.Proofs.YtjngnigelkgekaaW.PrintLast Go.Proofs.YtjngnigelkgekaaW.PrintMore Go.Proofs.Ytjngnigelkgekaa.Kit Go.Proofs.Ytjngnigelkgekaa.Disk
theorem madeT {w0 W : World} {F : List HP} (m : Nat) (h : Sep w0 W F) (hm : m ≤ 100000) : Sep w0 (W.alloc (.cells (madeCells #[.bool false] m) 4)) (Row BK 4 (.slice (some ⟨W.heap.size, 0, none⟩) m m) (List.replicate m false) :: F) :=
  h.madeRow (h1 := fun _ => rfl) (e := 4) (enc := Value.bool) false m (by omega)
theorem makeT {m : Nat} (hm : m ≤ 100000) : ∀ W : World, (Instr.makeSlice 142 (.int .i64 (m : Int)) (.int .i64 (m : Int))).run Try.prog W = .ok (.slice (some ⟨W.heap.size, 0, none⟩) m m) (W.alloc (.cells (madeCells #[.bool false] m) 4)) := by
  exact print_make_of (P := Try.prog) 142 4 (.bool false) 1 Try.underlying142 infoT rfl (by decide) m (by omega)
set_option maxHeartbeats 1600000 in
set_option maxRecDepth 100000 in
theorem of_ok {A : Option Addr} {k m c : Nat} {l : List Int} {w : World} (hr : U8.C w A k l) (hk : k = 64 * m) (h1 : 1 ≤ m) (h2 : m ≤ 160) :
    Calls Try.prog 96 #[.slice A k c] w fun e w' => ∃ g, e = .returned (.pointer (some ⟨g, 0, none⟩)) ∧ Sep w w' [RD g m l l (List.replicate m false) (-1) 0] := by
  subst hk
  have hd : (64 * (m : Int)).tdiv 64 = (m : Int) := Int.mul_tdiv_cancel_left _ (by decide)
  have hm : (64 * (m : Int)).tmod 64 = 0 := Int.mul_tmod_right _ _
  have hmk := makeT (m := m) (by omega)
  have AR := Aside0.mk hr
  have hll := hr.1
  have AL := Aside0.mk hll
  clear hr hll
  go_enter Try.func96, Try.ntmps96
  go_wp2_with fail
  refine start_ (n := 11) (S := fun w' => True) (ds := []) #[false, false, false, false, false, false, false, false, false, false, false] (by kernel_rfl) rfl rfl trivial (fun hHeld => ?_)
  refine pure_ (i := 1) (N := some 20) (v := ?_) (a' := ?_) #[false, true, false, false, false, false, false, false, false, false, false] rfl rfl (by kernel_rfl) (fun _ _ _ h => h) (Or.inl ⟨by rfl, ?_⟩) ?_ ?_
  rotate_left
  · intro w'
    go_simp
    with_reducible rfl
  rotate_left
  · simp only [Act.put, List.setIfInBounds_toArray, List.set_cons_zero, List.set_cons_succ, i64_w, i32_w]
    rfl
  refine pure_ (i := 4) (N := some 23) (v := ?_) (a' := ?_) #[false, true, false, false, true, false, false, false, false, false, false] rfl rfl (by kernel_rfl) (fun _ _ _ h => h) (Or.inl ⟨by rfl, ?_⟩) ?_ ?_
  rotate_left
  · intro w'
    go_simp
    with_reducible rfl
  rotate_left
  · simp only [Act.put, List.setIfInBounds_toArray, List.set_cons_zero, List.set_cons_succ, i64_w, i32_w]
    rfl
  refine pure_ (i := 6) (N := some 25) (v := ?_) (a' := ?_) #[false, true, false, false, true, false, true, false, false, false, false] rfl rfl (by kernel_rfl) (fun _ _ _ h => h) (Or.inl ⟨by rfl, ?_⟩) ?_ ?_
  rotate_left
  · intro w'
    go_simp
    with_reducible rfl
  rotate_left
  · simp only [Act.put, List.setIfInBounds_toArray, List.set_cons_zero, List.set_cons_succ, i64_w, i32_w]
    rfl
  refine join_ (σ := Value × Value × Value × Value × Value) 3 #[true, true, true, true, true, true, true, true, false, false, false] (fun s_ => [(19, s_.1), (21, s_.2.1), (22, s_.2.2.1), (24, s_.2.2.2.1), (26, s_.2.2.2.2)]) (fun s_ w' => Sep w w' ((Row U8 5 (s_.2.1) l) :: (Row U8 5 (s_.2.2.2.1) l) :: (Row BK 4 (s_.2.2.2.2) (List.replicate m false)) :: [])) ?_ ?_
  rotate_left
  · intro hJ0_2_3_5_7
    refine join_ (σ := Value × Value × Value × Value) 4 #[true, true, true, true, true, true, true, false, false, false, false] (fun s_ => [(19, s_.1), (21, s_.2.1), (22, s_.2.2.1), (24, s_.2.2.2)]) (fun s_ w' => Sep w w' ((Row U8 5 (s_.2.1) l) :: (Row U8 5 (s_.2.2.2) l) :: [])) ?_ ?_
    rotate_left
    · intro hJ0_2_3_5
      refine join_ (σ := Value × Value × Value × Value) 4 #[true, true, true, true, true, false, true, true, false, false, false] (fun s_ => [(19, s_.1), (21, s_.2.1), (22, s_.2.2.1), (26, s_.2.2.2)]) (fun s_ w' => Sep w w' ((Row U8 5 (s_.2.1) l) :: (Row U8 5 (s_.2.2.1) []) :: (Row BK 4 (s_.2.2.2) (List.replicate m false)) :: [])) ?_ ?_
      rotate_left
      · intro hJ0_2_3_7
        refine join_ (σ := Value × Value × Value) 5 #[true, true, true, true, true, false, true, false, false, false, false] (fun s_ => [(19, s_.1), (21, s_.2.1), (22, s_.2.2)]) (fun s_ w' => Sep w w' ((Row U8 5 (s_.2.1) l) :: (Row U8 5 (s_.2.2) []) :: [])) ?_ ?_
        rotate_left
        · intro hJ0_2_3
          refine join_ (σ := Value × Value × Value) 5 #[true, true, true, false, true, false, true, true, false, false, false] (fun s_ => [(19, s_.1), (21, s_.2.1), (26, s_.2.2)]) (fun s_ w' => Sep w w' ((Row U8 5 (s_.2.1) l) :: (Row BK 4 (s_.2.2) (List.replicate m false)) :: [])) ?_ ?_
          rotate_left
          · intro hJ0_2_7
            refine join_ (σ := Value × Value × Value) 5 #[true, true, false, true, true, false, true, true, false, false, false] (fun s_ => [(19, s_.1), (22, s_.2.1), (26, s_.2.2)]) (fun s_ w' => Sep w w' ((Row U8 5 (s_.1) []) :: (Row U8 5 (s_.2.1) []) :: (Row BK 4 (s_.2.2) (List.replicate m false)) :: [])) ?_ ?_
            rotate_left
            · intro hJ0_3_7
              refine join_ (σ := Value × Value) 6 #[true, true, true, false, true, false, true, false, false, false, false] (fun s_ => [(19, s_.1), (21, s_.2)]) (fun s_ w' => Sep w w' ((Row U8 5 (s_.2) l) :: [])) ?_ ?_
              rotate_left
              · intro hJ0_2
                refine join_ (σ := Value × Value) 6 #[true, true, false, true, true, false, true, false, false, false, false] (fun s_ => [(19, s_.1), (22, s_.2)]) (fun s_ w' => Sep w w' ((Row U8 5 (s_.1) []) :: (Row U8 5 (s_.2) []) :: [])) ?_ ?_
                rotate_left
                · intro hJ0_3
                  refine join_ (σ := Value × Value) 6 #[true, true, false, false, true, false, true, true, false, false, false] (fun s_ => [(19, s_.1), (26, s_.2)]) (fun s_ w' => Sep w w' ((Row U8 5 (s_.1) []) :: (Row BK 4 (s_.2) (List.replicate m false)) :: [])) ?_ ?_
                  rotate_left
                  · intro hJ0_7
                    refine join_ (σ := Value × Value) 6 #[false, true, false, true, true, false, true, true, false, false, false] (fun s_ => [(22, s_.1), (26, s_.2)]) (fun s_ w' => Sep w w' ((Row U8 5 (s_.1) []) :: (Row BK 4 (s_.2) (List.replicate m false)) :: [])) ?_ ?_
                    rotate_left
                    · intro hJ3_7
                      refine join_ (σ := Value) 7 #[true, true, false, false, true, false, true, false, false, false, false] (fun s_ => [(19, s_)]) (fun s_ w' => Sep w w' ((Row U8 5 (s_) []) :: [])) ?_ ?_
                      rotate_left
                      · intro hJ0
                        refine join_ (σ := Value) 7 #[false, true, false, true, true, false, true, false, false, false, false] (fun s_ => [(22, s_)]) (fun s_ w' => Sep w w' ((Row U8 5 (s_) []) :: [])) ?_ ?_
                        rotate_left
                        · intro hJ3
                          refine join_ (σ := Value) 7 #[false, true, false, false, true, false, true, true, false, false, false] (fun s_ => [(26, s_)]) (fun s_ w' => Sep w w' ((Row BK 4 (s_) (List.replicate m false)) :: [])) ?_ ?_
                          rotate_left
                          · intro hJ7
                            refine three_ (i := 0) (j := 3) (k := 7) (Ni := some 19) (Nj := some 22) (Nk := some 26) #[true, true, false, false, true, false, true, false, false, false, false] #[false, true, false, true, true, false, true, false, false, false, false] #[false, true, false, false, true, false, true, true, false, false, false] rfl rfl rfl rfl rfl rfl (by kernel_rfl) (by decide) (by decide) (by decide) (fun K hK => ?_) (fun K hK => ?_) (fun K hK => ?_)
                            · skip
                              refine value_ (w1 := ?_) (v := ?_) (by rfl) rfl ?_ ?_
                              rotate_left 2
                              · go_simp
                                constructor
                                · rfl
                                · rfl
                              have hN := ((Sep.start w).drew).litRow (enc := Value.int .u8) (h1 := fun _ => rfl) (e := 5) [] (by decide)
                              refine hK.out _ _ trivial (fun hHeld => ?_)
                              clear hK K
                              refine norm_ (a' := ?_) ?_ ?_
                              rotate_left
                              · show Act.put _ (some 19) _ = _
                                simp only [Act.put, List.setIfInBounds_toArray, List.set_cons_zero, List.set_cons_succ, i64_w, i32_w]
                                rfl
                              exact norm_ (by first | (simp only [putAll, Act.put, List.setIfInBounds_toArray, List.set_cons_zero, List.set_cons_succ]; done) | (simp only [putAll, Act.put, List.setIfInBounds_toArray, List.set_cons_zero, List.set_cons_succ]; rfl)) (hJ0 (.slice (some ⟨(w.drew).heap.size, 0, none⟩) 0 0) _ hN)
                            · skip
                              refine value_ (w1 := ?_) (v := ?_) (by rfl) rfl ?_ ?_
                              rotate_left 2
                              · go_simp
                                constructor
                                · rfl
                                · rfl
                              have hN := ((Sep.start w).drew).litRow (enc := Value.int .u8) (h1 := fun _ => rfl) (e := 5) [] (by decide)
                              refine hK.out _ _ trivial (fun hHeld => ?_)
                              clear hK K
                              refine norm_ (a' := ?_) ?_ ?_
                              rotate_left
                              · show Act.put _ (some 22) _ = _
                                simp only [Act.put, List.setIfInBounds_toArray, List.set_cons_zero, List.set_cons_succ, i64_w, i32_w]
                                rfl
                              exact norm_ (by first | (simp only [putAll, Act.put, List.setIfInBounds_toArray, List.set_cons_zero, List.set_cons_succ]; done) | (simp only [putAll, Act.put, List.setIfInBounds_toArray, List.set_cons_zero, List.set_cons_succ]; rfl)) (hJ3 (.slice (some ⟨(w.drew).heap.size, 0, none⟩) 0 0) _ hN)
                            · skip
                              refine value_ (w1 := ?_) (v := ?_) (by rfl) rfl ?_ ?_
                              rotate_left 2
                              · go_simp
                                constructor
                                · rfl
                                · rfl
                              have hN := madeT m ((Sep.start w).drew) (by omega)
                              refine hK.out _ _ trivial (fun hHeld => ?_)
                              clear hK K
                              refine norm_ (a' := ?_) ?_ ?_
                              rotate_left
                              · show Act.put _ (some 26) _ = _
                                simp only [Act.put, List.setIfInBounds_toArray, List.set_cons_zero, List.set_cons_succ, i64_w, i32_w]
                                rfl
                              exact norm_ (by first | (simp only [putAll, Act.put, List.setIfInBounds_toArray, List.set_cons_zero, List.set_cons_succ]; done) | (simp only [putAll, Act.put, List.setIfInBounds_toArray, List.set_cons_zero, List.set_cons_succ]; rfl)) (hJ7 (.slice (some ⟨(w.drew).heap.size, 0, none⟩) m m) _ hN)
                          · skip
                            rintro v7_ W_ hQ_
                            have hSep : Aside0 (Sep w W_ ((Row BK 4 (v7_) (List.replicate m false)) :: [])) := ⟨hQ_⟩
                            clear hQ_
                            have hHeld := trivial
                            refine norm_ (a' := ?_) ?_ ?_
                            rotate_left
                            · simp only [putAll, Act.put, List.setIfInBounds_toArray, List.set_cons_zero, List.set_cons_succ]
                              rfl
                            refine two_ (i := 0) (j := 3) (Ni := some 19) (Nj := some 22) #[true, true, false, false, true, false, true, true, false, false, false] #[false, true, false, true, true, false, true, true, false, false, false] rfl rfl rfl rfl (by kernel_rfl) (by decide) (by decide) (fun K hK => ?_) (fun K hK => ?_)
                            · skip
                              refine value_ (w1 := ?_) (v := ?_) (by rfl) rfl ?_ ?_
                              rotate_left 2
                              · go_simp
                                constructor
                                · rfl
                                · rfl
                              have hN := (hSep.out).litRow (enc := Value.int .u8) (h1 := fun _ => rfl) (e := 5) [] (by decide)
                              refine hK.out _ _ trivial (fun hHeld => ?_)
                              clear hK K
                              refine norm_ (a' := ?_) ?_ ?_
                              rotate_left
                              · show Act.put _ (some 19) _ = _
                                simp only [Act.put, List.setIfInBounds_toArray, List.set_cons_zero, List.set_cons_succ, i64_w, i32_w]
                                rfl
                              exact norm_ (by first | (simp only [putAll, Act.put, List.setIfInBounds_toArray, List.set_cons_zero, List.set_cons_succ]; done) | (simp only [putAll, Act.put, List.setIfInBounds_toArray, List.set_cons_zero, List.set_cons_succ]; rfl)) (hJ0_7 (.slice (some ⟨(W_).heap.size, 0, none⟩) 0 0, v7_) _ hN)
                            · skip
                              refine value_ (w1 := ?_) (v := ?_) (by rfl) rfl ?_ ?_
                              rotate_left 2
                              · go_simp
                                constructor
                                · rfl
                                · rfl
                              have hN := (hSep.out).litRow (enc := Value.int .u8) (h1 := fun _ => rfl) (e := 5) [] (by decide)
                              refine hK.out _ _ trivial (fun hHeld => ?_)
                              clear hK K
                              refine norm_ (a' := ?_) ?_ ?_
                              rotate_left
                              · show Act.put _ (some 22) _ = _
                                simp only [Act.put, List.setIfInBounds_toArray, List.set_cons_zero, List.set_cons_succ, i64_w, i32_w]
                                rfl
                              exact norm_ (by first | (simp only [putAll, Act.put, List.setIfInBounds_toArray, List.set_cons_zero, List.set_cons_succ]; done) | (simp only [putAll, Act.put, List.setIfInBounds_toArray, List.set_cons_zero, List.set_cons_succ]; rfl)) (hJ3_7 (.slice (some ⟨(W_).heap.size, 0, none⟩) 0 0, v7_) _ hN)
                        · skip
                          rintro v3_ W_ hQ_
                          have hSep : Aside0 (Sep w W_ ((Row U8 5 (v3_) []) :: [])) := ⟨hQ_⟩
                          clear hQ_
                          have hHeld := trivial
                          refine norm_ (a' := ?_) ?_ ?_
                          rotate_left
                          · simp only [putAll, Act.put, List.setIfInBounds_toArray, List.set_cons_zero, List.set_cons_succ]
                            rfl
                          refine two_ (i := 0) (j := 7) (Ni := some 19) (Nj := some 26) #[true, true, false, true, true, false, true, false, false, false, false] #[false, true, false, true, true, false, true, true, false, false, false] rfl rfl rfl rfl (by kernel_rfl) (by decide) (by decide) (fun K hK => ?_) (fun K hK => ?_)
                          · skip
                            refine value_ (w1 := ?_) (v := ?_) (by rfl) rfl ?_ ?_
                            rotate_left 2
                            · go_simp
                              constructor
                              · rfl
                              · rfl
                            have hN := (hSep.out).litRow (enc := Value.int .u8) (h1 := fun _ => rfl) (e := 5) [] (by decide)
                            refine hK.out _ _ trivial (fun hHeld => ?_)
                            clear hK K
                            refine norm_ (a' := ?_) ?_ ?_
                            rotate_left
                            · show Act.put _ (some 19) _ = _
                              simp only [Act.put, List.setIfInBounds_toArray, List.set_cons_zero, List.set_cons_succ, i64_w, i32_w]
                              rfl
                            exact norm_ (by first | (simp only [putAll, Act.put, List.setIfInBounds_toArray, List.set_cons_zero, List.set_cons_succ]; done) | (simp only [putAll, Act.put, List.setIfInBounds_toArray, List.set_cons_zero, List.set_cons_succ]; rfl)) (hJ0_3 (.slice (some ⟨(W_).heap.size, 0, none⟩) 0 0, v3_) _ hN)
                          · skip
                            refine value_ (w1 := ?_) (v := ?_) (by rfl) rfl ?_ ?_
                            rotate_left 2
                            · go_simp
                              constructor
                              · rfl
                              · rfl
                            have hN := madeT m (hSep.out) (by omega)
                            refine hK.out _ _ trivial (fun hHeld => ?_)
                            clear hK K
                            refine norm_ (a' := ?_) ?_ ?_
                            rotate_left
                            · show Act.put _ (some 26) _ = _
                              simp only [Act.put, List.setIfInBounds_toArray, List.set_cons_zero, List.set_cons_succ, i64_w, i32_w]
                              rfl
                            exact norm_ (by first | (simp only [putAll, Act.put, List.setIfInBounds_toArray, List.set_cons_zero, List.set_cons_succ]; done) | (simp only [putAll, Act.put, List.setIfInBounds_toArray, List.set_cons_zero, List.set_cons_succ]; rfl)) (hJ3_7 (v3_, .slice (some ⟨(W_).heap.size, 0, none⟩) m m) _ hN.at2)
                      · skip
                        rintro v0_ W_ hQ_
                        have hSep : Aside0 (Sep w W_ ((Row U8 5 (v0_) []) :: [])) := ⟨hQ_⟩
                        clear hQ_
                        have hHeld := trivial
                        refine norm_ (a' := ?_) ?_ ?_
                        rotate_left
                        · simp only [putAll, Act.put, List.setIfInBounds_toArray, List.set_cons_zero, List.set_cons_succ]
                          rfl
                        refine three_ (i := 2) (j := 3) (k := 7) (Ni := some 21) (Nj := some 22) (Nk := some 26) #[true, true, true, false, true, false, true, false, false, false, false] #[true, true, false, true, true, false, true, false, false, false, false] #[true, true, false, false, true, false, true, true, false, false, false] rfl rfl rfl rfl rfl rfl (by kernel_rfl) (by decide) (by decide) (by decide) (fun K hK => ?_) (fun K hK => ?_) (fun K hK => ?_)
                        · skip
                          refine ((hSep.out)).appendStep (by rfl) (.tmp 19) (.tmp 20) 30 (.int .u8 0) 1 rfl Try.underlying30 infoB rfl (by decide) A (64 * m) c (by rfl) (by rfl) (Kd.C_below AR.out ((hSep.out)).toBelow) (by simp only [List.length_nil]; rw [AL.out]; omega) ?_
                          intro vn_ wn_ hN
                          rw [List.nil_append] at hN
                          refine hK.out _ _ trivial (fun hHeld => ?_)
                          clear hK K
                          refine norm_ (a' := ?_) ?_ ?_
                          rotate_left
                          · show Act.put _ (some 21) _ = _
                            simp only [Act.put, List.setIfInBounds_toArray, List.set_cons_zero, List.set_cons_succ, i64_w, i32_w]
                            rfl
                          exact norm_ (by first | (simp only [putAll, Act.put, List.setIfInBounds_toArray, List.set_cons_zero, List.set_cons_succ]; done) | (simp only [putAll, Act.put, List.setIfInBounds_toArray, List.set_cons_zero, List.set_cons_succ]; rfl)) (hJ0_2 (v0_, vn_) _ hN)
                        · skip
                          refine value_ (w1 := ?_) (v := ?_) (by rfl) rfl ?_ ?_
                          rotate_left 2
                          · go_simp
                            constructor
                            · rfl
                            · rfl
                          have hN := (hSep.out).litRow (enc := Value.int .u8) (h1 := fun _ => rfl) (e := 5) [] (by decide)
                          refine hK.out _ _ trivial (fun hHeld => ?_)
                          clear hK K
                          refine norm_ (a' := ?_) ?_ ?_
                          rotate_left
                          · show Act.put _ (some 22) _ = _
                            simp only [Act.put, List.setIfInBounds_toArray, List.set_cons_zero, List.set_cons_succ, i64_w, i32_w]
                            rfl
                          exact norm_ (by first | (simp only [putAll, Act.put, List.setIfInBounds_toArray, List.set_cons_zero, List.set_cons_succ]; done) | (simp only [putAll, Act.put, List.setIfInBounds_toArray, List.set_cons_zero, List.set_cons_succ]; rfl)) (hJ0_3 (v0_, .slice (some ⟨(W_).heap.size, 0, none⟩) 0 0) _ hN.at2)
                        · skip
                          refine value_ (w1 := ?_) (v := ?_) (by rfl) rfl ?_ ?_
                          rotate_left 2
                          · go_simp
                            constructor
                            · rfl
                            · rfl
                          have hN := madeT m (hSep.out) (by omega)
                          refine hK.out _ _ trivial (fun hHeld => ?_)
                          clear hK K
                          refine norm_ (a' := ?_) ?_ ?_
                          rotate_left
                          · show Act.put _ (some 26) _ = _
                            simp only [Act.put, List.setIfInBounds_toArray, List.set_cons_zero, List.set_cons_succ, i64_w, i32_w]
                            rfl
                          exact norm_ (by first | (simp only [putAll, Act.put, List.setIfInBounds_toArray, List.set_cons_zero, List.set_cons_succ]; done) | (simp only [putAll, Act.put, List.setIfInBounds_toArray, List.set_cons_zero, List.set_cons_succ]; rfl)) (hJ0_7 (v0_, .slice (some ⟨(W_).heap.size, 0, none⟩) m m) _ hN.at2)
                    · skip
                      rintro ⟨v3_, v7_⟩ W_ hQ_
                      have hSep : Aside0 (Sep w W_ ((Row U8 5 (v3_) []) :: (Row BK 4 (v7_) (List.replicate m false)) :: [])) := ⟨hQ_⟩
                      clear hQ_
                      have hHeld := trivial
                      refine norm_ (a' := ?_) ?_ ?_
                      rotate_left
                      · simp only [putAll, Act.put, List.setIfInBounds_toArray, List.set_cons_zero, List.set_cons_succ]
                        rfl
                      refine one_ (i := 0) (N := some 19) #[true, true, false, true, true, false, true, true, false, false, false] rfl rfl (by kernel_rfl) (by decide) (fun K hK => ?_)
                      refine value_ (w1 := ?_) (v := ?_) (by rfl) rfl ?_ ?_
                      rotate_left 2
                      · go_simp
                        constructor
                        · rfl
                        · rfl
                      have hN := (hSep.out).litRow (enc := Value.int .u8) (h1 := fun _ => rfl) (e := 5) [] (by decide)
                      refine hK.out _ _ trivial (fun hHeld => ?_)
                      clear hK K
                      refine norm_ (a' := ?_) ?_ ?_
                      rotate_left
                      · show Act.put _ (some 19) _ = _
                        simp only [Act.put, List.setIfInBounds_toArray, List.set_cons_zero, List.set_cons_succ, i64_w, i32_w]
                        rfl
                      exact norm_ (by first | (simp only [putAll, Act.put, List.setIfInBounds_toArray, List.set_cons_zero, List.set_cons_succ]; done) | (simp only [putAll, Act.put, List.setIfInBounds_toArray, List.set_cons_zero, List.set_cons_succ]; rfl)) (hJ0_3_7 (.slice (some ⟨(W_).heap.size, 0, none⟩) 0 0, v3_, v7_) _ hN)
                  · skip
                    rintro ⟨v0_, v7_⟩ W_ hQ_
                    have hSep : Aside0 (Sep w W_ ((Row U8 5 (v0_) []) :: (Row BK 4 (v7_) (List.replicate m false)) :: [])) := ⟨hQ_⟩
                    clear hQ_
                    have hHeld := trivial
                    refine norm_ (a' := ?_) ?_ ?_
                    rotate_left
                    · simp only [putAll, Act.put, List.setIfInBounds_toArray, List.set_cons_zero, List.set_cons_succ]
                      rfl
                    refine two_ (i := 2) (j := 3) (Ni := some 21) (Nj := some 22) #[true, true, true, false, true, false, true, true, false, false, false] #[true, true, false, true, true, false, true, true, false, false, false] rfl rfl rfl rfl (by kernel_rfl) (by decide) (by decide) (fun K hK => ?_) (fun K hK => ?_)
                    · skip
                      refine ((hSep.out)).appendStep (by rfl) (.tmp 19) (.tmp 20) 30 (.int .u8 0) 1 rfl Try.underlying30 infoB rfl (by decide) A (64 * m) c (by rfl) (by rfl) (Kd.C_below AR.out ((hSep.out)).toBelow) (by simp only [List.length_nil]; rw [AL.out]; omega) ?_
                      intro vn_ wn_ hN
                      rw [List.nil_append] at hN
                      refine hK.out _ _ trivial (fun hHeld => ?_)
                      clear hK K
                      refine norm_ (a' := ?_) ?_ ?_
                      rotate_left
                      · show Act.put _ (some 21) _ = _
                        simp only [Act.put, List.setIfInBounds_toArray, List.set_cons_zero, List.set_cons_succ, i64_w, i32_w]
                        rfl
                      exact norm_ (by first | (simp only [putAll, Act.put, List.setIfInBounds_toArray, List.set_cons_zero, List.set_cons_succ]; done) | (simp only [putAll, Act.put, List.setIfInBounds_toArray, List.set_cons_zero, List.set_cons_succ]; rfl)) (hJ0_2_7 (v0_, vn_, v7_) _ hN)
                    · skip
                      refine value_ (w1 := ?_) (v := ?_) (by rfl) rfl ?_ ?_
                      rotate_left 2
                      · go_simp
                        constructor
                        · rfl
                        · rfl
                      have hN := (hSep.out).litRow (enc := Value.int .u8) (h1 := fun _ => rfl) (e := 5) [] (by decide)
                      refine hK.out _ _ trivial (fun hHeld => ?_)
                      clear hK K
                      refine norm_ (a' := ?_) ?_ ?_
                      rotate_left
                      · show Act.put _ (some 22) _ = _
                        simp only [Act.put, List.setIfInBounds_toArray, List.set_cons_zero, List.set_cons_succ, i64_w, i32_w]
                        rfl
                      exact norm_ (by first | (simp only [putAll, Act.put, List.setIfInBounds_toArray, List.set_cons_zero, List.set_cons_succ]; done) | (simp only [putAll, Act.put, List.setIfInBounds_toArray, List.set_cons_zero, List.set_cons_succ]; rfl)) (hJ0_3_7 (v0_, .slice (some ⟨(W_).heap.size, 0, none⟩) 0 0, v7_) _ hN.at2)
                · skip
                  rintro ⟨v0_, v3_⟩ W_ hQ_
                  have hSep : Aside0 (Sep w W_ ((Row U8 5 (v0_) []) :: (Row U8 5 (v3_) []) :: [])) := ⟨hQ_⟩
                  clear hQ_
                  have hHeld := trivial
                  refine norm_ (a' := ?_) ?_ ?_
                  rotate_left
                  · simp only [putAll, Act.put, List.setIfInBounds_toArray, List.set_cons_zero, List.set_cons_succ]
                    rfl
                  refine two_ (i := 2) (j := 7) (Ni := some 21) (Nj := some 26) #[true, true, true, true, true, false, true, false, false, false, false] #[true, true, false, true, true, false, true, true, false, false, false] rfl rfl rfl rfl (by kernel_rfl) (by decide) (by decide) (fun K hK => ?_) (fun K hK => ?_)
                  · skip
                    refine ((hSep.out)).appendStep (by rfl) (.tmp 19) (.tmp 20) 30 (.int .u8 0) 1 rfl Try.underlying30 infoB rfl (by decide) A (64 * m) c (by rfl) (by rfl) (Kd.C_below AR.out ((hSep.out)).toBelow) (by simp only [List.length_nil]; rw [AL.out]; omega) ?_
                    intro vn_ wn_ hN
                    rw [List.nil_append] at hN
                    refine hK.out _ _ trivial (fun hHeld => ?_)
                    clear hK K
                    refine norm_ (a' := ?_) ?_ ?_
                    rotate_left
                    · show Act.put _ (some 21) _ = _
                      simp only [Act.put, List.setIfInBounds_toArray, List.set_cons_zero, List.set_cons_succ, i64_w, i32_w]
                      rfl
                    exact norm_ (by first | (simp only [putAll, Act.put, List.setIfInBounds_toArray, List.set_cons_zero, List.set_cons_succ]; done) | (simp only [putAll, Act.put, List.setIfInBounds_toArray, List.set_cons_zero, List.set_cons_succ]; rfl)) (hJ0_2_3 (v0_, vn_, v3_) _ hN)
                  · skip
                    refine value_ (w1 := ?_) (v := ?_) (by rfl) rfl ?_ ?_
                    rotate_left 2
                    · go_simp
                      constructor
                      · rfl
                      · rfl
                    have hN := madeT m (hSep.out) (by omega)
                    refine hK.out _ _ trivial (fun hHeld => ?_)
                    clear hK K
                    refine norm_ (a' := ?_) ?_ ?_
                    rotate_left
                    · show Act.put _ (some 26) _ = _
                      simp only [Act.put, List.setIfInBounds_toArray, List.set_cons_zero, List.set_cons_succ, i64_w, i32_w]
                      rfl
                    exact norm_ (by first | (simp only [putAll, Act.put, List.setIfInBounds_toArray, List.set_cons_zero, List.set_cons_succ]; done) | (simp only [putAll, Act.put, List.setIfInBounds_toArray, List.set_cons_zero, List.set_cons_succ]; rfl)) (hJ0_3_7 (v0_, v3_, .slice (some ⟨(W_).heap.size, 0, none⟩) m m) _ hN.to3)
              · skip
                rintro ⟨v0_, v2_⟩ W_ hQ_
                have hSep : Aside0 (Sep w W_ ((Row U8 5 (v2_) l) :: [])) := ⟨hQ_⟩
                clear hQ_
                have hHeld := trivial
                refine norm_ (a' := ?_) ?_ ?_
                rotate_left
                · simp only [putAll, Act.put, List.setIfInBounds_toArray, List.set_cons_zero, List.set_cons_succ]
                  rfl
                refine two_ (i := 3) (j := 7) (Ni := some 22) (Nj := some 26) #[true, true, true, true, true, false, true, false, false, false, false] #[true, true, true, false, true, false, true, true, false, false, false] rfl rfl rfl rfl (by kernel_rfl) (by decide) (by decide) (fun K hK => ?_) (fun K hK => ?_)
                · skip
                  refine value_ (w1 := ?_) (v := ?_) (by rfl) rfl ?_ ?_
                  rotate_left 2
                  · go_simp
                    constructor
                    · rfl
                    · rfl
                  have hN := (hSep.out).litRow (enc := Value.int .u8) (h1 := fun _ => rfl) (e := 5) [] (by decide)
                  refine hK.out _ _ trivial (fun hHeld => ?_)
                  clear hK K
                  refine norm_ (a' := ?_) ?_ ?_
                  rotate_left
                  · show Act.put _ (some 22) _ = _
                    simp only [Act.put, List.setIfInBounds_toArray, List.set_cons_zero, List.set_cons_succ, i64_w, i32_w]
                    rfl
                  exact norm_ (by first | (simp only [putAll, Act.put, List.setIfInBounds_toArray, List.set_cons_zero, List.set_cons_succ]; done) | (simp only [putAll, Act.put, List.setIfInBounds_toArray, List.set_cons_zero, List.set_cons_succ]; rfl)) (hJ0_2_3 (v0_, v2_, .slice (some ⟨(W_).heap.size, 0, none⟩) 0 0) _ hN.at2)
                · skip
                  refine value_ (w1 := ?_) (v := ?_) (by rfl) rfl ?_ ?_
                  rotate_left 2
                  · go_simp
                    constructor
                    · rfl
                    · rfl
                  have hN := madeT m (hSep.out) (by omega)
                  refine hK.out _ _ trivial (fun hHeld => ?_)
                  clear hK K
                  refine norm_ (a' := ?_) ?_ ?_
                  rotate_left
                  · show Act.put _ (some 26) _ = _
                    simp only [Act.put, List.setIfInBounds_toArray, List.set_cons_zero, List.set_cons_succ, i64_w, i32_w]
                    rfl
                  exact norm_ (by first | (simp only [putAll, Act.put, List.setIfInBounds_toArray, List.set_cons_zero, List.set_cons_succ]; done) | (simp only [putAll, Act.put, List.setIfInBounds_toArray, List.set_cons_zero, List.set_cons_succ]; rfl)) (hJ0_2_7 (v0_, v2_, .slice (some ⟨(W_).heap.size, 0, none⟩) m m) _ hN.at2)
            · skip
              rintro ⟨v0_, v3_, v7_⟩ W_ hQ_
              have hSep : Aside0 (Sep w W_ ((Row U8 5 (v0_) []) :: (Row U8 5 (v3_) []) :: (Row BK 4 (v7_) (List.replicate m false)) :: [])) := ⟨hQ_⟩
              clear hQ_
              have hHeld := trivial
              refine norm_ (a' := ?_) ?_ ?_
              rotate_left
              · simp only [putAll, Act.put, List.setIfInBounds_toArray, List.set_cons_zero, List.set_cons_succ]
                rfl
              refine one_ (i := 2) (N := some 21) #[true, true, true, true, true, false, true, true, false, false, false] rfl rfl (by kernel_rfl) (by decide) (fun K hK => ?_)
              refine ((hSep.out)).appendStep (by rfl) (.tmp 19) (.tmp 20) 30 (.int .u8 0) 1 rfl Try.underlying30 infoB rfl (by decide) A (64 * m) c (by rfl) (by rfl) (Kd.C_below AR.out ((hSep.out)).toBelow) (by simp only [List.length_nil]; rw [AL.out]; omega) ?_
              intro vn_ wn_ hN
              rw [List.nil_append] at hN
              refine hK.out _ _ trivial (fun hHeld => ?_)
              clear hK K
              refine norm_ (a' := ?_) ?_ ?_
              rotate_left
              · show Act.put _ (some 21) _ = _
                simp only [Act.put, List.setIfInBounds_toArray, List.set_cons_zero, List.set_cons_succ, i64_w, i32_w]
                rfl
              exact norm_ (by first | (simp only [putAll, Act.put, List.setIfInBounds_toArray, List.set_cons_zero, List.set_cons_succ]; done) | (simp only [putAll, Act.put, List.setIfInBounds_toArray, List.set_cons_zero, List.set_cons_succ]; rfl)) (hJ0_2_3_7 (v0_, vn_, v3_, v7_) _ hN)
          · skip
            rintro ⟨v0_, v2_, v7_⟩ W_ hQ_
            have hSep : Aside0 (Sep w W_ ((Row U8 5 (v2_) l) :: (Row BK 4 (v7_) (List.replicate m false)) :: [])) := ⟨hQ_⟩
            clear hQ_
            have hHeld := trivial
            refine norm_ (a' := ?_) ?_ ?_
            rotate_left
            · simp only [putAll, Act.put, List.setIfInBounds_toArray, List.set_cons_zero, List.set_cons_succ]
              rfl
            refine one_ (i := 3) (N := some 22) #[true, true, true, true, true, false, true, true, false, false, false] rfl rfl (by kernel_rfl) (by decide) (fun K hK => ?_)
            refine value_ (w1 := ?_) (v := ?_) (by rfl) rfl ?_ ?_
            rotate_left 2
            · go_simp
              constructor
              · rfl
              · rfl
            have hN := (hSep.out).litRow (enc := Value.int .u8) (h1 := fun _ => rfl) (e := 5) [] (by decide)
            refine hK.out _ _ trivial (fun hHeld => ?_)
            clear hK K
            refine norm_ (a' := ?_) ?_ ?_
            rotate_left
            · show Act.put _ (some 22) _ = _
              simp only [Act.put, List.setIfInBounds_toArray, List.set_cons_zero, List.set_cons_succ, i64_w, i32_w]
              rfl
            exact norm_ (by first | (simp only [putAll, Act.put, List.setIfInBounds_toArray, List.set_cons_zero, List.set_cons_succ]; done) | (simp only [putAll, Act.put, List.setIfInBounds_toArray, List.set_cons_zero, List.set_cons_succ]; rfl)) (hJ0_2_3_7 (v0_, v2_, .slice (some ⟨(W_).heap.size, 0, none⟩) 0 0, v7_) _ hN.at2)
        · skip
          rintro ⟨v0_, v2_, v3_⟩ W_ hQ_
          have hSep : Aside0 (Sep w W_ ((Row U8 5 (v2_) l) :: (Row U8 5 (v3_) []) :: [])) := ⟨hQ_⟩
          clear hQ_
          have hHeld := trivial
          refine norm_ (a' := ?_) ?_ ?_
          rotate_left
          · simp only [putAll, Act.put, List.setIfInBounds_toArray, List.set_cons_zero, List.set_cons_succ]
            rfl
          refine two_ (i := 5) (j := 7) (Ni := some 24) (Nj := some 26) #[true, true, true, true, true, true, true, false, false, false, false] #[true, true, true, true, true, false, true, true, false, false, false] rfl rfl rfl rfl (by kernel_rfl) (by decide) (by decide) (fun K hK => ?_) (fun K hK => ?_)
          · skip
            refine ((hSep.out).at2).appendStep (by rfl) (.tmp 22) (.tmp 23) 30 (.int .u8 0) 1 rfl Try.underlying30 infoB rfl (by decide) A (64 * m) c (by rfl) (by rfl) (Kd.C_below AR.out ((hSep.out).at2).toBelow) (by simp only [List.length_nil]; rw [AL.out]; omega) ?_
            intro vn_ wn_ hN
            rw [List.nil_append] at hN
            refine hK.out _ _ trivial (fun hHeld => ?_)
            clear hK K
            refine norm_ (a' := ?_) ?_ ?_
            rotate_left
            · show Act.put _ (some 24) _ = _
              simp only [Act.put, List.setIfInBounds_toArray, List.set_cons_zero, List.set_cons_succ, i64_w, i32_w]
              rfl
            exact norm_ (by first | (simp only [putAll, Act.put, List.setIfInBounds_toArray, List.set_cons_zero, List.set_cons_succ]; done) | (simp only [putAll, Act.put, List.setIfInBounds_toArray, List.set_cons_zero, List.set_cons_succ]; rfl)) (hJ0_2_3_5 (v0_, v2_, v3_, vn_) _ hN.at2)
          · skip
            refine value_ (w1 := ?_) (v := ?_) (by rfl) rfl ?_ ?_
            rotate_left 2
            · go_simp
              constructor
              · rfl
              · rfl
            have hN := madeT m (hSep.out) (by omega)
            refine hK.out _ _ trivial (fun hHeld => ?_)
            clear hK K
            refine norm_ (a' := ?_) ?_ ?_
            rotate_left
            · show Act.put _ (some 26) _ = _
              simp only [Act.put, List.setIfInBounds_toArray, List.set_cons_zero, List.set_cons_succ, i64_w, i32_w]
              rfl
            exact norm_ (by first | (simp only [putAll, Act.put, List.setIfInBounds_toArray, List.set_cons_zero, List.set_cons_succ]; done) | (simp only [putAll, Act.put, List.setIfInBounds_toArray, List.set_cons_zero, List.set_cons_succ]; rfl)) (hJ0_2_3_7 (v0_, v2_, v3_, .slice (some ⟨(W_).heap.size, 0, none⟩) m m) _ hN.to3)
      · skip
        rintro ⟨v0_, v2_, v3_, v7_⟩ W_ hQ_
        have hSep : Aside0 (Sep w W_ ((Row U8 5 (v2_) l) :: (Row U8 5 (v3_) []) :: (Row BK 4 (v7_) (List.replicate m false)) :: [])) := ⟨hQ_⟩
        clear hQ_
        have hHeld := trivial
        refine norm_ (a' := ?_) ?_ ?_
        rotate_left
        · simp only [putAll, Act.put, List.setIfInBounds_toArray, List.set_cons_zero, List.set_cons_succ]
          rfl
        refine one_ (i := 5) (N := some 24) #[true, true, true, true, true, true, true, true, false, false, false] rfl rfl (by kernel_rfl) (by decide) (fun K hK => ?_)
        refine ((hSep.out).at2).appendStep (by rfl) (.tmp 22) (.tmp 23) 30 (.int .u8 0) 1 rfl Try.underlying30 infoB rfl (by decide) A (64 * m) c (by rfl) (by rfl) (Kd.C_below AR.out ((hSep.out).at2).toBelow) (by simp only [List.length_nil]; rw [AL.out]; omega) ?_
        intro vn_ wn_ hN
        rw [List.nil_append] at hN
        refine hK.out _ _ trivial (fun hHeld => ?_)
        clear hK K
        refine norm_ (a' := ?_) ?_ ?_
        rotate_left
        · show Act.put _ (some 24) _ = _
          simp only [Act.put, List.setIfInBounds_toArray, List.set_cons_zero, List.set_cons_succ, i64_w, i32_w]
          rfl
        exact norm_ (by first | (simp only [putAll, Act.put, List.setIfInBounds_toArray, List.set_cons_zero, List.set_cons_succ]; done) | (simp only [putAll, Act.put, List.setIfInBounds_toArray, List.set_cons_zero, List.set_cons_succ]; rfl)) (hJ0_2_3_5_7 (v0_, v2_, v3_, vn_, v7_) _ hN.at2)
    · skip
      rintro ⟨v0_, v2_, v3_, v5_⟩ W_ hQ_
      have hSep : Aside0 (Sep w W_ ((Row U8 5 (v2_) l) :: (Row U8 5 (v5_) l) :: [])) := ⟨hQ_⟩
      clear hQ_
      have hHeld := trivial
      refine norm_ (a' := ?_) ?_ ?_
      rotate_left
      · simp only [putAll, Act.put, List.setIfInBounds_toArray, List.set_cons_zero, List.set_cons_succ]
        rfl
      refine one_ (i := 7) (N := some 26) #[true, true, true, true, true, true, true, true, false, false, false] rfl rfl (by kernel_rfl) (by decide) (fun K hK => ?_)
      refine value_ (w1 := ?_) (v := ?_) (by rfl) rfl ?_ ?_
      rotate_left 2
      · go_simp
        constructor
        · rfl
        · rfl
      have hN := madeT m (hSep.out) (by omega)
      refine hK.out _ _ trivial (fun hHeld => ?_)
      clear hK K
      refine norm_ (a' := ?_) ?_ ?_
      rotate_left
      · show Act.put _ (some 26) _ = _
        simp only [Act.put, List.setIfInBounds_toArray, List.set_cons_zero, List.set_cons_succ, i64_w, i32_w]
        rfl
      exact norm_ (by first | (simp only [putAll, Act.put, List.setIfInBounds_toArray, List.set_cons_zero, List.set_cons_succ]; done) | (simp only [putAll, Act.put, List.setIfInBounds_toArray, List.set_cons_zero, List.set_cons_succ]; rfl)) (hJ0_2_3_5_7 (v0_, v2_, v3_, v5_, .slice (some ⟨(W_).heap.size, 0, none⟩) m m) _ hN.to3)
  rintro ⟨v0_, v2_, v3_, v5_, v7_⟩ W_ hQ_
  have hSep : Aside0 (Sep w W_ ((Row U8 5 (v2_) l) :: (Row U8 5 (v5_) l) :: (Row BK 4 (v7_) (List.replicate m false)) :: [])) := ⟨hQ_⟩
  clear hQ_
  have hHeld := trivial
  obtain ⟨A2, c2, rfl⟩ := hSep.out.rowN AL.out
  obtain ⟨A5, c5, rfl⟩ := hSep.out.at2.rowN AL.out
  obtain ⟨A7, c7, rfl⟩ := hSep.out.at3.rowN (List.length_replicate ..)
  refine norm_ (a' := ?_) ?_ ?_
  rotate_left
  · simp only [putAll, Act.put, List.setIfInBounds_toArray, List.set_cons_zero, List.set_cons_succ]
    rfl
  refine pure_ (i := 8) (N := some 27) (v := ?_) (a' := ?_) #[true, true, true, true, true, true, true, true, true, false, false] rfl rfl (by kernel_rfl) (fun _ _ _ h => h) (Or.inl ⟨by rfl, ?_⟩) ?_ ?_
  rotate_left
  · intro w'
    go_simp
    with_reducible rfl
  rotate_left
  · simp only [Act.put, List.setIfInBounds_toArray, List.set_cons_zero, List.set_cons_succ, i64_w, i32_w]
    rfl
  refine one_ (i := 9) (N := some 28) #[true, true, true, true, true, true, true, true, true, true, false] rfl rfl (by kernel_rfl) (by decide) (fun K hK => ?_)
  refine value_ (w1 := ?_) (v := ?_) (by rfl) rfl ?_ ?_
  rotate_left 2
  · go_simp
    constructor
    · rfl
    · rfl
  refine hK.out _ _ trivial (fun hHeld => ?_)
  clear hK K
  refine norm_ (a' := ?_) ?_ ?_
  rotate_left
  · show Act.put _ (some 28) _ = _
    simp only [Act.put, List.setIfInBounds_toArray, List.set_cons_zero, List.set_cons_succ, i64_w, i32_w]
    rfl
  refine pure_ (i := 10) (N := some 2) (v := ?_) (a' := ?_) #[true, true, true, true, true, true, true, true, true, true, true] rfl rfl (by kernel_rfl) (fun _ _ _ h => h) (Or.inl ⟨by rfl, ?_⟩) ?_ ?_
  rotate_left
  · intro w'
    go_simp
    with_reducible rfl
  rotate_left
  · simp only [Act.put, List.setIfInBounds_toArray, List.set_cons_zero, List.set_cons_succ, i64_w, i32_w]
    rfl
  refine done_ (by kernel_rfl) ?_
  go_wp2_with fail
  go_ret
  have h6 := hSep.out.newBlk 144 #[.slice A2 (64 * m) c2, .slice A5 (64 * m) c5, .slice A7 m c7, .int .i64 (-1), .int .i64 0]
  exact ⟨_, rfl, shut_ h1 h2 AL.out AL.out (List.length_replicate ..) h6⟩
end Go.Proofs.Ytjngnigelkgekaa.Ref
namespace Go.Proofs.Ytjngnigelkgekaa.Ref
set_option linter.unusedVariables false
set_option linter.unusedSimpArgs false
open Go.RowKit Go.Proofs.YtjngnigelkgekaaW.PrintWords Go.Proofs.YtjngnigelkgekaaW.PrintLast Go.Proofs.YtjngnigelkgekaaW.PrintMore Go.Proofs.Ytjngnigelkgekaa.Kit Go.Proofs.Ytjngnigelkgekaa.Disk
/-- A cut 'x[j:]' of a row of one's own. -/
theorem cutF_ {g N c j : Nat} {J : Int} (hJ : J = (j : Int)) (hj : j < N) (hc : N ≤ c) : ∀ W : World, (Instr.slice 30 (.slice (some ⟨g, 0, none⟩) N c) (some (.int .i64 J)) none none).run Try.prog W = .ok (.slice (some ⟨g, j, none⟩) (N - j) (c - j)) W := by
  obtain ⟨i, hi, hz⟩ := Option.map_eq_some_iff.1 infoB
  simp only [Prod.mk.injEq] at hz
  have := cut_from (P := Try.prog) 30 5 .i64 Try.underlying30 hi 1 hz.2.1 (some ⟨g, 0, none⟩) N c J (by omega) (by omega)
  subst hJ
  rw [Int.toNat_natCast, if_neg (by omega)] at this
  intro W
  rw [this W]
  simp [Addr.add]
  try exact fun h => h.symm
theorem cutM_ {g N c j k : Nat} {J K : Int} (hJ : J = (j : Int)) (hK : K = (k : Int)) (hjk : j ≤ k) (hj : j < c) (hk : k ≤ N) (hc : N ≤ c) : ∀ W : World, (Instr.slice 30 (.slice (some ⟨g, 0, none⟩) N c) (some (.int .i64 J)) (some (.int .i64 K)) none).run Try.prog W = .ok (.slice (some ⟨g, j, none⟩) (k - j) (c - j)) W := by
  obtain ⟨i, hi, hz⟩ := Option.map_eq_some_iff.1 infoB
  simp only [Prod.mk.injEq] at hz
  have := cut_mid (P := Try.prog) 30 5 .i64 .i64 Try.underlying30 hi 1 hz.2.1 (some ⟨g, 0, none⟩) N c J K (by omega) (by omega) (by omega) hc
  subst hJ hK
  rw [Int.toNat_natCast, Int.toNat_natCast, if_neg (by omega)] at this
  intro W
  rw [this W]
  simp [Addr.add]
  try exact fun h => h.symm
section
variable {w0 W : World} {g n : Nat} {las now : List Int} {wait : List Bool} {left done : Int} {F : List HP}
set_option maxHeartbeats 400000 in
theorem write_out (h : Sep w0 W (RD g n las now wait left done :: F)) (i : Int) {A : Option Addr} {m c : Nat} (hm : m ≤ 9223372036854775807) (hi : ¬ (0 ≤ i ∧ i < (n : Int)) ∨ m ≠ 64) :
    Calls Try.prog 87 #[.pointer (some ⟨g, 0, none⟩), .int .i64 i, .slice A m c] W fun e w' => e = .returned (.bool false) ∧ W = w' := by
  have AS := Aside0.mk h
  have hm' : (m : Int) ≤ 9223372036854775807 := by omega
  clear h hm
  by_cases h1 : i < 0
  · clear hi
    go_enter Try.func87, Try.ntmps87
    go_wp2
    go_ret
    exact ⟨by first | rfl | (simp; done), rfl⟩
  · by_cases h2 : (n : Int) ≤ i
    · clear hi
      go_enter Try.func87, Try.ntmps87
      go_wp2_with fail
      refine (len_ AS.out).mono ?_
      rintro e w' ⟨rfl, rfl⟩
      go_wp2
      go_ret
      exact ⟨by first | rfl | (simp; done), rfl⟩
    · have h3 : ((m : Int) != 64) = true := by simp; omega
      have h4 : ¬ (m : Int) = 64 := by omega
      clear hi
      go_enter Try.func87, Try.ntmps87
      go_wp2_with fail
      refine (len_ AS.out).mono ?_
      rintro e w' ⟨rfl, rfl⟩
      go_wp2
      go_ret
      exact ⟨by first | rfl | (simp; done), rfl⟩
set_option maxHeartbeats 800000 in
theorem write_no (h : Sep w0 W (RD g n las now wait 0 done :: F)) (i : Nat) (hi : i < n) {A : Option Addr} {c : Nat} :
    Calls Try.prog 87 #[.pointer (some ⟨g, 0, none⟩), .int .i64 (i : Int), .slice A 64 c] W fun e w' => e = .returned (.bool true) ∧ W = w' := by
  have AS := Aside0.mk h
  have h1 : ¬ (i : Int) < 0 := by omega
  have h2 : ¬ (n : Int) ≤ (i : Int) := by omega
  clear h
  go_enter Try.func87, Try.ntmps87
  go_wp2_with fail
  refine (len_ AS.out).mono ?_
  rintro e w' ⟨rfl, rfl⟩
  go_wp2_with fail
  refine (deed_no AS.out).mono ?_
  rintro e w' ⟨rfl, rfl⟩
  go_wp2
  go_ret
  exact ⟨by first | rfl | (simp; done), rfl⟩
set_option maxHeartbeats 1600000 in
set_option maxRecDepth 100000 in
theorem write_in (h : Sep w0 W (RD g n las now wait left done :: F)) (h0 : left ≠ 0) (hl1 : -9223372036854775808 ≤ left ∧ left ≤ 9223372036854775807) (hd1 : 0 ≤ done ∧ done < 9223372036854775807) (i : Nat) (hi : i < n) {A : Option Addr} {c : Nat} {b : List Int} (hb : ∀ W', Sep w0 W' F → U8.C W' A 64 b) :
    Calls Try.prog 87 #[.pointer (some ⟨g, 0, none⟩), .int .i64 (i : Int), .slice A 64 c] W fun e w' => e = .returned (.bool true) ∧ Sep w0 w' (RD g n las (over now (64 * i) b) (wait.set i true) (leftF left) (done + 1) :: F) := by
  have AS := Aside0.mk h
  have HB := Aside0.mk hb
  have hbl : b.length = 64 := (hb W h.tail).1
  have HBL := Aside0.mk hbl
  have h1 : ¬ (i : Int) < 0 := by omega
  have h2 : ¬ (n : Int) ≤ (i : Int) := by omega
  clear h hb hbl
  go_enter Try.func87, Try.ntmps87
  go_wp2_with fail
  refine (len_ AS.out).mono ?_
  rintro e w' ⟨rfl, rfl⟩
  go_wp2_with fail
  refine (deed_yes AS.out h0 hl1 hd1).mono ?_
  rintro e w1 ⟨rfl, hS1⟩
  obtain ⟨gl, cl, gn, cn, gw, cw, ⟨n1, n2, n3, n4, n5, n6, n7, n8⟩, hs⟩ := open_ hS1
  have c1 : w1.cell? ⟨g, 1, none⟩ = some (.slice (some ⟨gn, 0, none⟩) (64 * n) cn) := by rw [hs.cell 1]; rfl
  have hcut := cutF_ (g := gn) (N := 64 * n) (c := cn) (j := 64 * i) (J := (i : Int) * 64) (by omega) (by omega) n7
  have AN := Aside0.mk (And.intro n3 (And.intro n4 n5))
  have A1 := Aside0.mk hs.at3
  have HC := Aside0.mk (HB.out w1 hs.tail.tail.tail.tail)
  clear hS1 hs AS n3 n4 n5 h0 hl1 hd1
  go_wp2_with (first | (refine gate_builtin (b := .copy) (xs := #[.tmp 28, .tmp 29]) rfl ?_; go_loud (refine A1.out.copyRow rfl (.tmp 28) (.tmp 29) rfl Try.underlying30 size1 (o := 64 * i) (n' := 64 * n - 64 * i) (c' := cn - 64 * i) (m := 64) (c := c) (A := A) (ys := b) rfl rfl HC.out (by omega) ?_; intro W2 hS2; have htk : b.take (64 * n - 64 * i) = b := List.take_of_length_le (by have := HBL.out; omega); rw [htk] at hS2; have hs2 := hS2.at2; have c2 : W2.cell? ⟨g, 2, none⟩ = some (.slice (some ⟨gw, 0, none⟩) n cw) := (hs2.cell 2).trans rfl; obtain ⟨f1, f2⟩ := hS2.at4.rowCell false i hi; have AS2 := Aside0.mk hS2; clear hS2 hs2 htk c1 hcut)))
  go_ret
  obtain ⟨n3, n4, n5⟩ := AN.out
  refine ⟨by first | rfl | (simp; done), ?_⟩
  exact shut_ n1 n2 n3 (by rw [over_len (by rw [HBL.out, n4]; omega), n4]) (by rw [List.length_set, n5]) ((AS2.out.at4.putRow i true).to4).to3
end
end Go.Proofs.Ytjngnigelkgekaa.Ref
namespace Go.Proofs.Ytjngnigelkgekaa.Ref
set_option linter.unusedVariables false
set_option linter.unusedSimpArgs false
open Go.RowKit Go.Proofs.YtjngnigelkgekaaW.PrintWords Go.Proofs.YtjngnigelkgekaaW.PrintLast Go.Proofs.YtjngnigelkgekaaW.PrintMore Go.Proofs.Ytjngnigelkgekaa.Kit Go.Proofs.Ytjngnigelkgekaa.Disk
section
variable {w0 W : World} {g n : Nat} {las now : List Int} {wait : List Bool} {left done : Int} {F : List HP}
set_option maxHeartbeats 800000 in
set_option maxRecDepth 100000 in
theorem read_in (h : Sep w0 W (RD g n las now wait left done :: F)) (i : Nat) (hi : i < n) :
    Calls Try.prog 99 #[.pointer (some ⟨g, 0, none⟩), .int .i64 (i : Int)] W fun e w' => ∃ v, e = .returned (.tuple #[v, .bool true]) ∧ Sep w0 w' (Row U8 5 v (sec now i) :: RD g n las now wait left done :: F) := by
  obtain ⟨gl, cl, gn, cn, gw, cw, ⟨n1, n2, n3, n4, n5, n6, n7, n8⟩, hs⟩ := open_ h
  have c1 : (W.alloc (.cells #[] 5)).cell? ⟨g, 1, none⟩ = some (.slice (some ⟨gn, 0, none⟩) (64 * n) cn) := ((hs.alloc _).cell 1).trans rfl
  have hcut := cutM_ (g := gn) (N := 64 * n) (c := cn) (j := 64 * i) (k := 64 * i + 64) (J := (i : Int) * 64) (K := ((i : Int) + 1) * 64) (by omega) (by omega) (by omega) (by omega) (by omega) n7
  have hr := hs.tail.tail.rowC.2.2
  have AP := Aside0.mk (C_piece hr (64 * i) 64 (by omega))
  have AL := Aside0.mk (h.litRow (enc := Value.int .u8) (h1 := fun _ => rfl) (e := 5) [] (by decide))
  have AS := Aside0.mk h
  have h1 : ¬ (i : Int) < 0 := by omega
  have h2 : ¬ (n : Int) ≤ (i : Int) := by omega
  have h64 : 64 * i + 64 - 64 * i = 64 := by omega
  clear h hs hr n3 n4 n5 n6 n7 n8
  go_enter Try.func99, Try.ntmps99
  go_wp2_with fail
  refine (len_ AS.out).mono ?_
  rintro e w' ⟨rfl, rfl⟩
  go_wp2_with (first | (refine gate_builtin (b := .append) (xs := #[.tmp 14, .tmp 24]) rfl ?_; go_loud (refine AL.out.appendRow rfl (.tmp 14) (.tmp 24) 30 (.int .u8 0) 1 rfl Try.underlying30 infoB rfl (by decide) (some ⟨gn, 64 * i, none⟩) 64 (cn - 64 * i) rfl rfl (Kd.C_alloc AP.out _) (by simp; omega) ?_; intro v1 w1 hS1; rw [List.nil_append] at hS1; have A1 := Aside0.mk hS1; clear hS1)))
  go_ret2
  exact ⟨_, by first | rfl | (simp; done), A1.out⟩
/-- The sectors below j that wait. -/
def waitsI (wait : List Bool) (j : Nat) : List Int := ((List.range j).filter (fun i => wait.getD i false)).map (fun k : Nat => (k : Int))
theorem waitsI_succ (wait : List Bool) (j : Nat) : waitsI wait (j + 1) = waitsI wait j ++ if wait.getD j false then [(j : Int)] else [] := by
  unfold waitsI
  rw [List.range_succ, List.filter_append, List.map_append]
  congr 1
  have hp : ∀ p : Nat → Bool, ([j].filter p).map (fun k : Nat => (k : Int)) = if p j then [(j : Int)] else [] := fun p => by
    by_cases h : p j = true <;> simp [h]
  exact hp (fun i => wait.getD i false)
theorem waitsI_len (wait : List Bool) (j : Nat) : (waitsI wait j).length ≤ j := by
  unfold waitsI
  rw [List.length_map]
  have := List.length_filter_le (fun i => wait.getD i false) (List.range j)
  rwa [List.length_range] at this
set_option maxHeartbeats 1600000 in
set_option maxRecDepth 100000 in
theorem waits_ (h : Sep w0 W (RD g n las now wait left done :: F)) :
    Calls Try.prog 128 #[.pointer (some ⟨g, 0, none⟩)] W fun e w' => ∃ v, e = .returned v ∧ Sep w0 w' (Row I64 3 v (waitsI wait n) :: RD g n las now wait left done :: F) := by
  obtain ⟨gl, cl, gn, cn, gw, cw, ⟨n1, n2, n3, n4, n5, n6, n7, n8⟩, hs⟩ := open_ h
  have c2 : W.cell? ⟨g, 2, none⟩ = some (.slice (some ⟨gw, 0, none⟩) n cw) := (hs.cell 2).trans rfl
  have AN : Aside0 (Sep w0 W (Row I64 3 (.slice none 0 0) [] :: Blk g 144 _ :: _)) := ⟨hs.nilRow I64 3⟩
  have A3 := Aside0.mk (And.intro n3 (And.intro n4 n5))
  clear h hs n3 n4 n5
  go_enter Try.func128, Try.ntmps128
  go_wp2_with fail
  go_loopg [3, 10] n (fun k v p wr => ∃ i : Nat, p = .int .i64 (i : Int) ∧ i + k = n ∧ Sep w0 wr (Row I64 3 v (waitsI wait i) :: Blk g 144 #[.slice (some ⟨gl, 0, none⟩) (64 * n) cl, .slice (some ⟨gn, 0, none⟩) (64 * n) cn, .slice (some ⟨gw, 0, none⟩) n cw, .int .i64 left, .int .i64 done] ::
      Row U8 5 (.slice (some ⟨gl, 0, none⟩) (64 * n) cl) las :: Row U8 5 (.slice (some ⟨gn, 0, none⟩) (64 * n) cn) now :: Row BK 4 (.slice (some ⟨gw, 0, none⟩) n cw) wait :: F))
  case atStart => exact ⟨0, rfl, by omega, AN.out⟩
  case round =>
    obtain ⟨i, rfl, hik, hS⟩ := hrel
    have AR := Aside0.mk hS
    have AK := Aside0.mk hik
    by_cases hi : i < n
    · have d2 : wr.cell? ⟨g, 2, none⟩ = some (.slice (some ⟨gw, 0, none⟩) n cw) := (hS.at2.cell 2).trans rfl
      obtain ⟨f1, f2⟩ := hS.at5.rowCell false i hi
      have hks := waitsI_succ wait i
      have hkl := waitsI_len wait i
      clear hS hik c2 f2
      cases hb : wait.getD i false with
      | false =>
        rw [hb] at f1
        rw [hb, if_neg (by decide), List.append_nil] at hks
        have AKS := Aside0.mk hks
        clear hks hb
        go_wp2_with fail
        go_roundg (gk - 1)
        case measure => have := AK.out; omega
        case rel => exact ⟨i + 1, by go_num, by have := AK.out; omega, by rw [AKS.out]; exact AR.out⟩
      | true =>
        rw [hb] at f1
        rw [hb, if_pos rfl] at hks
        have AKS := Aside0.mk hks
        have AKL := Aside0.mk hkl
        have AR2 := Aside0.mk (AR.out.litRow (enc := Value.int .i64) (h1 := fun _ => rfl) (e := 3) [(i : Int)] (by simp)).at2
        clear hks hb hkl
        go_wp2_with (first | (refine gate_builtin (b := .append) (xs := #[.tmp 20, .tmp 22]) rfl ?_; go_loud (refine AR2.out.appendRow rfl (.tmp 20) (.tmp 22) 38 (.int .i64 0) 8 rfl Try.underlying38 (by kernel_rfl) rfl (by omega) (some ⟨wr.heap.size, 0, none⟩) 1 1 rfl rfl AR2.out.at2.rowC.2.2 (by have := AKL.out; simp; omega) ?_; intro v1 w2 hS2; have AS2 := Aside0.mk hS2; clear hS2)))
        go_roundg (gk - 1)
        case measure => have := AK.out; omega
        case rel => exact ⟨i + 1, by go_num, by have := AK.out; omega, by rw [AKS.out]; exact AS2.out.drop2⟩
    · have hin : i = n := by omega
      subst hin
      clear hS hik c2
      go_wp2_with fail
      go_ret
      obtain ⟨n3, n4, n5⟩ := A3.out
      exact ⟨_, rfl, (shut_ n1 n2 n3 n4 n5 ((AR.out).to5)).at2⟩
end
end Go.Proofs.Ytjngnigelkgekaa.Ref
namespace Go.Proofs.Ytjngnigelkgekaa.Ref
set_option linter.unusedVariables false
set_option linter.unusedSimpArgs false
open Go.RowKit Go.Proofs.YtjngnigelkgekaaW.PrintWords Go.Proofs.YtjngnigelkgekaaW.PrintLast Go.Proofs.YtjngnigelkgekaaW.PrintMore Go.Proofs.Ytjngnigelkgekaa.Kit Go.Proofs.Ytjngnigelkgekaa.Disk
def waitL (n : Nat) (wt : Wt) : List Bool := (List.range n).map (fun i => (wt i).isSome)
theorem waitL_getD {n i : Nat} (wt : Wt) (hi : i < n) : (waitL n wt).getD i false = (wt i).isSome := by
  unfold waitL
  rw [List.getD_eq_getElem?_getD, List.getElem?_map, List.getElem?_range hi]
  rfl
theorem waitL_none (n : Nat) : waitL n (fun _ => none) = List.replicate n false := by
  apply List.ext_getElem?
  intro i
  unfold waitL
  by_cases hi : i < n
  · rw [List.getElem?_map, List.getElem?_range hi, List.getElem?_replicate, if_pos hi]; rfl
  · rw [List.getElem?_eq_none (by simp; omega), List.getElem?_eq_none (by simp; omega)]
theorem waitL_set {n : Nat} (wt : Wt) (i : Nat) (b : List Int) : (waitL n wt).set i true = waitL n (fun j => if j = i then some b else wt j) := by
  apply List.ext_getElem?
  intro j
  unfold waitL
  rw [List.getElem?_set, List.getElem?_map, List.getElem?_map, List.length_map, List.length_range]
  by_cases hj : j < n
  · rw [List.getElem?_range hj]
    by_cases hij : i = j
    · subst hij; rw [if_pos rfl, if_pos hj]; simp
    · rw [if_neg hij]; simp [show ¬ j = i from fun h => hij h.symm]
  · rw [List.getElem?_eq_none (by simp; omega)]
    by_cases hij : i = j
    · subst hij; rw [if_pos rfl, if_neg hj]; rfl
    · rw [if_neg hij]; rfl
theorem waits_keys (n : Nat) (wt : Wt) : waitsI (waitL n wt) n = (keysOf n wt).map (fun k : Nat => (k : Int)) := by
  unfold waitsI keysOf
  congr 1
  refine List.filter_congr fun i hi => ?_
  exact waitL_getD wt (List.mem_range.1 hi)
theorem flushed_write {las : List Int} {wt : Wt} {n i : Nat} {b : List Int} (hl : las.length = 64 * n) (hw : ∀ i b, wt i = some b → b.length = 64) (hi : i < n) (hb : b.length = 64) :
    over (flushed las wt) (64 * i) b = flushed las (fun j => if j = i then some b else wt j) := by
  unfold flushed
  rw [show las.length / 64 = n by omega]
  have hs : ∀ k, k < n → ((wt k).getD (sec las k)).length = 64 := fun k hk => by
    cases h : wt k with
    | none => exact sec_len (by omega)
    | some c => exact hw k c h
  rw [over_secs hs hi (by omega)]
  refine secs_congr fun k hk => ?_
  by_cases hki : k = i
  · simp only [if_pos hki, Option.getD_some]
    rw [List.drop_eq_nil_of_le (by rw [hs k hk, hb]; exact Nat.le_refl _), List.append_nil]
  · simp only [if_neg hki]
theorem sec_flushed {las : List Int} {wt : Wt} {n i : Nat} (hl : las.length = 64 * n) (hw : ∀ i b, wt i = some b → b.length = 64) (hi : i < n) : sec (flushed las wt) i = (wt i).getD (sec las i) := by
  unfold flushed
  rw [show las.length / 64 = n by omega]
  refine sec_secs (fun k hk => ?_) hi
  cases h : wt k with
  | none => exact sec_len (by omega)
  | some c => exact hw k c h
theorem flushed_len {las : List Int} {wt : Wt} {n : Nat} (h : las.length = 64 * n) (hw : ∀ i b, wt i = some b → b.length = 64) : (flushed las wt).length = 64 * n := by
  unfold flushed
  rw [show las.length / 64 = n by omega]
  refine secs_len fun i hi => ?_
  cases hb : wt i with
  | none => exact sec_len (by omega)
  | some b => exact hw i b hb
section
variable {w0 W : World} {g n : Nat} {las now : List Int} {wait : List Bool} {left done : Int} {F : List HP} {wt : Wt}
end
end Go.Proofs.Ytjngnigelkgekaa.Ref
