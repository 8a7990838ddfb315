/- The document's disk: a disk of an image. -/
import Derived.Test.YtjngnigelkgekaaRef1
namespace Go.Proofs.Ytjngnigelkgekaa.Ref
set_option linter.unusedVariables false
set_option linter.unusedSimpArgs false
open Go.RowKit Go.Proofs.YtjngnigelkgekaaW.PrintWords Go.Proofs.YtjngnigelkgekaaW.PrintLast Go.Proofs.YtjngnigelkgekaaW.PrintMore Go.Proofs.Ytjngnigelkgekaa.Kit Go.Proofs.Ytjngnigelkgekaa.Disk
theorem madeT {w0 W : World} {F : List HP} (m : Nat) (h : Sep w0 W F) (hm : m ≤ 100000) : Sep w0 (W.alloc (.cells (madeCells #[.bool false] m) 4)) (Row BK 4 (.slice (some ⟨W.heap.size, 0, none⟩) m m) (List.replicate m false) :: F) :=
  h.madeRow (h1 := fun _ => rfl) (e := 4) (enc := Value.bool) false m (by omega)
theorem makeT {m : Nat} (hm : m ≤ 100000) : ∀ W : World, (Instr.makeSlice 142 (.int .i64 (m : Int)) (.int .i64 (m : Int))).run Try.prog W = .ok (.slice (some ⟨W.heap.size, 0, none⟩) m m) (W.alloc (.cells (madeCells #[.bool false] m) 4)) := by
  exact print_make_of (P := Try.prog) 142 4 (.bool false) 1 Try.underlying142 infoT rfl (by decide) m (by omega)
set_option maxHeartbeats 1600000 in
set_option maxRecDepth 100000 in
theorem of_ok {A : Option Addr} {k m c : Nat} {l : List Int} {w : World} (hr : U8.C w A k l) (hk : k = 64 * m) (h1 : 1 ≤ m) (h2 : m ≤ 160) :
    Calls Try.prog 96 #[.slice A k c] w fun e w' => ∃ g, e = .returned (.pointer (some ⟨g, 0, none⟩)) ∧ Sep w w' [RD g m l l (List.replicate m false) (-1) 0] := by
  subst hk
  have hd : (64 * (m : Int)).tdiv 64 = (m : Int) := Int.mul_tdiv_cancel_left _ (by decide)
  have hm : (64 * (m : Int)).tmod 64 = 0 := Int.mul_tmod_right _ _
  have hmk := makeT (m := m) (by omega)
  have AR := Aside0.mk hr
  have hll := hr.1
  have AL := Aside0.mk hll
  clear hr hll
  go_enter Try.func96, Try.ntmps96
  go_wp2_with fail
  refine start_ (n := 11) (S := fun w' => True) (ds := []) #[false, false, false, false, false, false, false, false, false, false, false] (by kernel_rfl) rfl rfl trivial (fun hHeld => ?_)
  refine pure_ (i := 1) (N := some 20) (v := ?_) (a' := ?_) #[false, true, false, false, false, false, false, false, false, false, false] rfl rfl (by kernel_rfl) (fun _ _ _ h => h) (Or.inl ⟨by rfl, ?_⟩) ?_ ?_
  rotate_left
  · intro w'
    go_simp
    with_reducible rfl
  rotate_left
  · simp only [Act.put, List.setIfInBounds_toArray, List.set_cons_zero, List.set_cons_succ, i64_w, i32_w]
    rfl
  refine pure_ (i := 4) (N := some 23) (v := ?_) (a' := ?_) #[false, true, false, false, true, false, false, false, false, false, false] rfl rfl (by kernel_rfl) (fun _ _ _ h => h) (Or.inl ⟨by rfl, ?_⟩) ?_ ?_
  rotate_left
  · intro w'
    go_simp
    with_reducible rfl
  rotate_left
  · simp only [Act.put, List.setIfInBounds_toArray, List.set_cons_zero, List.set_cons_succ, i64_w, i32_w]
    rfl
  refine pure_ (i := 6) (N := some 25) (v := ?_) (a' := ?_) #[false, true, false, false, true, false, true, false, false, false, false] rfl rfl (by kernel_rfl) (fun _ _ _ h => h) (Or.inl ⟨by rfl, ?_⟩) ?_ ?_
  rotate_left
  · intro w'
    go_simp
    with_reducible rfl
  rotate_left
  · simp only [Act.put, List.setIfInBounds_toArray, List.set_cons_zero, List.set_cons_succ, i64_w, i32_w]
    rfl
  refine join_ (σ := Value × Value × Value × Value × Value) 3 #[true, true, true, true, true, true, true, true, false, false, false] (fun s_ => [(19, s_.1), (21, s_.2.1), (22, s_.2.2.1), (24, s_.2.2.2.1), (26, s_.2.2.2.2)]) (fun s_ w' => Sep w w' ((Row U8 5 (s_.2.1) l) :: (Row U8 5 (s_.2.2.2.1) l) :: (Row BK 4 (s_.2.2.2.2) (List.replicate m false)) :: [])) ?_ ?_
  rotate_left
  · intro hJ0_2_3_5_7
    refine join_ (σ := Value × Value × Value × Value) 4 #[true, true, true, true, true, true, true, false, false, false, false] (fun s_ => [(19, s_.1), (21, s_.2.1), (22, s_.2.2.1), (24, s_.2.2.2)]) (fun s_ w' => Sep w w' ((Row U8 5 (s_.2.1) l) :: (Row U8 5 (s_.2.2.2) l) :: [])) ?_ ?_
    rotate_left
    · intro hJ0_2_3_5
      refine join_ (σ := Value × Value × Value × Value) 4 #[true, true, true, true, true, false, true, true, false, false, false] (fun s_ => [(19, s_.1), (21, s_.2.1), (22, s_.2.2.1), (26, s_.2.2.2)]) (fun s_ w' => Sep w w' ((Row U8 5 (s_.2.1) l) :: (Row U8 5 (s_.2.2.1) []) :: (Row BK 4 (s_.2.2.2) (List.replicate m false)) :: [])) ?_ ?_
      rotate_left
      · intro hJ0_2_3_7
        refine join_ (σ := Value × Value × Value) 5 #[true, true, true, true, true, false, true, false, false, false, false] (fun s_ => [(19, s_.1), (21, s_.2.1), (22, s_.2.2)]) (fun s_ w' => Sep w w' ((Row U8 5 (s_.2.1) l) :: (Row U8 5 (s_.2.2) []) :: [])) ?_ ?_
        rotate_left
        · intro hJ0_2_3
          refine join_ (σ := Value × Value × Value) 5 #[true, true, true, false, true, false, true, true, false, false, false] (fun s_ => [(19, s_.1), (21, s_.2.1), (26, s_.2.2)]) (fun s_ w' => Sep w w' ((Row U8 5 (s_.2.1) l) :: (Row BK 4 (s_.2.2) (List.replicate m false)) :: [])) ?_ ?_
          rotate_left
          · intro hJ0_2_7
            refine join_ (σ := Value × Value × Value) 5 #[true, true, false, true, true, false, true, true, false, false, false] (fun s_ => [(19, s_.1), (22, s_.2.1), (26, s_.2.2)]) (fun s_ w' => Sep w w' ((Row U8 5 (s_.1) []) :: (Row U8 5 (s_.2.1) []) :: (Row BK 4 (s_.2.2) (List.replicate m false)) :: [])) ?_ ?_
            rotate_left
            · intro hJ0_3_7
              refine join_ (σ := Value × Value) 6 #[true, true, true, false, true, false, true, false, false, false, false] (fun s_ => [(19, s_.1), (21, s_.2)]) (fun s_ w' => Sep w w' ((Row U8 5 (s_.2) l) :: [])) ?_ ?_
              rotate_left
              · intro hJ0_2
                refine join_ (σ := Value × Value) 6 #[true, true, false, true, true, false, true, false, false, false, false] (fun s_ => [(19, s_.1), (22, s_.2)]) (fun s_ w' => Sep w w' ((Row U8 5 (s_.1) []) :: (Row U8 5 (s_.2) []) :: [])) ?_ ?_
                rotate_left
                · intro hJ0_3
                  refine join_ (σ := Value × Value) 6 #[true, true, false, false, true, false, true, true, false, false, false] (fun s_ => [(19, s_.1), (26, s_.2)]) (fun s_ w' => Sep w w' ((Row U8 5 (s_.1) []) :: (Row BK 4 (s_.2) (List.replicate m false)) :: [])) ?_ ?_
                  rotate_left
                  · intro hJ0_7
                    refine join_ (σ := Value × Value) 6 #[false, true, false, true, true, false, true, true, false, false, false] (fun s_ => [(22, s_.1), (26, s_.2)]) (fun s_ w' => Sep w w' ((Row U8 5 (s_.1) []) :: (Row BK 4 (s_.2) (List.replicate m false)) :: [])) ?_ ?_
                    rotate_left
                    · intro hJ3_7
                      refine join_ (σ := Value) 7 #[true, true, false, false, true, false, true, false, false, false, false] (fun s_ => [(19, s_)]) (fun s_ w' => Sep w w' ((Row U8 5 (s_) []) :: [])) ?_ ?_
                      rotate_left
                      · intro hJ0
                        refine join_ (σ := Value) 7 #[false, true, false, true, true, false, true, false, false, false, false] (fun s_ => [(22, s_)]) (fun s_ w' => Sep w w' ((Row U8 5 (s_) []) :: [])) ?_ ?_
                        rotate_left
                        · intro hJ3
                          refine join_ (σ := Value) 7 #[false, true, false, false, true, false, true, true, false, false, false] (fun s_ => [(26, s_)]) (fun s_ w' => Sep w w' ((Row BK 4 (s_) (List.replicate m false)) :: [])) ?_ ?_
                          rotate_left
                          · intro hJ7
                            refine three_ (i := 0) (j := 3) (k := 7) (Ni := some 19) (Nj := some 22) (Nk := some 26) #[true, true, false, false, true, false, true, false, false, false, false] #[false, true, false, true, true, false, true, false, false, false, false] #[false, true, false, false, true, false, true, true, false, false, false] rfl rfl rfl rfl rfl rfl (by kernel_rfl) (by decide) (by decide) (by decide) (fun K hK => ?_) (fun K hK => ?_) (fun K hK => ?_)
                            · skip
                              refine value_ (w1 := ?_) (v := ?_) (by rfl) rfl ?_ ?_
                              rotate_left 2
                              · go_simp
                                constructor
                                · rfl
                                · rfl
                              have hN := ((Sep.start w).drew).litRow (enc := Value.int .u8) (h1 := fun _ => rfl) (e := 5) [] (by decide)
                              refine hK.out _ _ trivial (fun hHeld => ?_)
                              clear hK K
                              refine norm_ (a' := ?_) ?_ ?_
                              rotate_left
                              · show Act.put _ (some 19) _ = _
                                simp only [Act.put, List.setIfInBounds_toArray, List.set_cons_zero, List.set_cons_succ, i64_w, i32_w]
                                rfl
                              exact norm_ (by first | (simp only [putAll, Act.put, List.setIfInBounds_toArray, List.set_cons_zero, List.set_cons_succ]; done) | (simp only [putAll, Act.put, List.setIfInBounds_toArray, List.set_cons_zero, List.set_cons_succ]; rfl)) (hJ0 (.slice (some ⟨(w.drew).heap.size, 0, none⟩) 0 0) _ hN)
                            · skip
                              refine value_ (w1 := ?_) (v := ?_) (by rfl) rfl ?_ ?_
                              rotate_left 2
                              · go_simp
                                constructor
                                · rfl
                                · rfl
                              have hN := ((Sep.start w).drew).litRow (enc := Value.int .u8) (h1 := fun _ => rfl) (e := 5) [] (by decide)
                              refine hK.out _ _ trivial (fun hHeld => ?_)
                              clear hK K
                              refine norm_ (a' := ?_) ?_ ?_
                              rotate_left
                              · show Act.put _ (some 22) _ = _
                                simp only [Act.put, List.setIfInBounds_toArray, List.set_cons_zero, List.set_cons_succ, i64_w, i32_w]
                                rfl
                              exact norm_ (by first | (simp only [putAll, Act.put, List.setIfInBounds_toArray, List.set_cons_zero, List.set_cons_succ]; done) | (simp only [putAll, Act.put, List.setIfInBounds_toArray, List.set_cons_zero, List.set_cons_succ]; rfl)) (hJ3 (.slice (some ⟨(w.drew).heap.size, 0, none⟩) 0 0) _ hN)
                            · skip
                              refine value_ (w1 := ?_) (v := ?_) (by rfl) rfl ?_ ?_
                              rotate_left 2
                              · go_simp
                                constructor
                                · rfl
                                · rfl
                              have hN := madeT m ((Sep.start w).drew) (by omega)
                              refine hK.out _ _ trivial (fun hHeld => ?_)
                              clear hK K
                              refine norm_ (a' := ?_) ?_ ?_
                              rotate_left
                              · show Act.put _ (some 26) _ = _
                                simp only [Act.put, List.setIfInBounds_toArray, List.set_cons_zero, List.set_cons_succ, i64_w, i32_w]
                                rfl
                              exact norm_ (by first | (simp only [putAll, Act.put, List.setIfInBounds_toArray, List.set_cons_zero, List.set_cons_succ]; done) | (simp only [putAll, Act.put, List.setIfInBounds_toArray, List.set_cons_zero, List.set_cons_succ]; rfl)) (hJ7 (.slice (some ⟨(w.drew).heap.size, 0, none⟩) m m) _ hN)
                          · skip
                            rintro v7_ W_ hQ_
                            have hSep : Aside0 (Sep w W_ ((Row BK 4 (v7_) (List.replicate m false)) :: [])) := ⟨hQ_⟩
                            clear hQ_
                            have hHeld := trivial
                            refine norm_ (a' := ?_) ?_ ?_
                            rotate_left
                            · simp only [putAll, Act.put, List.setIfInBounds_toArray, List.set_cons_zero, List.set_cons_succ]
                              rfl
                            refine two_ (i := 0) (j := 3) (Ni := some 19) (Nj := some 22) #[true, true, false, false, true, false, true, true, false, false, false] #[false, true, false, true, true, false, true, true, false, false, false] rfl rfl rfl rfl (by kernel_rfl) (by decide) (by decide) (fun K hK => ?_) (fun K hK => ?_)
                            · skip
                              refine value_ (w1 := ?_) (v := ?_) (by rfl) rfl ?_ ?_
                              rotate_left 2
                              · go_simp
                                constructor
                                · rfl
                                · rfl
                              have hN := (hSep.out).litRow (enc := Value.int .u8) (h1 := fun _ => rfl) (e := 5) [] (by decide)
                              refine hK.out _ _ trivial (fun hHeld => ?_)
                              clear hK K
                              refine norm_ (a' := ?_) ?_ ?_
                              rotate_left
                              · show Act.put _ (some 19) _ = _
                                simp only [Act.put, List.setIfInBounds_toArray, List.set_cons_zero, List.set_cons_succ, i64_w, i32_w]
                                rfl
                              exact norm_ (by first | (simp only [putAll, Act.put, List.setIfInBounds_toArray, List.set_cons_zero, List.set_cons_succ]; done) | (simp only [putAll, Act.put, List.setIfInBounds_toArray, List.set_cons_zero, List.set_cons_succ]; rfl)) (hJ0_7 (.slice (some ⟨(W_).heap.size, 0, none⟩) 0 0, v7_) _ hN)
                            · skip
                              refine value_ (w1 := ?_) (v := ?_) (by rfl) rfl ?_ ?_
                              rotate_left 2
                              · go_simp
                                constructor
                                · rfl
                                · rfl
                              have hN := (hSep.out).litRow (enc := Value.int .u8) (h1 := fun _ => rfl) (e := 5) [] (by decide)
                              refine hK.out _ _ trivial (fun hHeld => ?_)
                              clear hK K
                              refine norm_ (a' := ?_) ?_ ?_
                              rotate_left
                              · show Act.put _ (some 22) _ = _
                                simp only [Act.put, List.setIfInBounds_toArray, List.set_cons_zero, List.set_cons_succ, i64_w, i32_w]
                                rfl
                              exact norm_ (by first | (simp only [putAll, Act.put, List.setIfInBounds_toArray, List.set_cons_zero, List.set_cons_succ]; done) | (simp only [putAll, Act.put, List.setIfInBounds_toArray, List.set_cons_zero, List.set_cons_succ]; rfl)) (hJ3_7 (.slice (some ⟨(W_).heap.size, 0, none⟩) 0 0, v7_) _ hN)
                        · skip
                          rintro v3_ W_ hQ_
                          have hSep : Aside0 (Sep w W_ ((Row U8 5 (v3_) []) :: [])) := ⟨hQ_⟩
                          clear hQ_
                          have hHeld := trivial
                          refine norm_ (a' := ?_) ?_ ?_
                          rotate_left
                          · simp only [putAll, Act.put, List.setIfInBounds_toArray, List.set_cons_zero, List.set_cons_succ]
                            rfl
                          refine two_ (i := 0) (j := 7) (Ni := some 19) (Nj := some 26) #[true, true, false, true, true, false, true, false, false, false, false] #[false, true, false, true, true, false, true, true, false, false, false] rfl rfl rfl rfl (by kernel_rfl) (by decide) (by decide) (fun K hK => ?_) (fun K hK => ?_)
                          · skip
                            refine value_ (w1 := ?_) (v := ?_) (by rfl) rfl ?_ ?_
                            rotate_left 2
                            · go_simp
                              constructor
                              · rfl
                              · rfl
                            have hN := (hSep.out).litRow (enc := Value.int .u8) (h1 := fun _ => rfl) (e := 5) [] (by decide)
                            refine hK.out _ _ trivial (fun hHeld => ?_)
                            clear hK K
                            refine norm_ (a' := ?_) ?_ ?_
                            rotate_left
                            · show Act.put _ (some 19) _ = _
                              simp only [Act.put, List.setIfInBounds_toArray, List.set_cons_zero, List.set_cons_succ, i64_w, i32_w]
                              rfl
                            exact norm_ (by first | (simp only [putAll, Act.put, List.setIfInBounds_toArray, List.set_cons_zero, List.set_cons_succ]; done) | (simp only [putAll, Act.put, List.setIfInBounds_toArray, List.set_cons_zero, List.set_cons_succ]; rfl)) (hJ0_3 (.slice (some ⟨(W_).heap.size, 0, none⟩) 0 0, v3_) _ hN)
                          · skip
                            refine value_ (w1 := ?_) (v := ?_) (by rfl) rfl ?_ ?_
                            rotate_left 2
                            · go_simp
                              constructor
                              · rfl
                              · rfl
                            have hN := madeT m (hSep.out) (by omega)
                            refine hK.out _ _ trivial (fun hHeld => ?_)
                            clear hK K
                            refine norm_ (a' := ?_) ?_ ?_
                            rotate_left
                            · show Act.put _ (some 26) _ = _
                              simp only [Act.put, List.setIfInBounds_toArray, List.set_cons_zero, List.set_cons_succ, i64_w, i32_w]
                              rfl
                            exact norm_ (by first | (simp only [putAll, Act.put, List.setIfInBounds_toArray, List.set_cons_zero, List.set_cons_succ]; done) | (simp only [putAll, Act.put, List.setIfInBounds_toArray, List.set_cons_zero, List.set_cons_succ]; rfl)) (hJ3_7 (v3_, .slice (some ⟨(W_).heap.size, 0, none⟩) m m) _ hN.at2)
                      · skip
                        rintro v0_ W_ hQ_
                        have hSep : Aside0 (Sep w W_ ((Row U8 5 (v0_) []) :: [])) := ⟨hQ_⟩
                        clear hQ_
                        have hHeld := trivial
                        refine norm_ (a' := ?_) ?_ ?_
                        rotate_left
                        · simp only [putAll, Act.put, List.setIfInBounds_toArray, List.set_cons_zero, List.set_cons_succ]
                          rfl
                        refine three_ (i := 2) (j := 3) (k := 7) (Ni := some 21) (Nj := some 22) (Nk := some 26) #[true, true, true, false, true, false, true, false, false, false, false] #[true, true, false, true, true, false, true, false, false, false, false] #[true, true, false, false, true, false, true, true, false, false, false] rfl rfl rfl rfl rfl rfl (by kernel_rfl) (by decide) (by decide) (by decide) (fun K hK => ?_) (fun K hK => ?_) (fun K hK => ?_)
                        · skip
                          refine ((hSep.out)).appendStep (by rfl) (.tmp 19) (.tmp 20) 30 (.int .u8 0) 1 rfl Try.underlying30 infoB rfl (by decide) A (64 * m) c (by rfl) (by rfl) (Kd.C_below AR.out ((hSep.out)).toBelow) (by simp only [List.length_nil]; rw [AL.out]; omega) ?_
                          intro vn_ wn_ hN
                          rw [List.nil_append] at hN
                          refine hK.out _ _ trivial (fun hHeld => ?_)
                          clear hK K
                          refine norm_ (a' := ?_) ?_ ?_
                          rotate_left
                          · show Act.put _ (some 21) _ = _
                            simp only [Act.put, List.setIfInBounds_toArray, List.set_cons_zero, List.set_cons_succ, i64_w, i32_w]
                            rfl
                          exact norm_ (by first | (simp only [putAll, Act.put, List.setIfInBounds_toArray, List.set_cons_zero, List.set_cons_succ]; done) | (simp only [putAll, Act.put, List.setIfInBounds_toArray, List.set_cons_zero, List.set_cons_succ]; rfl)) (hJ0_2 (v0_, vn_) _ hN)
                        · skip
                          refine value_ (w1 := ?_) (v := ?_) (by rfl) rfl ?_ ?_
                          rotate_left 2
                          · go_simp
                            constructor
                            · rfl
                            · rfl
                          have hN := (hSep.out).litRow (enc := Value.int .u8) (h1 := fun _ => rfl) (e := 5) [] (by decide)
                          refine hK.out _ _ trivial (fun hHeld => ?_)
                          clear hK K
                          refine norm_ (a' := ?_) ?_ ?_
                          rotate_left
                          · show Act.put _ (some 22) _ = _
                            simp only [Act.put, List.setIfInBounds_toArray, List.set_cons_zero, List.set_cons_succ, i64_w, i32_w]
                            rfl
                          exact norm_ (by first | (simp only [putAll, Act.put, List.setIfInBounds_toArray, List.set_cons_zero, List.set_cons_succ]; done) | (simp only [putAll, Act.put, List.setIfInBounds_toArray, List.set_cons_zero, List.set_cons_succ]; rfl)) (hJ0_3 (v0_, .slice (some ⟨(W_).heap.size, 0, none⟩) 0 0) _ hN.at2)
                        · skip
                          refine value_ (w1 := ?_) (v := ?_) (by rfl) rfl ?_ ?_
                          rotate_left 2
                          · go_simp
                            constructor
                            · rfl
                            · rfl
                          have hN := madeT m (hSep.out) (by omega)
                          refine hK.out _ _ trivial (fun hHeld => ?_)
                          clear hK K
                          refine norm_ (a' := ?_) ?_ ?_
                          rotate_left
                          · show Act.put _ (some 26) _ = _
                            simp only [Act.put, List.setIfInBounds_toArray, List.set_cons_zero, List.set_cons_succ, i64_w, i32_w]
                            rfl
                          exact norm_ (by first | (simp only [putAll, Act.put, List.setIfInBounds_toArray, List.set_cons_zero, List.set_cons_succ]; done) | (simp only [putAll, Act.put, List.setIfInBounds_toArray, List.set_cons_zero, List.set_cons_succ]; rfl)) (hJ0_7 (v0_, .slice (some ⟨(W_).heap.size, 0, none⟩) m m) _ hN.at2)
                    · skip
                      rintro ⟨v3_, v7_⟩ W_ hQ_
                      have hSep : Aside0 (Sep w W_ ((Row U8 5 (v3_) []) :: (Row BK 4 (v7_) (List.replicate m false)) :: [])) := ⟨hQ_⟩
                      clear hQ_
                      have hHeld := trivial
                      refine norm_ (a' := ?_) ?_ ?_
                      rotate_left
                      · simp only [putAll, Act.put, List.setIfInBounds_toArray, List.set_cons_zero, List.set_cons_succ]
                        rfl
                      refine one_ (i := 0) (N := some 19) #[true, true, false, true, true, false, true, true, false, false, false] rfl rfl (by kernel_rfl) (by decide) (fun K hK => ?_)
                      refine value_ (w1 := ?_) (v := ?_) (by rfl) rfl ?_ ?_
                      rotate_left 2
                      · go_simp
                        constructor
                        · rfl
                        · rfl
                      have hN := (hSep.out).litRow (enc := Value.int .u8) (h1 := fun _ => rfl) (e := 5) [] (by decide)
                      refine hK.out _ _ trivial (fun hHeld => ?_)
                      clear hK K
                      refine norm_ (a' := ?_) ?_ ?_
                      rotate_left
                      · show Act.put _ (some 19) _ = _
                        simp only [Act.put, List.setIfInBounds_toArray, List.set_cons_zero, List.set_cons_succ, i64_w, i32_w]
                        rfl
                      exact norm_ (by first | (simp only [putAll, Act.put, List.setIfInBounds_toArray, List.set_cons_zero, List.set_cons_succ]; done) | (simp only [putAll, Act.put, List.setIfInBounds_toArray, List.set_cons_zero, List.set_cons_succ]; rfl)) (hJ0_3_7 (.slice (some ⟨(W_).heap.size, 0, none⟩) 0 0, v3_, v7_) _ hN)
                  · skip
                    rintro ⟨v0_, v7_⟩ W_ hQ_
                    have hSep : Aside0 (Sep w W_ ((Row U8 5 (v0_) []) :: (Row BK 4 (v7_) (List.replicate m false)) :: [])) := ⟨hQ_⟩
                    clear hQ_
                    have hHeld := trivial
                    refine norm_ (a' := ?_) ?_ ?_
                    rotate_left
                    · simp only [putAll, Act.put, List.setIfInBounds_toArray, List.set_cons_zero, List.set_cons_succ]
                      rfl
                    refine two_ (i := 2) (j := 3) (Ni := some 21) (Nj := some 22) #[true, true, true, false, true, false, true, true, false, false, false] #[true, true, false, true, true, false, true, true, false, false, false] rfl rfl rfl rfl (by kernel_rfl) (by decide) (by decide) (fun K hK => ?_) (fun K hK => ?_)
                    · skip
                      refine ((hSep.out)).appendStep (by rfl) (.tmp 19) (.tmp 20) 30 (.int .u8 0) 1 rfl Try.underlying30 infoB rfl (by decide) A (64 * m) c (by rfl) (by rfl) (Kd.C_below AR.out ((hSep.out)).toBelow) (by simp only [List.length_nil]; rw [AL.out]; omega) ?_
                      intro vn_ wn_ hN
                      rw [List.nil_append] at hN
                      refine hK.out _ _ trivial (fun hHeld => ?_)
                      clear hK K
                      refine norm_ (a' := ?_) ?_ ?_
                      rotate_left
                      · show Act.put _ (some 21) _ = _
                        simp only [Act.put, List.setIfInBounds_toArray, List.set_cons_zero, List.set_cons_succ, i64_w, i32_w]
                        rfl
                      exact norm_ (by first | (simp only [putAll, Act.put, List.setIfInBounds_toArray, List.set_cons_zero, List.set_cons_succ]; done) | (simp only [putAll, Act.put, List.setIfInBounds_toArray, List.set_cons_zero, List.set_cons_succ]; rfl)) (hJ0_2_7 (v0_, vn_, v7_) _ hN)
                    · skip
                      refine value_ (w1 := ?_) (v := ?_) (by rfl) rfl ?_ ?_
                      rotate_left 2
                      · go_simp
                        constructor
                        · rfl
                        · rfl
                      have hN := (hSep.out).litRow (enc := Value.int .u8) (h1 := fun _ => rfl) (e := 5) [] (by decide)
                      refine hK.out _ _ trivial (fun hHeld => ?_)
                      clear hK K
                      refine norm_ (a' := ?_) ?_ ?_
                      rotate_left
                      · show Act.put _ (some 22) _ = _
                        simp only [Act.put, List.setIfInBounds_toArray, List.set_cons_zero, List.set_cons_succ, i64_w, i32_w]
                        rfl
                      exact norm_ (by first | (simp only [putAll, Act.put, List.setIfInBounds_toArray, List.set_cons_zero, List.set_cons_succ]; done) | (simp only [putAll, Act.put, List.setIfInBounds_toArray, List.set_cons_zero, List.set_cons_succ]; rfl)) (hJ0_3_7 (v0_, .slice (some ⟨(W_).heap.size, 0, none⟩) 0 0, v7_) _ hN.at2)
                · skip
                  rintro ⟨v0_, v3_⟩ W_ hQ_
                  have hSep : Aside0 (Sep w W_ ((Row U8 5 (v0_) []) :: (Row U8 5 (v3_) []) :: [])) := ⟨hQ_⟩
                  clear hQ_
                  have hHeld := trivial
                  refine norm_ (a' := ?_) ?_ ?_
                  rotate_left
                  · simp only [putAll, Act.put, List.setIfInBounds_toArray, List.set_cons_zero, List.set_cons_succ]
                    rfl
                  refine two_ (i := 2) (j := 7) (Ni := some 21) (Nj := some 26) #[true, true, true, true, true, false, true, false, false, false, false] #[true, true, false, true, true, false, true, true, false, false, false] rfl rfl rfl rfl (by kernel_rfl) (by decide) (by decide) (fun K hK => ?_) (fun K hK => ?_)
                  · skip
                    refine ((hSep.out)).appendStep (by rfl) (.tmp 19) (.tmp 20) 30 (.int .u8 0) 1 rfl Try.underlying30 infoB rfl (by decide) A (64 * m) c (by rfl) (by rfl) (Kd.C_below AR.out ((hSep.out)).toBelow) (by simp only [List.length_nil]; rw [AL.out]; omega) ?_
                    intro vn_ wn_ hN
                    rw [List.nil_append] at hN
                    refine hK.out _ _ trivial (fun hHeld => ?_)
                    clear hK K
                    refine norm_ (a' := ?_) ?_ ?_
                    rotate_left
                    · show Act.put _ (some 21) _ = _
                      simp only [Act.put, List.setIfInBounds_toArray, List.set_cons_zero, List.set_cons_succ, i64_w, i32_w]
                      rfl
                    exact norm_ (by first | (simp only [putAll, Act.put, List.setIfInBounds_toArray, List.set_cons_zero, List.set_cons_succ]; done) | (simp only [putAll, Act.put, List.setIfInBounds_toArray, List.set_cons_zero, List.set_cons_succ]; rfl)) (hJ0_2_3 (v0_, vn_, v3_) _ hN)
                  · skip
                    refine value_ (w1 := ?_) (v := ?_) (by rfl) rfl ?_ ?_
                    rotate_left 2
                    · go_simp
                      constructor
                      · rfl
                      · rfl
                    have hN := madeT m (hSep.out) (by omega)
                    refine hK.out _ _ trivial (fun hHeld => ?_)
                    clear hK K
                    refine norm_ (a' := ?_) ?_ ?_
                    rotate_left
                    · show Act.put _ (some 26) _ = _
                      simp only [Act.put, List.setIfInBounds_toArray, List.set_cons_zero, List.set_cons_succ, i64_w, i32_w]
                      rfl
                    exact norm_ (by first | (simp only [putAll, Act.put, List.setIfInBounds_toArray, List.set_cons_zero, List.set_cons_succ]; done) | (simp only [putAll, Act.put, List.setIfInBounds_toArray, List.set_cons_zero, List.set_cons_succ]; rfl)) (hJ0_3_7 (v0_, v3_, .slice (some ⟨(W_).heap.size, 0, none⟩) m m) _ hN.to3)
              · skip
                rintro ⟨v0_, v2_⟩ W_ hQ_
                have hSep : Aside0 (Sep w W_ ((Row U8 5 (v2_) l) :: [])) := ⟨hQ_⟩
                clear hQ_
                have hHeld := trivial
                refine norm_ (a' := ?_) ?_ ?_
                rotate_left
                · simp only [putAll, Act.put, List.setIfInBounds_toArray, List.set_cons_zero, List.set_cons_succ]
                  rfl
                refine two_ (i := 3) (j := 7) (Ni := some 22) (Nj := some 26) #[true, true, true, true, true, false, true, false, false, false, false] #[true, true, true, false, true, false, true, true, false, false, false] rfl rfl rfl rfl (by kernel_rfl) (by decide) (by decide) (fun K hK => ?_) (fun K hK => ?_)
                · skip
                  refine value_ (w1 := ?_) (v := ?_) (by rfl) rfl ?_ ?_
                  rotate_left 2
                  · go_simp
                    constructor
                    · rfl
                    · rfl
                  have hN := (hSep.out).litRow (enc := Value.int .u8) (h1 := fun _ => rfl) (e := 5) [] (by decide)
                  refine hK.out _ _ trivial (fun hHeld => ?_)
                  clear hK K
                  refine norm_ (a' := ?_) ?_ ?_
                  rotate_left
                  · show Act.put _ (some 22) _ = _
                    simp only [Act.put, List.setIfInBounds_toArray, List.set_cons_zero, List.set_cons_succ, i64_w, i32_w]
                    rfl
                  exact norm_ (by first | (simp only [putAll, Act.put, List.setIfInBounds_toArray, List.set_cons_zero, List.set_cons_succ]; done) | (simp only [putAll, Act.put, List.setIfInBounds_toArray, List.set_cons_zero, List.set_cons_succ]; rfl)) (hJ0_2_3 (v0_, v2_, .slice (some ⟨(W_).heap.size, 0, none⟩) 0 0) _ hN.at2)
                · skip
                  refine value_ (w1 := ?_) (v := ?_) (by rfl) rfl ?_ ?_
                  rotate_left 2
                  · go_simp
                    constructor
                    · rfl
                    · rfl
                  have hN := madeT m (hSep.out) (by omega)
                  refine hK.out _ _ trivial (fun hHeld => ?_)
                  clear hK K
                  refine norm_ (a' := ?_) ?_ ?_
                  rotate_left
                  · show Act.put _ (some 26) _ = _
                    simp only [Act.put, List.setIfInBounds_toArray, List.set_cons_zero, List.set_cons_succ, i64_w, i32_w]
                    rfl
                  exact norm_ (by first | (simp only [putAll, Act.put, List.setIfInBounds_toArray, List.set_cons_zero, List.set_cons_succ]; done) | (simp only [putAll, Act.put, List.setIfInBounds_toArray, List.set_cons_zero, List.set_cons_succ]; rfl)) (hJ0_2_7 (v0_, v2_, .slice (some ⟨(W_).heap.size, 0, none⟩) m m) _ hN.at2)
            · skip
              rintro ⟨v0_, v3_, v7_⟩ W_ hQ_
              have hSep : Aside0 (Sep w W_ ((Row U8 5 (v0_) []) :: (Row U8 5 (v3_) []) :: (Row BK 4 (v7_) (List.replicate m false)) :: [])) := ⟨hQ_⟩
              clear hQ_
              have hHeld := trivial
              refine norm_ (a' := ?_) ?_ ?_
              rotate_left
              · simp only [putAll, Act.put, List.setIfInBounds_toArray, List.set_cons_zero, List.set_cons_succ]
                rfl
              refine one_ (i := 2) (N := some 21) #[true, true, true, true, true, false, true, true, false, false, false] rfl rfl (by kernel_rfl) (by decide) (fun K hK => ?_)
              refine ((hSep.out)).appendStep (by rfl) (.tmp 19) (.tmp 20) 30 (.int .u8 0) 1 rfl Try.underlying30 infoB rfl (by decide) A (64 * m) c (by rfl) (by rfl) (Kd.C_below AR.out ((hSep.out)).toBelow) (by simp only [List.length_nil]; rw [AL.out]; omega) ?_
              intro vn_ wn_ hN
              rw [List.nil_append] at hN
              refine hK.out _ _ trivial (fun hHeld => ?_)
              clear hK K
              refine norm_ (a' := ?_) ?_ ?_
              rotate_left
              · show Act.put _ (some 21) _ = _
                simp only [Act.put, List.setIfInBounds_toArray, List.set_cons_zero, List.set_cons_succ, i64_w, i32_w]
                rfl
              exact norm_ (by first | (simp only [putAll, Act.put, List.setIfInBounds_toArray, List.set_cons_zero, List.set_cons_succ]; done) | (simp only [putAll, Act.put, List.setIfInBounds_toArray, List.set_cons_zero, List.set_cons_succ]; rfl)) (hJ0_2_3_7 (v0_, vn_, v3_, v7_) _ hN)
          · skip
            rintro ⟨v0_, v2_, v7_⟩ W_ hQ_
            have hSep : Aside0 (Sep w W_ ((Row U8 5 (v2_) l) :: (Row BK 4 (v7_) (List.replicate m false)) :: [])) := ⟨hQ_⟩
            clear hQ_
            have hHeld := trivial
            refine norm_ (a' := ?_) ?_ ?_
            rotate_left
            · simp only [putAll, Act.put, List.setIfInBounds_toArray, List.set_cons_zero, List.set_cons_succ]
              rfl
            refine one_ (i := 3) (N := some 22) #[true, true, true, true, true, false, true, true, false, false, false] rfl rfl (by kernel_rfl) (by decide) (fun K hK => ?_)
            refine value_ (w1 := ?_) (v := ?_) (by rfl) rfl ?_ ?_
            rotate_left 2
            · go_simp
              constructor
              · rfl
              · rfl
            have hN := (hSep.out).litRow (enc := Value.int .u8) (h1 := fun _ => rfl) (e := 5) [] (by decide)
            refine hK.out _ _ trivial (fun hHeld => ?_)
            clear hK K
            refine norm_ (a' := ?_) ?_ ?_
            rotate_left
            · show Act.put _ (some 22) _ = _
              simp only [Act.put, List.setIfInBounds_toArray, List.set_cons_zero, List.set_cons_succ, i64_w, i32_w]
              rfl
            exact norm_ (by first | (simp only [putAll, Act.put, List.setIfInBounds_toArray, List.set_cons_zero, List.set_cons_succ]; done) | (simp only [putAll, Act.put, List.setIfInBounds_toArray, List.set_cons_zero, List.set_cons_succ]; rfl)) (hJ0_2_3_7 (v0_, v2_, .slice (some ⟨(W_).heap.size, 0, none⟩) 0 0, v7_) _ hN.at2)
        · skip
          rintro ⟨v0_, v2_, v3_⟩ W_ hQ_
          have hSep : Aside0 (Sep w W_ ((Row U8 5 (v2_) l) :: (Row U8 5 (v3_) []) :: [])) := ⟨hQ_⟩
          clear hQ_
          have hHeld := trivial
          refine norm_ (a' := ?_) ?_ ?_
          rotate_left
          · simp only [putAll, Act.put, List.setIfInBounds_toArray, List.set_cons_zero, List.set_cons_succ]
            rfl
          refine two_ (i := 5) (j := 7) (Ni := some 24) (Nj := some 26) #[true, true, true, true, true, true, true, false, false, false, false] #[true, true, true, true, true, false, true, true, false, false, false] rfl rfl rfl rfl (by kernel_rfl) (by decide) (by decide) (fun K hK => ?_) (fun K hK => ?_)
          · skip
            refine ((hSep.out).at2).appendStep (by rfl) (.tmp 22) (.tmp 23) 30 (.int .u8 0) 1 rfl Try.underlying30 infoB rfl (by decide) A (64 * m) c (by rfl) (by rfl) (Kd.C_below AR.out ((hSep.out).at2).toBelow) (by simp only [List.length_nil]; rw [AL.out]; omega) ?_
            intro vn_ wn_ hN
            rw [List.nil_append] at hN
            refine hK.out _ _ trivial (fun hHeld => ?_)
            clear hK K
            refine norm_ (a' := ?_) ?_ ?_
            rotate_left
            · show Act.put _ (some 24) _ = _
              simp only [Act.put, List.setIfInBounds_toArray, List.set_cons_zero, List.set_cons_succ, i64_w, i32_w]
              rfl
            exact norm_ (by first | (simp only [putAll, Act.put, List.setIfInBounds_toArray, List.set_cons_zero, List.set_cons_succ]; done) | (simp only [putAll, Act.put, List.setIfInBounds_toArray, List.set_cons_zero, List.set_cons_succ]; rfl)) (hJ0_2_3_5 (v0_, v2_, v3_, vn_) _ hN.at2)
          · skip
            refine value_ (w1 := ?_) (v := ?_) (by rfl) rfl ?_ ?_
            rotate_left 2
            · go_simp
              constructor
              · rfl
              · rfl
            have hN := madeT m (hSep.out) (by omega)
            refine hK.out _ _ trivial (fun hHeld => ?_)
            clear hK K
            refine norm_ (a' := ?_) ?_ ?_
            rotate_left
            · show Act.put _ (some 26) _ = _
              simp only [Act.put, List.setIfInBounds_toArray, List.set_cons_zero, List.set_cons_succ, i64_w, i32_w]
              rfl
            exact norm_ (by first | (simp only [putAll, Act.put, List.setIfInBounds_toArray, List.set_cons_zero, List.set_cons_succ]; done) | (simp only [putAll, Act.put, List.setIfInBounds_toArray, List.set_cons_zero, List.set_cons_succ]; rfl)) (hJ0_2_3_7 (v0_, v2_, v3_, .slice (some ⟨(W_).heap.size, 0, none⟩) m m) _ hN.to3)
      · skip
        rintro ⟨v0_, v2_, v3_, v7_⟩ W_ hQ_
        have hSep : Aside0 (Sep w W_ ((Row U8 5 (v2_) l) :: (Row U8 5 (v3_) []) :: (Row BK 4 (v7_) (List.replicate m false)) :: [])) := ⟨hQ_⟩
        clear hQ_
        have hHeld := trivial
        refine norm_ (a' := ?_) ?_ ?_
        rotate_left
        · simp only [putAll, Act.put, List.setIfInBounds_toArray, List.set_cons_zero, List.set_cons_succ]
          rfl
        refine one_ (i := 5) (N := some 24) #[true, true, true, true, true, true, true, true, false, false, false] rfl rfl (by kernel_rfl) (by decide) (fun K hK => ?_)
        refine ((hSep.out).at2).appendStep (by rfl) (.tmp 22) (.tmp 23) 30 (.int .u8 0) 1 rfl Try.underlying30 infoB rfl (by decide) A (64 * m) c (by rfl) (by rfl) (Kd.C_below AR.out ((hSep.out).at2).toBelow) (by simp only [List.length_nil]; rw [AL.out]; omega) ?_
        intro vn_ wn_ hN
        rw [List.nil_append] at hN
        refine hK.out _ _ trivial (fun hHeld => ?_)
        clear hK K
        refine norm_ (a' := ?_) ?_ ?_
        rotate_left
        · show Act.put _ (some 24) _ = _
          simp only [Act.put, List.setIfInBounds_toArray, List.set_cons_zero, List.set_cons_succ, i64_w, i32_w]
          rfl
        exact norm_ (by first | (simp only [putAll, Act.put, List.setIfInBounds_toArray, List.set_cons_zero, List.set_cons_succ]; done) | (simp only [putAll, Act.put, List.setIfInBounds_toArray, List.set_cons_zero, List.set_cons_succ]; rfl)) (hJ0_2_3_5_7 (v0_, v2_, v3_, vn_, v7_) _ hN.at2)
    · skip
      rintro ⟨v0_, v2_, v3_, v5_⟩ W_ hQ_
      have hSep : Aside0 (Sep w W_ ((Row U8 5 (v2_) l) :: (Row U8 5 (v5_) l) :: [])) := ⟨hQ_⟩
      clear hQ_
      have hHeld := trivial
      refine norm_ (a' := ?_) ?_ ?_
      rotate_left
      · simp only [putAll, Act.put, List.setIfInBounds_toArray, List.set_cons_zero, List.set_cons_succ]
        rfl
      refine one_ (i := 7) (N := some 26) #[true, true, true, true, true, true, true, true, false, false, false] rfl rfl (by kernel_rfl) (by decide) (fun K hK => ?_)
      refine value_ (w1 := ?_) (v := ?_) (by rfl) rfl ?_ ?_
      rotate_left 2
      · go_simp
        constructor
        · rfl
        · rfl
      have hN := madeT m (hSep.out) (by omega)
      refine hK.out _ _ trivial (fun hHeld => ?_)
      clear hK K
      refine norm_ (a' := ?_) ?_ ?_
      rotate_left
      · show Act.put _ (some 26) _ = _
        simp only [Act.put, List.setIfInBounds_toArray, List.set_cons_zero, List.set_cons_succ, i64_w, i32_w]
        rfl
      exact norm_ (by first | (simp only [putAll, Act.put, List.setIfInBounds_toArray, List.set_cons_zero, List.set_cons_succ]; done) | (simp only [putAll, Act.put, List.setIfInBounds_toArray, List.set_cons_zero, List.set_cons_succ]; rfl)) (hJ0_2_3_5_7 (v0_, v2_, v3_, v5_, .slice (some ⟨(W_).heap.size, 0, none⟩) m m) _ hN.to3)
  rintro ⟨v0_, v2_, v3_, v5_, v7_⟩ W_ hQ_
  have hSep : Aside0 (Sep w W_ ((Row U8 5 (v2_) l) :: (Row U8 5 (v5_) l) :: (Row BK 4 (v7_) (List.replicate m false)) :: [])) := ⟨hQ_⟩
  clear hQ_
  have hHeld := trivial
  obtain ⟨A2, c2, rfl⟩ := hSep.out.rowN AL.out
  obtain ⟨A5, c5, rfl⟩ := hSep.out.at2.rowN AL.out
  obtain ⟨A7, c7, rfl⟩ := hSep.out.at3.rowN (List.length_replicate ..)
  refine norm_ (a' := ?_) ?_ ?_
  rotate_left
  · simp only [putAll, Act.put, List.setIfInBounds_toArray, List.set_cons_zero, List.set_cons_succ]
    rfl
  refine pure_ (i := 8) (N := some 27) (v := ?_) (a' := ?_) #[true, true, true, true, true, true, true, true, true, false, false] rfl rfl (by kernel_rfl) (fun _ _ _ h => h) (Or.inl ⟨by rfl, ?_⟩) ?_ ?_
  rotate_left
  · intro w'
    go_simp
    with_reducible rfl
  rotate_left
  · simp only [Act.put, List.setIfInBounds_toArray, List.set_cons_zero, List.set_cons_succ, i64_w, i32_w]
    rfl
  refine one_ (i := 9) (N := some 28) #[true, true, true, true, true, true, true, true, true, true, false] rfl rfl (by kernel_rfl) (by decide) (fun K hK => ?_)
  refine value_ (w1 := ?_) (v := ?_) (by rfl) rfl ?_ ?_
  rotate_left 2
  · go_simp
    constructor
    · rfl
    · rfl
  refine hK.out _ _ trivial (fun hHeld => ?_)
  clear hK K
  refine norm_ (a' := ?_) ?_ ?_
  rotate_left
  · show Act.put _ (some 28) _ = _
    simp only [Act.put, List.setIfInBounds_toArray, List.set_cons_zero, List.set_cons_succ, i64_w, i32_w]
    rfl
  refine pure_ (i := 10) (N := some 2) (v := ?_) (a' := ?_) #[true, true, true, true, true, true, true, true, true, true, true] rfl rfl (by kernel_rfl) (fun _ _ _ h => h) (Or.inl ⟨by rfl, ?_⟩) ?_ ?_
  rotate_left
  · intro w'
    go_simp
    with_reducible rfl
  rotate_left
  · simp only [Act.put, List.setIfInBounds_toArray, List.set_cons_zero, List.set_cons_succ, i64_w, i32_w]
    rfl
  refine done_ (by kernel_rfl) ?_
  go_wp2_with fail
  go_ret
  have h6 := hSep.out.newBlk 144 #[.slice A2 (64 * m) c2, .slice A5 (64 * m) c5, .slice A7 m c7, .int .i64 (-1), .int .i64 0]
  exact ⟨_, rfl, shut_ h1 h2 AL.out AL.out (List.length_replicate ..) h6⟩
set_option maxHeartbeats 400000 in
theorem of_none {A : Option Addr} {k c : Nat} {w : World} (hm : k ≤ 9223372036854775807) (hb : k = 0 ∨ k % 64 ≠ 0 ∨ 10240 < k) :
    Calls Try.prog 96 #[.slice A k c] w fun e w' => e = .returned (.pointer none) ∧ w = w' := by
  have hq : ((k : Int)).tdiv 64 = ((k / 64 : Nat) : Int) := by rw [Int.tdiv_eq_ediv_of_nonneg (by omega)]; omega
  have hr : ((k : Int)).tmod 64 = ((k % 64 : Nat) : Int) := by rw [Int.tmod_eq_emod_of_nonneg (by omega)]; omega
  generalize hqe : k / 64 = q at *
  generalize hre : k % 64 = r at *
  by_cases b1 : r = 0
  · subst b1
    by_cases b2 : (q : Int) < 1
    · clear hb
      go_enter Try.func96, Try.ntmps96
      go_wp2
      go_ret
      exact ⟨by first | rfl | (simp; done), rfl⟩
    · have b3 : 160 < (q : Int) := by omega
      clear hb
      go_enter Try.func96, Try.ntmps96
      go_wp2
      go_ret
      exact ⟨by first | rfl | (simp; done), rfl⟩
  · have b4 : ((r : Int) != 0) = true := by simp; omega
    have b5 : ¬ (r : Int) = 0 := by omega
    clear hb
    go_enter Try.func96, Try.ntmps96
    go_wp2
    go_ret
    exact ⟨by first | rfl | (simp; done), rfl⟩
set_option maxHeartbeats 400000 in
set_option maxRecDepth 100000 in
theorem new_ok {n : Nat} {w : World} (h1 : 1 ≤ n) (h2 : n ≤ 160) :
    Calls Try.prog 86 #[.int .i64 (n : Int)] w fun e w' => ∃ g, e = .returned (.pointer (some ⟨g, 0, none⟩)) ∧ Sep w w' [RD g n (List.replicate (n * 64) 0) (List.replicate (n * 64) 0) (List.replicate n false) (-1) 0] := by
  have hmk : ∀ W : World, (Instr.makeSlice 30 (.int .i64 ((n : Int) * 64)) (.int .i64 ((n : Int) * 64))).run Try.prog W = .ok (.slice (some ⟨W.heap.size, 0, none⟩) (n * 64) (n * 64)) (W.alloc (.cells (madeCells #[.int .u8 0] (n * 64)) 5)) := by
    intro W
    have := make_ (m := n * 64) (by omega) W
    rwa [Int.natCast_mul] at this
  have HS := Aside0.mk (madeB (F := []) (n * 64) (Sep.start w) (by omega))
  have h1' : ¬ (n : Int) < 1 := by omega
  have h2' : ¬ 160 < (n : Int) := by omega
  go_enter Try.func86, Try.ntmps86
  go_wp2_with fail
  refine (of_ok (m := n) (l := List.replicate (n * 64) 0) HS.out.rowRd.rd (by omega) h1 h2).mono ?_
  rintro e w1 ⟨g, rfl, hS1⟩
  go_wp2
  go_ret
  exact ⟨g, by first | rfl | (simp; done), ((Sep.start w).alloc _).lift1 hS1⟩
set_option maxHeartbeats 400000 in
theorem new_none {n : Int} {w : World} (h1 : n < 1 ∨ 160 < n) :
    Calls Try.prog 86 #[.int .i64 n] w fun e w' => e = .returned (.pointer none) ∧ w = w' := by
  by_cases h2 : n < 1
  · clear h1
    go_enter Try.func86, Try.ntmps86
    go_wp2
    go_ret
    exact ⟨by first | rfl | (simp; done), rfl⟩
  · have h3 : 160 < n := by omega
    clear h1
    go_enter Try.func86, Try.ntmps86
    go_wp2
    go_ret
    exact ⟨by first | rfl | (simp; done), rfl⟩
end Go.Proofs.Ytjngnigelkgekaa.Ref
