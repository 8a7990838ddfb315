/- Ref2, Ref3, Ref4: what HealTwice needs. -/
import Derived.Test.YtjngnigelkgekaaGreatThealTwice7
set_option linter.unusedVariables false
set_option linter.unusedSimpArgs false
namespace Go.Proofs.YtjngnigelkgekaaGreat.Ref
open Go.RowKit Go.Proofs.YtjngnigelkgekaaGreatW.PrintWords Go.Proofs.YtjngnigelkgekaaGreatW.PrintLast Go.Proofs.YtjngnigelkgekaaGreatW.PrintMore Go.Proofs.YtjngnigelkgekaaGreat.Kit Go.Proofs.YtjngnigelkgekaaGreat.Disk
theorem madeT {w0 W : World} {F : List HP} (m : Nat) (h : Sep w0 W F) (hm : m ≤ 100000) : Sep w0 (W.alloc (.cells (madeCells #[.bool false] m) 4)) (Row BK 4 (.slice (some ⟨W.heap.size, 0, none⟩) m m) (List.replicate m false) :: F) :=
  h.madeRow (h1 := fun _ => rfl) (e := 4) (enc := Value.bool) false m (by omega)
theorem makeT {m : Nat} (hm : m ≤ 100000) : ∀ W : World, (Instr.makeSlice 85 (.int .i64 (m : Int)) (.int .i64 (m : Int))).run Tryz.prog W = .ok (.slice (some ⟨W.heap.size, 0, none⟩) m m) (W.alloc (.cells (madeCells #[.bool false] m) 4)) := by
  exact print_make_of (P := Tryz.prog) 85 4 (.bool false) 1 Tryz.underlying85 infoT rfl (by decide) m (by omega)
set_option maxHeartbeats 1600000 in
set_option maxRecDepth 100000 in
theorem of_ok {A : Option Addr} {k m c : Nat} {l : List Int} {w : World} (hr : U8.C w A k l) (hk : k = 64 * m) (h1 : 1 ≤ m) (h2 : m ≤ 160) :
    Calls Tryz.prog 56 #[.slice A k c] w fun e w' => ∃ g, e = .returned (.pointer (some ⟨g, 0, none⟩)) ∧ Sep w w' [RD g m l l (List.replicate m false) (-1) 0] := by
  subst hk
  have hd : (64 * (m : Int)).tdiv 64 = (m : Int) := Int.mul_tdiv_cancel_left _ (by decide)
  have hm : (64 * (m : Int)).tmod 64 = 0 := Int.mul_tmod_right _ _
  have hmk := makeT (m := m) (by omega)
  have AR := Aside0.mk hr
  have hll := hr.1
  have AL := Aside0.mk hll
  clear hr hll
  go_enter Tryz.func56, Tryz.ntmps56
  go_wp2_with fail
  refine start_ (n := 11) (S := fun w' => True) (ds := []) #[Z,Z,Z,Z,Z,Z,Z,Z,Z,Z,Z] (by kernel_rfl) rfl rfl trivial (fun hHeld => ?_)
  refine pu_ 1 20 ?_ #[Z,J,Z,Z,Z,Z,Z,Z,Z,Z,Z] rfl rfl ?_ ?_ ?_ ?_
  rotate_left
  · intro w'
    go_simp
    with_reducible rfl
  rotate_left
  · simp only [aP]
    rfl
  refine pu_ 4 23 ?_ #[Z,J,Z,Z,J,Z,Z,Z,Z,Z,Z] rfl rfl ?_ ?_ ?_ ?_
  rotate_left
  · intro w'
    go_simp
    with_reducible rfl
  rotate_left
  · simp only [aP]
    rfl
  refine pu_ 6 25 ?_ #[Z,J,Z,Z,J,Z,J,Z,Z,Z,Z] rfl rfl ?_ ?_ ?_ ?_
  rotate_left
  · intro w'
    go_simp
    with_reducible rfl
  rotate_left
  · simp only [aP]
    rfl
  refine join_ (σ := Value × Value × Value × Value × Value) 3 #[J,J,J,J,J,J,J,J,Z,Z,Z] (fun s_ => [(19, s_.1), (21, s_.2.1), (22, s_.2.2.1), (24, s_.2.2.2.1), (26, s_.2.2.2.2)]) (fun s_ w' => Sep w w' ((Row U8 5 (s_.2.1) l) :: (Row U8 5 (s_.2.2.2.1) l) :: (Row BK 4 (s_.2.2.2.2) (List.replicate m false)) :: [])) ?_ ?_
  rotate_left
  · intro hJ0_2_3_5_7
    refine join_ (σ := Value × Value × Value × Value) 4 #[J,J,J,J,J,J,J,Z,Z,Z,Z] (fun s_ => [(19, s_.1), (21, s_.2.1), (22, s_.2.2.1), (24, s_.2.2.2)]) (fun s_ w' => Sep w w' ((Row U8 5 (s_.2.1) l) :: (Row U8 5 (s_.2.2.2) l) :: [])) ?_ ?_
    rotate_left
    · intro hJ0_2_3_5
      refine join_ (σ := Value × Value × Value × Value) 4 #[J,J,J,J,J,Z,J,J,Z,Z,Z] (fun s_ => [(19, s_.1), (21, s_.2.1), (22, s_.2.2.1), (26, s_.2.2.2)]) (fun s_ w' => Sep w w' ((Row U8 5 (s_.2.1) l) :: (Row U8 5 (s_.2.2.1) []) :: (Row BK 4 (s_.2.2.2) (List.replicate m false)) :: [])) ?_ ?_
      rotate_left
      · intro hJ0_2_3_7
        refine join_ (σ := Value × Value × Value) 5 #[J,J,J,J,J,Z,J,Z,Z,Z,Z] (fun s_ => [(19, s_.1), (21, s_.2.1), (22, s_.2.2)]) (fun s_ w' => Sep w w' ((Row U8 5 (s_.2.1) l) :: (Row U8 5 (s_.2.2) []) :: [])) ?_ ?_
        rotate_left
        · intro hJ0_2_3
          refine join_ (σ := Value × Value × Value) 5 #[J,J,J,Z,J,Z,J,J,Z,Z,Z] (fun s_ => [(19, s_.1), (21, s_.2.1), (26, s_.2.2)]) (fun s_ w' => Sep w w' ((Row U8 5 (s_.2.1) l) :: (Row BK 4 (s_.2.2) (List.replicate m false)) :: [])) ?_ ?_
          rotate_left
          · intro hJ0_2_7
            refine join_ (σ := Value × Value × Value) 5 #[J,J,Z,J,J,Z,J,J,Z,Z,Z] (fun s_ => [(19, s_.1), (22, s_.2.1), (26, s_.2.2)]) (fun s_ w' => Sep w w' ((Row U8 5 (s_.1) []) :: (Row U8 5 (s_.2.1) []) :: (Row BK 4 (s_.2.2) (List.replicate m false)) :: [])) ?_ ?_
            rotate_left
            · intro hJ0_3_7
              refine join_ (σ := Value × Value) 6 #[J,J,J,Z,J,Z,J,Z,Z,Z,Z] (fun s_ => [(19, s_.1), (21, s_.2)]) (fun s_ w' => Sep w w' ((Row U8 5 (s_.2) l) :: [])) ?_ ?_
              rotate_left
              · intro hJ0_2
                refine join_ (σ := Value × Value) 6 #[J,J,Z,J,J,Z,J,Z,Z,Z,Z] (fun s_ => [(19, s_.1), (22, s_.2)]) (fun s_ w' => Sep w w' ((Row U8 5 (s_.1) []) :: (Row U8 5 (s_.2) []) :: [])) ?_ ?_
                rotate_left
                · intro hJ0_3
                  refine join_ (σ := Value × Value) 6 #[J,J,Z,Z,J,Z,J,J,Z,Z,Z] (fun s_ => [(19, s_.1), (26, s_.2)]) (fun s_ w' => Sep w w' ((Row U8 5 (s_.1) []) :: (Row BK 4 (s_.2) (List.replicate m false)) :: [])) ?_ ?_
                  rotate_left
                  · intro hJ0_7
                    refine join_ (σ := Value × Value) 6 #[Z,J,Z,J,J,Z,J,J,Z,Z,Z] (fun s_ => [(22, s_.1), (26, s_.2)]) (fun s_ w' => Sep w w' ((Row U8 5 (s_.1) []) :: (Row BK 4 (s_.2) (List.replicate m false)) :: [])) ?_ ?_
                    rotate_left
                    · intro hJ3_7
                      refine join_ (σ := Value) 7 #[J,J,Z,Z,J,Z,J,Z,Z,Z,Z] (fun s_ => [(19, s_)]) (fun s_ w' => Sep w w' ((Row U8 5 (s_) []) :: [])) ?_ ?_
                      rotate_left
                      · intro hJ0
                        refine join_ (σ := Value) 7 #[Z,J,Z,J,J,Z,J,Z,Z,Z,Z] (fun s_ => [(22, s_)]) (fun s_ w' => Sep w w' ((Row U8 5 (s_) []) :: [])) ?_ ?_
                        rotate_left
                        · intro hJ3
                          refine join_ (σ := Value) 7 #[Z,J,Z,Z,J,Z,J,J,Z,Z,Z] (fun s_ => [(26, s_)]) (fun s_ w' => Sep w w' ((Row BK 4 (s_) (List.replicate m false)) :: [])) ?_ ?_
                          rotate_left
                          · intro hJ7
                            refine three_ (i := 0) (j := 3) (k := 7) (Ni := some 19) (Nj := some 22) (Nk := some 26) #[J,J,Z,Z,J,Z,J,Z,Z,Z,Z] #[Z,J,Z,J,J,Z,J,Z,Z,Z,Z] #[Z,J,Z,Z,J,Z,J,J,Z,Z,Z] rfl rfl rfl rfl rfl rfl (by kernel_rfl) (by decide) (by decide) (by decide) (fun K hK => ?_) (fun K hK => ?_) (fun K hK => ?_)
                            · skip
                              refine value_ (w1 := ?_) (v := ?_) (by rfl) rfl ?_ ?_
                              rotate_left 2
                              · go_simp
                                constructor
                                · rfl
                                · rfl
                              have hN := ((Sep.start w).drew).litRow (enc := Value.int .u8) (h1 := fun _ => rfl) (e := 5) [] (by decide)
                              refine hK.out _ _ trivial (fun hHeld => ?_)
                              clear hK K
                              refine norm_ (a' := ?_) ?_ ?_
                              rotate_left
                              · show Act.put _ (some 19) _ = _
                                simp only [aP]
                                rfl
                              exact norm_ (by first | (simp only [putAll, Act.put, List.setIfInBounds_toArray, List.set_cons_zero, List.set_cons_succ]; done) | (simp only [putAll, Act.put, List.setIfInBounds_toArray, List.set_cons_zero, List.set_cons_succ]; rfl)) (hJ0 (.slice (some ⟨(w.drew).heap.size, 0, none⟩) 0 0) _ hN)
                            · skip
                              refine value_ (w1 := ?_) (v := ?_) (by rfl) rfl ?_ ?_
                              rotate_left 2
                              · go_simp
                                constructor
                                · rfl
                                · rfl
                              have hN := ((Sep.start w).drew).litRow (enc := Value.int .u8) (h1 := fun _ => rfl) (e := 5) [] (by decide)
                              refine hK.out _ _ trivial (fun hHeld => ?_)
                              clear hK K
                              refine norm_ (a' := ?_) ?_ ?_
                              rotate_left
                              · show Act.put _ (some 22) _ = _
                                simp only [aP]
                                rfl
                              exact norm_ (by first | (simp only [putAll, Act.put, List.setIfInBounds_toArray, List.set_cons_zero, List.set_cons_succ]; done) | (simp only [putAll, Act.put, List.setIfInBounds_toArray, List.set_cons_zero, List.set_cons_succ]; rfl)) (hJ3 (.slice (some ⟨(w.drew).heap.size, 0, none⟩) 0 0) _ hN)
                            · skip
                              refine value_ (w1 := ?_) (v := ?_) (by rfl) rfl ?_ ?_
                              rotate_left 2
                              · go_simp
                                constructor
                                · rfl
                                · rfl
                              have hN := madeT m ((Sep.start w).drew) (by omega)
                              refine hK.out _ _ trivial (fun hHeld => ?_)
                              clear hK K
                              refine norm_ (a' := ?_) ?_ ?_
                              rotate_left
                              · show Act.put _ (some 26) _ = _
                                simp only [aP]
                                rfl
                              exact norm_ (by first | (simp only [putAll, Act.put, List.setIfInBounds_toArray, List.set_cons_zero, List.set_cons_succ]; done) | (simp only [putAll, Act.put, List.setIfInBounds_toArray, List.set_cons_zero, List.set_cons_succ]; rfl)) (hJ7 (.slice (some ⟨(w.drew).heap.size, 0, none⟩) m m) _ hN)
                          · skip
                            rintro v7_ W_ hQ_
                            have hSep : Aside0 (Sep w W_ ((Row BK 4 (v7_) (List.replicate m false)) :: [])) := ⟨hQ_⟩
                            clear hQ_
                            have hHeld := trivial
                            refine norm_ (a' := ?_) ?_ ?_
                            rotate_left
                            · simp only [putAll, Act.put, List.setIfInBounds_toArray, List.set_cons_zero, List.set_cons_succ]
                              rfl
                            refine two_ (i := 0) (j := 3) (Ni := some 19) (Nj := some 22) #[J,J,Z,Z,J,Z,J,J,Z,Z,Z] #[Z,J,Z,J,J,Z,J,J,Z,Z,Z] rfl rfl rfl rfl (by kernel_rfl) (by decide) (by decide) (fun K hK => ?_) (fun K hK => ?_)
                            · skip
                              refine value_ (w1 := ?_) (v := ?_) (by rfl) rfl ?_ ?_
                              rotate_left 2
                              · go_simp
                                constructor
                                · rfl
                                · rfl
                              have hN := (hSep.out).litRow (enc := Value.int .u8) (h1 := fun _ => rfl) (e := 5) [] (by decide)
                              refine hK.out _ _ trivial (fun hHeld => ?_)
                              clear hK K
                              refine norm_ (a' := ?_) ?_ ?_
                              rotate_left
                              · show Act.put _ (some 19) _ = _
                                simp only [aP]
                                rfl
                              exact norm_ (by first | (simp only [putAll, Act.put, List.setIfInBounds_toArray, List.set_cons_zero, List.set_cons_succ]; done) | (simp only [putAll, Act.put, List.setIfInBounds_toArray, List.set_cons_zero, List.set_cons_succ]; rfl)) (hJ0_7 (.slice (some ⟨(W_).heap.size, 0, none⟩) 0 0, v7_) _ hN)
                            · skip
                              refine value_ (w1 := ?_) (v := ?_) (by rfl) rfl ?_ ?_
                              rotate_left 2
                              · go_simp
                                constructor
                                · rfl
                                · rfl
                              have hN := (hSep.out).litRow (enc := Value.int .u8) (h1 := fun _ => rfl) (e := 5) [] (by decide)
                              refine hK.out _ _ trivial (fun hHeld => ?_)
                              clear hK K
                              refine norm_ (a' := ?_) ?_ ?_
                              rotate_left
                              · show Act.put _ (some 22) _ = _
                                simp only [aP]
                                rfl
                              exact norm_ (by first | (simp only [putAll, Act.put, List.setIfInBounds_toArray, List.set_cons_zero, List.set_cons_succ]; done) | (simp only [putAll, Act.put, List.setIfInBounds_toArray, List.set_cons_zero, List.set_cons_succ]; rfl)) (hJ3_7 (.slice (some ⟨(W_).heap.size, 0, none⟩) 0 0, v7_) _ hN)
                        · skip
                          rintro v3_ W_ hQ_
                          have hSep : Aside0 (Sep w W_ ((Row U8 5 (v3_) []) :: [])) := ⟨hQ_⟩
                          clear hQ_
                          have hHeld := trivial
                          refine norm_ (a' := ?_) ?_ ?_
                          rotate_left
                          · simp only [putAll, Act.put, List.setIfInBounds_toArray, List.set_cons_zero, List.set_cons_succ]
                            rfl
                          refine two_ (i := 0) (j := 7) (Ni := some 19) (Nj := some 26) #[J,J,Z,J,J,Z,J,Z,Z,Z,Z] #[Z,J,Z,J,J,Z,J,J,Z,Z,Z] rfl rfl rfl rfl (by kernel_rfl) (by decide) (by decide) (fun K hK => ?_) (fun K hK => ?_)
                          · skip
                            refine value_ (w1 := ?_) (v := ?_) (by rfl) rfl ?_ ?_
                            rotate_left 2
                            · go_simp
                              constructor
                              · rfl
                              · rfl
                            have hN := (hSep.out).litRow (enc := Value.int .u8) (h1 := fun _ => rfl) (e := 5) [] (by decide)
                            refine hK.out _ _ trivial (fun hHeld => ?_)
                            clear hK K
                            refine norm_ (a' := ?_) ?_ ?_
                            rotate_left
                            · show Act.put _ (some 19) _ = _
                              simp only [aP]
                              rfl
                            exact norm_ (by first | (simp only [putAll, Act.put, List.setIfInBounds_toArray, List.set_cons_zero, List.set_cons_succ]; done) | (simp only [putAll, Act.put, List.setIfInBounds_toArray, List.set_cons_zero, List.set_cons_succ]; rfl)) (hJ0_3 (.slice (some ⟨(W_).heap.size, 0, none⟩) 0 0, v3_) _ hN)
                          · skip
                            refine value_ (w1 := ?_) (v := ?_) (by rfl) rfl ?_ ?_
                            rotate_left 2
                            · go_simp
                              constructor
                              · rfl
                              · rfl
                            have hN := madeT m (hSep.out) (by omega)
                            refine hK.out _ _ trivial (fun hHeld => ?_)
                            clear hK K
                            refine norm_ (a' := ?_) ?_ ?_
                            rotate_left
                            · show Act.put _ (some 26) _ = _
                              simp only [aP]
                              rfl
                            exact norm_ (by first | (simp only [putAll, Act.put, List.setIfInBounds_toArray, List.set_cons_zero, List.set_cons_succ]; done) | (simp only [putAll, Act.put, List.setIfInBounds_toArray, List.set_cons_zero, List.set_cons_succ]; rfl)) (hJ3_7 (v3_, .slice (some ⟨(W_).heap.size, 0, none⟩) m m) _ hN.at2)
                      · skip
                        rintro v0_ W_ hQ_
                        have hSep : Aside0 (Sep w W_ ((Row U8 5 (v0_) []) :: [])) := ⟨hQ_⟩
                        clear hQ_
                        have hHeld := trivial
                        refine norm_ (a' := ?_) ?_ ?_
                        rotate_left
                        · simp only [putAll, Act.put, List.setIfInBounds_toArray, List.set_cons_zero, List.set_cons_succ]
                          rfl
                        refine three_ (i := 2) (j := 3) (k := 7) (Ni := some 21) (Nj := some 22) (Nk := some 26) #[J,J,J,Z,J,Z,J,Z,Z,Z,Z] #[J,J,Z,J,J,Z,J,Z,Z,Z,Z] #[J,J,Z,Z,J,Z,J,J,Z,Z,Z] rfl rfl rfl rfl rfl rfl (by kernel_rfl) (by decide) (by decide) (by decide) (fun K hK => ?_) (fun K hK => ?_) (fun K hK => ?_)
                        · skip
                          refine ((hSep.out)).appendStep (by rfl) (.tmp 19) (.tmp 20) 24 (.int .u8 0) 1 rfl Tryz.underlying24 infoB rfl (by decide) A (64 * m) c (by rfl) (by rfl) (Kd.C_below AR.out ((hSep.out)).toBelow) (by simp only [List.length_nil]; rw [AL.out]; omega) ?_
                          intro vn_ wn_ hN
                          rw [List.nil_append] at hN
                          refine hK.out _ _ trivial (fun hHeld => ?_)
                          clear hK K
                          refine norm_ (a' := ?_) ?_ ?_
                          rotate_left
                          · show Act.put _ (some 21) _ = _
                            simp only [aP]
                            rfl
                          exact norm_ (by first | (simp only [putAll, Act.put, List.setIfInBounds_toArray, List.set_cons_zero, List.set_cons_succ]; done) | (simp only [putAll, Act.put, List.setIfInBounds_toArray, List.set_cons_zero, List.set_cons_succ]; rfl)) (hJ0_2 (v0_, vn_) _ hN)
                        · skip
                          refine value_ (w1 := ?_) (v := ?_) (by rfl) rfl ?_ ?_
                          rotate_left 2
                          · go_simp
                            constructor
                            · rfl
                            · rfl
                          have hN := (hSep.out).litRow (enc := Value.int .u8) (h1 := fun _ => rfl) (e := 5) [] (by decide)
                          refine hK.out _ _ trivial (fun hHeld => ?_)
                          clear hK K
                          refine norm_ (a' := ?_) ?_ ?_
                          rotate_left
                          · show Act.put _ (some 22) _ = _
                            simp only [aP]
                            rfl
                          exact norm_ (by first | (simp only [putAll, Act.put, List.setIfInBounds_toArray, List.set_cons_zero, List.set_cons_succ]; done) | (simp only [putAll, Act.put, List.setIfInBounds_toArray, List.set_cons_zero, List.set_cons_succ]; rfl)) (hJ0_3 (v0_, .slice (some ⟨(W_).heap.size, 0, none⟩) 0 0) _ hN.at2)
                        · skip
                          refine value_ (w1 := ?_) (v := ?_) (by rfl) rfl ?_ ?_
                          rotate_left 2
                          · go_simp
                            constructor
                            · rfl
                            · rfl
                          have hN := madeT m (hSep.out) (by omega)
                          refine hK.out _ _ trivial (fun hHeld => ?_)
                          clear hK K
                          refine norm_ (a' := ?_) ?_ ?_
                          rotate_left
                          · show Act.put _ (some 26) _ = _
                            simp only [aP]
                            rfl
                          exact norm_ (by first | (simp only [putAll, Act.put, List.setIfInBounds_toArray, List.set_cons_zero, List.set_cons_succ]; done) | (simp only [putAll, Act.put, List.setIfInBounds_toArray, List.set_cons_zero, List.set_cons_succ]; rfl)) (hJ0_7 (v0_, .slice (some ⟨(W_).heap.size, 0, none⟩) m m) _ hN.at2)
                    · skip
                      rintro ⟨v3_, v7_⟩ W_ hQ_
                      have hSep : Aside0 (Sep w W_ ((Row U8 5 (v3_) []) :: (Row BK 4 (v7_) (List.replicate m false)) :: [])) := ⟨hQ_⟩
                      clear hQ_
                      have hHeld := trivial
                      refine norm_ (a' := ?_) ?_ ?_
                      rotate_left
                      · simp only [putAll, Act.put, List.setIfInBounds_toArray, List.set_cons_zero, List.set_cons_succ]
                        rfl
                      refine one_ (i := 0) (N := some 19) #[J,J,Z,J,J,Z,J,J,Z,Z,Z] rfl rfl (by kernel_rfl) (by decide) (fun K hK => ?_)
                      refine value_ (w1 := ?_) (v := ?_) (by rfl) rfl ?_ ?_
                      rotate_left 2
                      · go_simp
                        constructor
                        · rfl
                        · rfl
                      have hN := (hSep.out).litRow (enc := Value.int .u8) (h1 := fun _ => rfl) (e := 5) [] (by decide)
                      refine hK.out _ _ trivial (fun hHeld => ?_)
                      clear hK K
                      refine norm_ (a' := ?_) ?_ ?_
                      rotate_left
                      · show Act.put _ (some 19) _ = _
                        simp only [aP]
                        rfl
                      exact norm_ (by first | (simp only [putAll, Act.put, List.setIfInBounds_toArray, List.set_cons_zero, List.set_cons_succ]; done) | (simp only [putAll, Act.put, List.setIfInBounds_toArray, List.set_cons_zero, List.set_cons_succ]; rfl)) (hJ0_3_7 (.slice (some ⟨(W_).heap.size, 0, none⟩) 0 0, v3_, v7_) _ hN)
                  · skip
                    rintro ⟨v0_, v7_⟩ W_ hQ_
                    have hSep : Aside0 (Sep w W_ ((Row U8 5 (v0_) []) :: (Row BK 4 (v7_) (List.replicate m false)) :: [])) := ⟨hQ_⟩
                    clear hQ_
                    have hHeld := trivial
                    refine norm_ (a' := ?_) ?_ ?_
                    rotate_left
                    · simp only [putAll, Act.put, List.setIfInBounds_toArray, List.set_cons_zero, List.set_cons_succ]
                      rfl
                    refine two_ (i := 2) (j := 3) (Ni := some 21) (Nj := some 22) #[J,J,J,Z,J,Z,J,J,Z,Z,Z] #[J,J,Z,J,J,Z,J,J,Z,Z,Z] rfl rfl rfl rfl (by kernel_rfl) (by decide) (by decide) (fun K hK => ?_) (fun K hK => ?_)
                    · skip
                      refine ((hSep.out)).appendStep (by rfl) (.tmp 19) (.tmp 20) 24 (.int .u8 0) 1 rfl Tryz.underlying24 infoB rfl (by decide) A (64 * m) c (by rfl) (by rfl) (Kd.C_below AR.out ((hSep.out)).toBelow) (by simp only [List.length_nil]; rw [AL.out]; omega) ?_
                      intro vn_ wn_ hN
                      rw [List.nil_append] at hN
                      refine hK.out _ _ trivial (fun hHeld => ?_)
                      clear hK K
                      refine norm_ (a' := ?_) ?_ ?_
                      rotate_left
                      · show Act.put _ (some 21) _ = _
                        simp only [aP]
                        rfl
                      exact norm_ (by first | (simp only [putAll, Act.put, List.setIfInBounds_toArray, List.set_cons_zero, List.set_cons_succ]; done) | (simp only [putAll, Act.put, List.setIfInBounds_toArray, List.set_cons_zero, List.set_cons_succ]; rfl)) (hJ0_2_7 (v0_, vn_, v7_) _ hN)
                    · skip
                      refine value_ (w1 := ?_) (v := ?_) (by rfl) rfl ?_ ?_
                      rotate_left 2
                      · go_simp
                        constructor
                        · rfl
                        · rfl
                      have hN := (hSep.out).litRow (enc := Value.int .u8) (h1 := fun _ => rfl) (e := 5) [] (by decide)
                      refine hK.out _ _ trivial (fun hHeld => ?_)
                      clear hK K
                      refine norm_ (a' := ?_) ?_ ?_
                      rotate_left
                      · show Act.put _ (some 22) _ = _
                        simp only [aP]
                        rfl
                      exact norm_ (by first | (simp only [putAll, Act.put, List.setIfInBounds_toArray, List.set_cons_zero, List.set_cons_succ]; done) | (simp only [putAll, Act.put, List.setIfInBounds_toArray, List.set_cons_zero, List.set_cons_succ]; rfl)) (hJ0_3_7 (v0_, .slice (some ⟨(W_).heap.size, 0, none⟩) 0 0, v7_) _ hN.at2)
                · skip
                  rintro ⟨v0_, v3_⟩ W_ hQ_
                  have hSep : Aside0 (Sep w W_ ((Row U8 5 (v0_) []) :: (Row U8 5 (v3_) []) :: [])) := ⟨hQ_⟩
                  clear hQ_
                  have hHeld := trivial
                  refine norm_ (a' := ?_) ?_ ?_
                  rotate_left
                  · simp only [putAll, Act.put, List.setIfInBounds_toArray, List.set_cons_zero, List.set_cons_succ]
                    rfl
                  refine two_ (i := 2) (j := 7) (Ni := some 21) (Nj := some 26) #[J,J,J,J,J,Z,J,Z,Z,Z,Z] #[J,J,Z,J,J,Z,J,J,Z,Z,Z] rfl rfl rfl rfl (by kernel_rfl) (by decide) (by decide) (fun K hK => ?_) (fun K hK => ?_)
                  · skip
                    refine ((hSep.out)).appendStep (by rfl) (.tmp 19) (.tmp 20) 24 (.int .u8 0) 1 rfl Tryz.underlying24 infoB rfl (by decide) A (64 * m) c (by rfl) (by rfl) (Kd.C_below AR.out ((hSep.out)).toBelow) (by simp only [List.length_nil]; rw [AL.out]; omega) ?_
                    intro vn_ wn_ hN
                    rw [List.nil_append] at hN
                    refine hK.out _ _ trivial (fun hHeld => ?_)
                    clear hK K
                    refine norm_ (a' := ?_) ?_ ?_
                    rotate_left
                    · show Act.put _ (some 21) _ = _
                      simp only [aP]
                      rfl
                    exact norm_ (by first | (simp only [putAll, Act.put, List.setIfInBounds_toArray, List.set_cons_zero, List.set_cons_succ]; done) | (simp only [putAll, Act.put, List.setIfInBounds_toArray, List.set_cons_zero, List.set_cons_succ]; rfl)) (hJ0_2_3 (v0_, vn_, v3_) _ hN)
                  · skip
                    refine value_ (w1 := ?_) (v := ?_) (by rfl) rfl ?_ ?_
                    rotate_left 2
                    · go_simp
                      constructor
                      · rfl
                      · rfl
                    have hN := madeT m (hSep.out) (by omega)
                    refine hK.out _ _ trivial (fun hHeld => ?_)
                    clear hK K
                    refine norm_ (a' := ?_) ?_ ?_
                    rotate_left
                    · show Act.put _ (some 26) _ = _
                      simp only [aP]
                      rfl
                    exact norm_ (by first | (simp only [putAll, Act.put, List.setIfInBounds_toArray, List.set_cons_zero, List.set_cons_succ]; done) | (simp only [putAll, Act.put, List.setIfInBounds_toArray, List.set_cons_zero, List.set_cons_succ]; rfl)) (hJ0_3_7 (v0_, v3_, .slice (some ⟨(W_).heap.size, 0, none⟩) m m) _ hN.to3)
              · skip
                rintro ⟨v0_, v2_⟩ W_ hQ_
                have hSep : Aside0 (Sep w W_ ((Row U8 5 (v2_) l) :: [])) := ⟨hQ_⟩
                clear hQ_
                have hHeld := trivial
                refine norm_ (a' := ?_) ?_ ?_
                rotate_left
                · simp only [putAll, Act.put, List.setIfInBounds_toArray, List.set_cons_zero, List.set_cons_succ]
                  rfl
                refine two_ (i := 3) (j := 7) (Ni := some 22) (Nj := some 26) #[J,J,J,J,J,Z,J,Z,Z,Z,Z] #[J,J,J,Z,J,Z,J,J,Z,Z,Z] rfl rfl rfl rfl (by kernel_rfl) (by decide) (by decide) (fun K hK => ?_) (fun K hK => ?_)
                · skip
                  refine value_ (w1 := ?_) (v := ?_) (by rfl) rfl ?_ ?_
                  rotate_left 2
                  · go_simp
                    constructor
                    · rfl
                    · rfl
                  have hN := (hSep.out).litRow (enc := Value.int .u8) (h1 := fun _ => rfl) (e := 5) [] (by decide)
                  refine hK.out _ _ trivial (fun hHeld => ?_)
                  clear hK K
                  refine norm_ (a' := ?_) ?_ ?_
                  rotate_left
                  · show Act.put _ (some 22) _ = _
                    simp only [aP]
                    rfl
                  exact norm_ (by first | (simp only [putAll, Act.put, List.setIfInBounds_toArray, List.set_cons_zero, List.set_cons_succ]; done) | (simp only [putAll, Act.put, List.setIfInBounds_toArray, List.set_cons_zero, List.set_cons_succ]; rfl)) (hJ0_2_3 (v0_, v2_, .slice (some ⟨(W_).heap.size, 0, none⟩) 0 0) _ hN.at2)
                · skip
                  refine value_ (w1 := ?_) (v := ?_) (by rfl) rfl ?_ ?_
                  rotate_left 2
                  · go_simp
                    constructor
                    · rfl
                    · rfl
                  have hN := madeT m (hSep.out) (by omega)
                  refine hK.out _ _ trivial (fun hHeld => ?_)
                  clear hK K
                  refine norm_ (a' := ?_) ?_ ?_
                  rotate_left
                  · show Act.put _ (some 26) _ = _
                    simp only [aP]
                    rfl
                  exact norm_ (by first | (simp only [putAll, Act.put, List.setIfInBounds_toArray, List.set_cons_zero, List.set_cons_succ]; done) | (simp only [putAll, Act.put, List.setIfInBounds_toArray, List.set_cons_zero, List.set_cons_succ]; rfl)) (hJ0_2_7 (v0_, v2_, .slice (some ⟨(W_).heap.size, 0, none⟩) m m) _ hN.at2)
            · skip
              rintro ⟨v0_, v3_, v7_⟩ W_ hQ_
              have hSep : Aside0 (Sep w W_ ((Row U8 5 (v0_) []) :: (Row U8 5 (v3_) []) :: (Row BK 4 (v7_) (List.replicate m false)) :: [])) := ⟨hQ_⟩
              clear hQ_
              have hHeld := trivial
              refine norm_ (a' := ?_) ?_ ?_
              rotate_left
              · simp only [putAll, Act.put, List.setIfInBounds_toArray, List.set_cons_zero, List.set_cons_succ]
                rfl
              refine one_ (i := 2) (N := some 21) #[J,J,J,J,J,Z,J,J,Z,Z,Z] rfl rfl (by kernel_rfl) (by decide) (fun K hK => ?_)
              refine ((hSep.out)).appendStep (by rfl) (.tmp 19) (.tmp 20) 24 (.int .u8 0) 1 rfl Tryz.underlying24 infoB rfl (by decide) A (64 * m) c (by rfl) (by rfl) (Kd.C_below AR.out ((hSep.out)).toBelow) (by simp only [List.length_nil]; rw [AL.out]; omega) ?_
              intro vn_ wn_ hN
              rw [List.nil_append] at hN
              refine hK.out _ _ trivial (fun hHeld => ?_)
              clear hK K
              refine norm_ (a' := ?_) ?_ ?_
              rotate_left
              · show Act.put _ (some 21) _ = _
                simp only [aP]
                rfl
              exact norm_ (by first | (simp only [putAll, Act.put, List.setIfInBounds_toArray, List.set_cons_zero, List.set_cons_succ]; done) | (simp only [putAll, Act.put, List.setIfInBounds_toArray, List.set_cons_zero, List.set_cons_succ]; rfl)) (hJ0_2_3_7 (v0_, vn_, v3_, v7_) _ hN)
          · skip
            rintro ⟨v0_, v2_, v7_⟩ W_ hQ_
            have hSep : Aside0 (Sep w W_ ((Row U8 5 (v2_) l) :: (Row BK 4 (v7_) (List.replicate m false)) :: [])) := ⟨hQ_⟩
            clear hQ_
            have hHeld := trivial
            refine norm_ (a' := ?_) ?_ ?_
            rotate_left
            · simp only [putAll, Act.put, List.setIfInBounds_toArray, List.set_cons_zero, List.set_cons_succ]
              rfl
            refine one_ (i := 3) (N := some 22) #[J,J,J,J,J,Z,J,J,Z,Z,Z] rfl rfl (by kernel_rfl) (by decide) (fun K hK => ?_)
            refine value_ (w1 := ?_) (v := ?_) (by rfl) rfl ?_ ?_
            rotate_left 2
            · go_simp
              constructor
              · rfl
              · rfl
            have hN := (hSep.out).litRow (enc := Value.int .u8) (h1 := fun _ => rfl) (e := 5) [] (by decide)
            refine hK.out _ _ trivial (fun hHeld => ?_)
            clear hK K
            refine norm_ (a' := ?_) ?_ ?_
            rotate_left
            · show Act.put _ (some 22) _ = _
              simp only [aP]
              rfl
            exact norm_ (by first | (simp only [putAll, Act.put, List.setIfInBounds_toArray, List.set_cons_zero, List.set_cons_succ]; done) | (simp only [putAll, Act.put, List.setIfInBounds_toArray, List.set_cons_zero, List.set_cons_succ]; rfl)) (hJ0_2_3_7 (v0_, v2_, .slice (some ⟨(W_).heap.size, 0, none⟩) 0 0, v7_) _ hN.at2)
        · skip
          rintro ⟨v0_, v2_, v3_⟩ W_ hQ_
          have hSep : Aside0 (Sep w W_ ((Row U8 5 (v2_) l) :: (Row U8 5 (v3_) []) :: [])) := ⟨hQ_⟩
          clear hQ_
          have hHeld := trivial
          refine norm_ (a' := ?_) ?_ ?_
          rotate_left
          · simp only [putAll, Act.put, List.setIfInBounds_toArray, List.set_cons_zero, List.set_cons_succ]
            rfl
          refine two_ (i := 5) (j := 7) (Ni := some 24) (Nj := some 26) #[J,J,J,J,J,J,J,Z,Z,Z,Z] #[J,J,J,J,J,Z,J,J,Z,Z,Z] rfl rfl rfl rfl (by kernel_rfl) (by decide) (by decide) (fun K hK => ?_) (fun K hK => ?_)
          · skip
            refine ((hSep.out).at2).appendStep (by rfl) (.tmp 22) (.tmp 23) 24 (.int .u8 0) 1 rfl Tryz.underlying24 infoB rfl (by decide) A (64 * m) c (by rfl) (by rfl) (Kd.C_below AR.out ((hSep.out).at2).toBelow) (by simp only [List.length_nil]; rw [AL.out]; omega) ?_
            intro vn_ wn_ hN
            rw [List.nil_append] at hN
            refine hK.out _ _ trivial (fun hHeld => ?_)
            clear hK K
            refine norm_ (a' := ?_) ?_ ?_
            rotate_left
            · show Act.put _ (some 24) _ = _
              simp only [aP]
              rfl
            exact norm_ (by first | (simp only [putAll, Act.put, List.setIfInBounds_toArray, List.set_cons_zero, List.set_cons_succ]; done) | (simp only [putAll, Act.put, List.setIfInBounds_toArray, List.set_cons_zero, List.set_cons_succ]; rfl)) (hJ0_2_3_5 (v0_, v2_, v3_, vn_) _ hN.at2)
          · skip
            refine value_ (w1 := ?_) (v := ?_) (by rfl) rfl ?_ ?_
            rotate_left 2
            · go_simp
              constructor
              · rfl
              · rfl
            have hN := madeT m (hSep.out) (by omega)
            refine hK.out _ _ trivial (fun hHeld => ?_)
            clear hK K
            refine norm_ (a' := ?_) ?_ ?_
            rotate_left
            · show Act.put _ (some 26) _ = _
              simp only [aP]
              rfl
            exact norm_ (by first | (simp only [putAll, Act.put, List.setIfInBounds_toArray, List.set_cons_zero, List.set_cons_succ]; done) | (simp only [putAll, Act.put, List.setIfInBounds_toArray, List.set_cons_zero, List.set_cons_succ]; rfl)) (hJ0_2_3_7 (v0_, v2_, v3_, .slice (some ⟨(W_).heap.size, 0, none⟩) m m) _ hN.to3)
      · skip
        rintro ⟨v0_, v2_, v3_, v7_⟩ W_ hQ_
        have hSep : Aside0 (Sep w W_ ((Row U8 5 (v2_) l) :: (Row U8 5 (v3_) []) :: (Row BK 4 (v7_) (List.replicate m false)) :: [])) := ⟨hQ_⟩
        clear hQ_
        have hHeld := trivial
        refine norm_ (a' := ?_) ?_ ?_
        rotate_left
        · simp only [putAll, Act.put, List.setIfInBounds_toArray, List.set_cons_zero, List.set_cons_succ]
          rfl
        refine one_ (i := 5) (N := some 24) #[J,J,J,J,J,J,J,J,Z,Z,Z] rfl rfl (by kernel_rfl) (by decide) (fun K hK => ?_)
        refine ((hSep.out).at2).appendStep (by rfl) (.tmp 22) (.tmp 23) 24 (.int .u8 0) 1 rfl Tryz.underlying24 infoB rfl (by decide) A (64 * m) c (by rfl) (by rfl) (Kd.C_below AR.out ((hSep.out).at2).toBelow) (by simp only [List.length_nil]; rw [AL.out]; omega) ?_
        intro vn_ wn_ hN
        rw [List.nil_append] at hN
        refine hK.out _ _ trivial (fun hHeld => ?_)
        clear hK K
        refine norm_ (a' := ?_) ?_ ?_
        rotate_left
        · show Act.put _ (some 24) _ = _
          simp only [aP]
          rfl
        exact norm_ (by first | (simp only [putAll, Act.put, List.setIfInBounds_toArray, List.set_cons_zero, List.set_cons_succ]; done) | (simp only [putAll, Act.put, List.setIfInBounds_toArray, List.set_cons_zero, List.set_cons_succ]; rfl)) (hJ0_2_3_5_7 (v0_, v2_, v3_, vn_, v7_) _ hN.at2)
    · skip
      rintro ⟨v0_, v2_, v3_, v5_⟩ W_ hQ_
      have hSep : Aside0 (Sep w W_ ((Row U8 5 (v2_) l) :: (Row U8 5 (v5_) l) :: [])) := ⟨hQ_⟩
      clear hQ_
      have hHeld := trivial
      refine norm_ (a' := ?_) ?_ ?_
      rotate_left
      · simp only [putAll, Act.put, List.setIfInBounds_toArray, List.set_cons_zero, List.set_cons_succ]
        rfl
      refine one_ (i := 7) (N := some 26) #[J,J,J,J,J,J,J,J,Z,Z,Z] rfl rfl (by kernel_rfl) (by decide) (fun K hK => ?_)
      refine value_ (w1 := ?_) (v := ?_) (by rfl) rfl ?_ ?_
      rotate_left 2
      · go_simp
        constructor
        · rfl
        · rfl
      have hN := madeT m (hSep.out) (by omega)
      refine hK.out _ _ trivial (fun hHeld => ?_)
      clear hK K
      refine norm_ (a' := ?_) ?_ ?_
      rotate_left
      · show Act.put _ (some 26) _ = _
        simp only [aP]
        rfl
      exact norm_ (by first | (simp only [putAll, Act.put, List.setIfInBounds_toArray, List.set_cons_zero, List.set_cons_succ]; done) | (simp only [putAll, Act.put, List.setIfInBounds_toArray, List.set_cons_zero, List.set_cons_succ]; rfl)) (hJ0_2_3_5_7 (v0_, v2_, v3_, v5_, .slice (some ⟨(W_).heap.size, 0, none⟩) m m) _ hN.to3)
  rintro ⟨v0_, v2_, v3_, v5_, v7_⟩ W_ hQ_
  have hSep : Aside0 (Sep w W_ ((Row U8 5 (v2_) l) :: (Row U8 5 (v5_) l) :: (Row BK 4 (v7_) (List.replicate m false)) :: [])) := ⟨hQ_⟩
  clear hQ_
  have hHeld := trivial
  obtain ⟨A2, c2, rfl⟩ := hSep.out.rowN AL.out
  obtain ⟨A5, c5, rfl⟩ := hSep.out.at2.rowN AL.out
  obtain ⟨A7, c7, rfl⟩ := hSep.out.at3.rowN (List.length_replicate ..)
  refine norm_ (a' := ?_) ?_ ?_
  rotate_left
  · simp only [putAll, Act.put, List.setIfInBounds_toArray, List.set_cons_zero, List.set_cons_succ]
    rfl
  refine pu_ 8 27 ?_ #[J,J,J,J,J,J,J,J,J,Z,Z] rfl rfl ?_ ?_ ?_ ?_
  rotate_left
  · intro w'
    go_simp
    with_reducible rfl
  rotate_left
  · simp only [aP]
    rfl
  refine one_ (i := 9) (N := some 28) #[J,J,J,J,J,J,J,J,J,J,Z] rfl rfl (by kernel_rfl) (by decide) (fun K hK => ?_)
  refine value_ (w1 := ?_) (v := ?_) (by rfl) rfl ?_ ?_
  rotate_left 2
  · go_simp
    constructor
    · rfl
    · rfl
  refine hK.out _ _ trivial (fun hHeld => ?_)
  clear hK K
  refine norm_ (a' := ?_) ?_ ?_
  rotate_left
  · show Act.put _ (some 28) _ = _
    simp only [aP]
    rfl
  refine pu_ 10 2 ?_ #[J,J,J,J,J,J,J,J,J,J,J] rfl rfl ?_ ?_ ?_ ?_
  rotate_left
  · intro w'
    go_simp
    with_reducible rfl
  rotate_left
  · simp only [aP]
    rfl
  refine done_ (by kernel_rfl) ?_
  go_wp2_with fail
  go_ret
  have h6 := hSep.out.newBlk 93 #[.slice A2 (64 * m) c2, .slice A5 (64 * m) c5, .slice A7 m c7, .int .i64 (-1), .int .i64 0]
  exact ⟨_, rfl, shut_ h1 h2 AL.out AL.out (List.length_replicate ..) h6⟩
end Go.Proofs.YtjngnigelkgekaaGreat.Ref
namespace Go.Proofs.YtjngnigelkgekaaGreat.Ref
open Go.RowKit Go.Proofs.YtjngnigelkgekaaGreatW.PrintWords Go.Proofs.YtjngnigelkgekaaGreatW.PrintLast Go.Proofs.YtjngnigelkgekaaGreatW.PrintMore Go.Proofs.YtjngnigelkgekaaGreat.Kit Go.Proofs.YtjngnigelkgekaaGreat.Disk
theorem cutF_ {g N c j : Nat} {J : Int} (hJ : J = (j : Int)) (hj : j < N) (hc : N ≤ c) : ∀ W : World, (Instr.slice 24 (.slice (some ⟨g, 0, none⟩) N c) (some (.int .i64 J)) none none).run Tryz.prog W = .ok (.slice (some ⟨g, j, none⟩) (N - j) (c - j)) W := by
  obtain ⟨i, hi, hz⟩ := Option.map_eq_some_iff.1 infoB
  simp only [Prod.mk.injEq] at hz
  have := cut_from (P := Tryz.prog) 24 5 .i64 Tryz.underlying24 hi 1 hz.2.1 (some ⟨g, 0, none⟩) N c J (by omega) (by omega)
  subst hJ
  rw [Int.toNat_natCast, if_neg (by omega)] at this
  intro W
  rw [this W]
  simp [Addr.add]
  try exact fun h => h.symm
theorem cutM_ {g N c j k : Nat} {J K : Int} (hJ : J = (j : Int)) (hK : K = (k : Int)) (hjk : j ≤ k) (hj : j < c) (hk : k ≤ N) (hc : N ≤ c) : ∀ W : World, (Instr.slice 24 (.slice (some ⟨g, 0, none⟩) N c) (some (.int .i64 J)) (some (.int .i64 K)) none).run Tryz.prog W = .ok (.slice (some ⟨g, j, none⟩) (k - j) (c - j)) W := by
  obtain ⟨i, hi, hz⟩ := Option.map_eq_some_iff.1 infoB
  simp only [Prod.mk.injEq] at hz
  have := cut_mid (P := Tryz.prog) 24 5 .i64 .i64 Tryz.underlying24 hi 1 hz.2.1 (some ⟨g, 0, none⟩) N c J K (by omega) (by omega) (by omega) hc
  subst hJ hK
  rw [Int.toNat_natCast, Int.toNat_natCast, if_neg (by omega)] at this
  intro W
  rw [this W]
  simp [Addr.add]
  try exact fun h => h.symm
section
variable {w0 W : World} {g n : Nat} {las now : List Int} {wait : List Bool} {left done : Int} {F : List HP}
set_option maxHeartbeats 400000 in
theorem write_out (h : Sep w0 W (RD g n las now wait left done :: F)) (i : Int) {A : Option Addr} {m c : Nat} (hm : m ≤ 9223372036854775807) (hi : ¬ (0 ≤ i ∧ i < (n : Int)) ∨ m ≠ 64) :
    Calls Tryz.prog 79 #[.pointer (some ⟨g, 0, none⟩), .int .i64 i, .slice A m c] W fun e w' => e = .returned (.bool false) ∧ W = w' := by
  have AS := Aside0.mk h
  have hm' : (m : Int) ≤ 9223372036854775807 := by omega
  clear h hm
  by_cases h1 : i < 0
  · clear hi
    go_enter Tryz.func79, Tryz.ntmps79
    go_wp2
    go_ret
    exact ⟨by first | rfl | (simp; done), rfl⟩
  · by_cases h2 : (n : Int) ≤ i
    · clear hi
      go_enter Tryz.func79, Tryz.ntmps79
      go_wp2_with fail
      refine (len_ AS.out).mono ?_
      rintro e w' ⟨rfl, rfl⟩
      go_wp2
      go_ret
      exact ⟨by first | rfl | (simp; done), rfl⟩
    · have h3 : ((m : Int) != 64) = true := by simp; omega
      have h4 : ¬ (m : Int) = 64 := by omega
      clear hi
      go_enter Tryz.func79, Tryz.ntmps79
      go_wp2_with fail
      refine (len_ AS.out).mono ?_
      rintro e w' ⟨rfl, rfl⟩
      go_wp2
      go_ret
      exact ⟨by first | rfl | (simp; done), rfl⟩
set_option maxHeartbeats 800000 in
theorem write_no (h : Sep w0 W (RD g n las now wait 0 done :: F)) (i : Nat) (hi : i < n) {A : Option Addr} {c : Nat} :
    Calls Tryz.prog 79 #[.pointer (some ⟨g, 0, none⟩), .int .i64 (i : Int), .slice A 64 c] W fun e w' => e = .returned (.bool true) ∧ W = w' := by
  have AS := Aside0.mk h
  have h1 : ¬ (i : Int) < 0 := by omega
  have h2 : ¬ (n : Int) ≤ (i : Int) := by omega
  clear h
  go_enter Tryz.func79, Tryz.ntmps79
  go_wp2_with fail
  refine (len_ AS.out).mono ?_
  rintro e w' ⟨rfl, rfl⟩
  go_wp2_with fail
  refine (deed_no AS.out).mono ?_
  rintro e w' ⟨rfl, rfl⟩
  go_wp2
  go_ret
  exact ⟨by first | rfl | (simp; done), rfl⟩
set_option maxHeartbeats 1600000 in
set_option maxRecDepth 100000 in
theorem write_in (h : Sep w0 W (RD g n las now wait left done :: F)) (h0 : left ≠ 0) (hl1 : -9223372036854775808 ≤ left ∧ left ≤ 9223372036854775807) (hd1 : 0 ≤ done ∧ done < 9223372036854775807) (i : Nat) (hi : i < n) {A : Option Addr} {c : Nat} {b : List Int} (hb : ∀ W', Sep w0 W' F → U8.C W' A 64 b) :
    Calls Tryz.prog 79 #[.pointer (some ⟨g, 0, none⟩), .int .i64 (i : Int), .slice A 64 c] W fun e w' => e = .returned (.bool true) ∧ Sep w0 w' (RD g n las (over now (64 * i) b) (wait.set i true) (leftF left) (done + 1) :: F) := by
  have AS := Aside0.mk h
  have HB := Aside0.mk hb
  have hbl : b.length = 64 := (hb W h.tail).1
  have HBL := Aside0.mk hbl
  have h1 : ¬ (i : Int) < 0 := by omega
  have h2 : ¬ (n : Int) ≤ (i : Int) := by omega
  clear h hb hbl
  go_enter Tryz.func79, Tryz.ntmps79
  go_wp2_with fail
  refine (len_ AS.out).mono ?_
  rintro e w' ⟨rfl, rfl⟩
  go_wp2_with fail
  refine (deed_yes AS.out h0 hl1 hd1).mono ?_
  rintro e w1 ⟨rfl, hS1⟩
  obtain ⟨gl, cl, gn, cn, gw, cw, ⟨n1, n2, n3, n4, n5, n6, n7, n8⟩, hs⟩ := open_ hS1
  have c1 : w1.cell? ⟨g, 1, none⟩ = some (.slice (some ⟨gn, 0, none⟩) (64 * n) cn) := by rw [hs.cell 1]; rfl
  have hcut := cutF_ (g := gn) (N := 64 * n) (c := cn) (j := 64 * i) (J := (i : Int) * 64) (by omega) (by omega) n7
  have AN := Aside0.mk (And.intro n3 (And.intro n4 n5))
  have A1 := Aside0.mk hs.at3
  have HC := Aside0.mk (HB.out w1 hs.tail.tail.tail.tail)
  clear hS1 hs AS n3 n4 n5 h0 hl1 hd1
  go_wp2_with (first | (refine gate_builtin (b := .copy) (xs := #[.tmp 28, .tmp 29]) rfl ?_; go_loud (refine A1.out.copyRow rfl (.tmp 28) (.tmp 29) rfl Tryz.underlying24 size1 (o := 64 * i) (n' := 64 * n - 64 * i) (c' := cn - 64 * i) (m := 64) (c := c) (A := A) (ys := b) rfl rfl HC.out (by omega) ?_; intro W2 hS2; have htk : b.take (64 * n - 64 * i) = b := List.take_of_length_le (by have := HBL.out; omega); rw [htk] at hS2; have hs2 := hS2.at2; have c2 : W2.cell? ⟨g, 2, none⟩ = some (.slice (some ⟨gw, 0, none⟩) n cw) := (hs2.cell 2).trans rfl; obtain ⟨f1, f2⟩ := hS2.at4.rowCell false i hi; have AS2 := Aside0.mk hS2; clear hS2 hs2 htk c1 hcut)))
  go_ret
  obtain ⟨n3, n4, n5⟩ := AN.out
  refine ⟨by first | rfl | (simp; done), ?_⟩
  exact shut_ n1 n2 n3 (by rw [over_len (by rw [HBL.out, n4]; omega), n4]) (by rw [List.length_set, n5]) ((AS2.out.at4.putRow i true).to4).to3
set_option maxHeartbeats 400000 in
theorem flush_no (h : Sep w0 W (RD g n las now wait 0 done :: F)) :
    Calls Tryz.prog 44 #[.pointer (some ⟨g, 0, none⟩)] W fun e w' => e = .returned (.tuple #[]) ∧ W = w' := by
  have AS := Aside0.mk h
  clear h
  go_enter Tryz.func44, Tryz.ntmps44
  go_wp2_with fail
  refine (deed_no AS.out).mono ?_
  rintro e w' ⟨rfl, rfl⟩
  go_wp2
  go_end0
  exact ⟨rfl, rfl⟩
theorem over_all {α : Type} {xs ys : List α} (h : ys.length = xs.length) : over xs 0 ys = ys := by
  apply List.ext_getElem?
  intro j
  rw [over_get (by omega)]
  by_cases hj : j < ys.length
  · rw [if_pos (by omega), Nat.sub_zero]
  · rw [if_neg (by omega), List.getElem?_eq_none (by omega), List.getElem?_eq_none (by omega)]
set_option maxHeartbeats 1600000 in
set_option maxRecDepth 100000 in
theorem flush_in (h : Sep w0 W (RD g n las now wait left done :: F)) (h0 : left ≠ 0) (hl1 : -9223372036854775808 ≤ left ∧ left ≤ 9223372036854775807) (hd1 : 0 ≤ done ∧ done < 9223372036854775807) :
    Calls Tryz.prog 44 #[.pointer (some ⟨g, 0, none⟩)] W fun e w' => e = .returned (.tuple #[]) ∧ Sep w0 w' (RD g n now now (List.replicate n false) (leftF left) (done + 1) :: F) := by
  have AS := Aside0.mk h
  clear h
  go_enter Tryz.func44, Tryz.ntmps44
  go_wp2_with fail
  refine (deed_yes AS.out h0 hl1 hd1).mono ?_
  rintro e w1 ⟨rfl, hS1⟩
  obtain ⟨gl, cl, gn, cn, gw, cw, ⟨n1, n2, n3, n4, n5, n6, n7, n8⟩, hs⟩ := open_ hS1
  have c0 : w1.drew.cell? ⟨g, 0, none⟩ = some (.slice (some ⟨gl, 0, none⟩) (64 * n) cl) := (hs.drew.cell 0).trans rfl
  have c1 : w1.drew.cell? ⟨g, 1, none⟩ = some (.slice (some ⟨gn, 0, none⟩) (64 * n) cn) := (hs.drew.cell 1).trans rfl
  have AN := Aside0.mk (And.intro n3 n4)
  have A1 := Aside0.mk hs.drew.at2
  have hmk := makeT (m := n) (by omega)
  clear hS1 hs AS n3 n4 n5 h0 hl1 hd1
  go_wp2_with fail
  refine start_ (n := 9) (S := fun w' => w'.cell? ⟨g, 0, none⟩ = some (.slice (some ⟨gl, 0, none⟩) (64 * n) cl) ∧ w'.cell? ⟨g, 1, none⟩ = some (.slice (some ⟨gn, 0, none⟩) (64 * n) cn)) (ds := [8]) #[Z,Z,Z,Z,Z,Z,Z,Z,Z] (by kernel_rfl) rfl rfl ⟨c0, c1⟩ (fun hHeld => ?_)
  refine pu_ 0 4 ?_ #[J,Z,Z,Z,Z,Z,Z,Z,Z] rfl rfl ?_ ?_ ?_ ?_
  rotate_left
  · intro w'
    go_simp
    with_reducible rfl
  rotate_left
  · simp only [aP]
    rfl
  refine pu_ 1 5 ?_ #[J,J,Z,Z,Z,Z,Z,Z,Z] rfl rfl ?_ ?_ ?_ ?_
  rotate_left
  · intro w'
    go_simp
    with_reducible rfl
  rotate_left
  · simp only [aP]
    rfl
  refine pu_ 2 6 ?_ #[J,J,J,Z,Z,Z,Z,Z,Z] rfl rfl ?_ ?_ ?_ ?_
  rotate_left
  · intro w'
    go_simp
    with_reducible rfl
  rotate_left
  · simp only [aP]
    rfl
  refine pu_ 4 8 ?_ #[J,J,J,Z,J,Z,Z,Z,Z] rfl rfl ?_ ?_ ?_ ?_
  rotate_left
  · intro w'
    go_simp
    with_reducible rfl
  rotate_left
  · simp only [aP]
    rfl
  refine pu_ 5 9 ?_ #[J,J,J,Z,J,J,Z,Z,Z] rfl rfl ?_ ?_ ?_ ?_
  rotate_left
  · intro w'
    go_simp
    with_reducible rfl
  rotate_left
  · simp only [aP]
    rfl
  refine pu_ 6 10 ?_ #[J,J,J,Z,J,J,J,Z,Z] rfl rfl ?_ ?_ ?_ ?_
  rotate_left
  · intro w'
    go_simp
    with_reducible rfl
  rotate_left
  · simp only [aP]
    rfl
  refine ta_ 3 7 ?_ #[J,J,J,J,J,J,J,Z,Z] rfl rfl ?_ hHeld ?_ ?_ ?_
  rotate_left
  · rintro w' ⟨s0, s1⟩
    go_simp
    with_reducible rfl
  rotate_left
  · simp only [aP]
    rfl
  refine ta_ 7 11 ?_ #[J,J,J,J,J,J,J,J,Z] rfl rfl ?_ hHeld ?_ ?_ ?_
  rotate_left
  · rintro w' ⟨s0, s1⟩
    go_simp
    with_reducible rfl
  rotate_left
  · simp only [aP]
    rfl
  refine last_ (i := 8) (N := some 12) #[J,J,J,J,J,J,J,J,J] rfl rfl (by kernel_rfl) (by decide) (fun K hK => ?_)
  have hCn : U8.C w1.drew (some ⟨gn, 0, none⟩) (64 * n) now := by have := A1.out.at3.rowC.2.2; rwa [AN.out.2] at this
  refine A1.out.copyStep (by rfl) (.tmp 7) (.tmp 11) rfl Tryz.underlying24 size1 (o := 0) (n' := 64 * n) (c' := cl) (m := 64 * n) (c := cn) (A := some ⟨gn, 0, none⟩) (ys := now) rfl rfl hCn (by omega) (fun W2 hS2 => ?_)
  rw [List.take_of_length_le (by rw [AN.out.2]; exact Nat.le_refl _), over_all (by rw [AN.out.1, AN.out.2])] at hS2
  have A2 := Aside0.mk hS2
  have c2 : W2.cell? ⟨g, 2, none⟩ = some (.slice (some ⟨gw, 0, none⟩) n cw) := (hS2.at2.cell 2).trans rfl
  have z2 := hS2.at2.frozen 2
  have A3 := Aside0.mk (madeT n hS2 (by omega))
  have c3 : (W2.alloc (.cells (madeCells #[.bool false] n) 4)).cell? ⟨g, 2, none⟩ = some (.slice (some ⟨gw, 0, none⟩) n cw) := (A3.out.at3.cell 2).trans rfl
  have z3 := A3.out.at3.frozen 2
  clear hS2 c0 c1 hCn
  refine hK.out _ _ ?_
  clear hK K
  refine norm_ (a' := ?_) ?_ ?_
  rotate_left
  · show Act.put _ (some 12) _ = _
    simp only [aP]
    rfl
  refine done_ (by kernel_rfl) ?_
  go_wp2_with fail
  go_end0
  refine ⟨rfl, ?_⟩
  have h5 := ((A3.out.at3.setBlk 2 (.slice (some ⟨W2.heap.size, 0, none⟩) n n)).at5.tail.at2).to4
  exact shut_ n1 n2 AN.out.2 AN.out.2 (List.length_replicate ..) h5
end
end Go.Proofs.YtjngnigelkgekaaGreat.Ref
namespace Go.Proofs.YtjngnigelkgekaaGreat.Ref
open Go.RowKit Go.Proofs.YtjngnigelkgekaaGreatW.PrintWords Go.Proofs.YtjngnigelkgekaaGreatW.PrintLast Go.Proofs.YtjngnigelkgekaaGreatW.PrintMore Go.Proofs.YtjngnigelkgekaaGreat.Kit Go.Proofs.YtjngnigelkgekaaGreat.Disk
section
variable {w0 W : World} {g n : Nat} {las now : List Int} {wait : List Bool} {left done : Int} {F : List HP}
set_option maxHeartbeats 400000 in
theorem read_out (h : Sep w0 W (RD g n las now wait left done :: F)) (i : Int) (hi : ¬ (0 ≤ i ∧ i < (n : Int))) :
    Calls Tryz.prog 109 #[.pointer (some ⟨g, 0, none⟩), .int .i64 i] W fun e w' => e = .returned (.tuple #[.slice none 0 0, .bool false]) ∧ W = w' := by
  have AS := Aside0.mk h
  clear h
  by_cases h1 : i < 0
  · clear hi
    go_enter Tryz.func109, Tryz.ntmps109
    go_wp2
    go_ret2
    exact ⟨by first | rfl | (simp; done), rfl⟩
  · have h2 : (n : Int) ≤ i := by omega
    clear hi
    go_enter Tryz.func109, Tryz.ntmps109
    go_wp2_with fail
    refine (len_ AS.out).mono ?_
    rintro e w' ⟨rfl, rfl⟩
    go_wp2
    go_ret2
    exact ⟨by first | rfl | (simp; done), rfl⟩
set_option maxHeartbeats 800000 in
set_option maxRecDepth 100000 in
theorem read_in (h : Sep w0 W (RD g n las now wait left done :: F)) (i : Nat) (hi : i < n) :
    Calls Tryz.prog 109 #[.pointer (some ⟨g, 0, none⟩), .int .i64 (i : Int)] W fun e w' => ∃ v, e = .returned (.tuple #[v, .bool true]) ∧ Sep w0 w' (Row U8 5 v (sec now i) :: RD g n las now wait left done :: F) := by
  obtain ⟨gl, cl, gn, cn, gw, cw, ⟨n1, n2, n3, n4, n5, n6, n7, n8⟩, hs⟩ := open_ h
  have c1 : (W.alloc (.cells #[] 5)).cell? ⟨g, 1, none⟩ = some (.slice (some ⟨gn, 0, none⟩) (64 * n) cn) := ((hs.alloc _).cell 1).trans rfl
  have hcut := cutM_ (g := gn) (N := 64 * n) (c := cn) (j := 64 * i) (k := 64 * i + 64) (J := (i : Int) * 64) (K := ((i : Int) + 1) * 64) (by omega) (by omega) (by omega) (by omega) (by omega) n7
  have hr := hs.tail.tail.rowC.2.2
  have AP := Aside0.mk (C_piece hr (64 * i) 64 (by omega))
  have AL := Aside0.mk (h.litRow (enc := Value.int .u8) (h1 := fun _ => rfl) (e := 5) [] (by decide))
  have AS := Aside0.mk h
  have h1 : ¬ (i : Int) < 0 := by omega
  have h2 : ¬ (n : Int) ≤ (i : Int) := by omega
  have h64 : 64 * i + 64 - 64 * i = 64 := by omega
  clear h hs hr n3 n4 n5 n6 n7 n8
  go_enter Tryz.func109, Tryz.ntmps109
  go_wp2_with fail
  refine (len_ AS.out).mono ?_
  rintro e w' ⟨rfl, rfl⟩
  go_wp2_with (first | (refine gate_builtin (b := .append) (xs := #[.tmp 14, .tmp 24]) rfl ?_; go_loud (refine AL.out.appendRow rfl (.tmp 14) (.tmp 24) 24 (.int .u8 0) 1 rfl Tryz.underlying24 infoB rfl (by decide) (some ⟨gn, 64 * i, none⟩) 64 (cn - 64 * i) rfl rfl (Kd.C_alloc AP.out _) (by simp; omega) ?_; intro v1 w1 hS1; rw [List.nil_append] at hS1; have A1 := Aside0.mk hS1; clear hS1)))
  go_ret2
  exact ⟨_, by first | rfl | (simp; done), A1.out⟩
def waitsI (wait : List Bool) (j : Nat) : List Int := ((List.range j).filter (fun i => wait.getD i false)).map (fun k : Nat => (k : Int))
theorem waitsI_succ (wait : List Bool) (j : Nat) : waitsI wait (j + 1) = waitsI wait j ++ if wait.getD j false then [(j : Int)] else [] := by
  unfold waitsI
  rw [List.range_succ, List.filter_append, List.map_append]
  congr 1
  have hp : ∀ p : Nat → Bool, ([j].filter p).map (fun k : Nat => (k : Int)) = if p j then [(j : Int)] else [] := fun p => by
    by_cases h : p j = true <;> simp [h]
  exact hp (fun i => wait.getD i false)
theorem waitsI_len (wait : List Bool) (j : Nat) : (waitsI wait j).length ≤ j := by
  unfold waitsI
  rw [List.length_map]
  have := List.length_filter_le (fun i => wait.getD i false) (List.range j)
  rwa [List.length_range] at this
set_option maxHeartbeats 1600000 in
set_option maxRecDepth 100000 in
theorem waits_ (h : Sep w0 W (RD g n las now wait left done :: F)) :
    Calls Tryz.prog 59 #[.pointer (some ⟨g, 0, none⟩)] W fun e w' => ∃ v, e = .returned v ∧ Sep w0 w' (Row I64 3 v (waitsI wait n) :: RD g n las now wait left done :: F) := by
  obtain ⟨gl, cl, gn, cn, gw, cw, ⟨n1, n2, n3, n4, n5, n6, n7, n8⟩, hs⟩ := open_ h
  have c2 : W.cell? ⟨g, 2, none⟩ = some (.slice (some ⟨gw, 0, none⟩) n cw) := (hs.cell 2).trans rfl
  have AN : Aside0 (Sep w0 W (Row I64 3 (.slice none 0 0) [] :: Blk g 93 _ :: _)) := ⟨hs.nilRow I64 3⟩
  have A3 := Aside0.mk (And.intro n3 (And.intro n4 n5))
  clear h hs n3 n4 n5
  go_enter Tryz.func59, Tryz.ntmps59
  go_wp2_with fail
  go_loopg [3, 10] n (fun k v p wr => ∃ i : Nat, p = .int .i64 (i : Int) ∧ i + k = n ∧ Sep w0 wr (Row I64 3 v (waitsI wait i) :: Blk g 93 #[.slice (some ⟨gl, 0, none⟩) (64 * n) cl, .slice (some ⟨gn, 0, none⟩) (64 * n) cn, .slice (some ⟨gw, 0, none⟩) n cw, .int .i64 left, .int .i64 done] ::
      Row U8 5 (.slice (some ⟨gl, 0, none⟩) (64 * n) cl) las :: Row U8 5 (.slice (some ⟨gn, 0, none⟩) (64 * n) cn) now :: Row BK 4 (.slice (some ⟨gw, 0, none⟩) n cw) wait :: F))
  case atStart => exact ⟨0, rfl, by omega, AN.out⟩
  case round =>
    obtain ⟨i, rfl, hik, hS⟩ := hrel
    have AR := Aside0.mk hS
    have AK := Aside0.mk hik
    by_cases hi : i < n
    · have d2 : wr.cell? ⟨g, 2, none⟩ = some (.slice (some ⟨gw, 0, none⟩) n cw) := (hS.at2.cell 2).trans rfl
      obtain ⟨f1, f2⟩ := hS.at5.rowCell false i hi
      have hks := waitsI_succ wait i
      have hkl := waitsI_len wait i
      clear hS hik c2 f2
      cases hb : wait.getD i false with
      | false =>
        rw [hb] at f1
        rw [hb, if_neg (by decide), List.append_nil] at hks
        have AKS := Aside0.mk hks
        clear hks hb
        go_wp2_with fail
        go_roundg (gk - 1)
        case measure => have := AK.out; omega
        case rel => exact ⟨i + 1, by go_num, by have := AK.out; omega, by rw [AKS.out]; exact AR.out⟩
      | true =>
        rw [hb] at f1
        rw [hb, if_pos rfl] at hks
        have AKS := Aside0.mk hks
        have AKL := Aside0.mk hkl
        have AR2 := Aside0.mk (AR.out.litRow (enc := Value.int .i64) (h1 := fun _ => rfl) (e := 3) [(i : Int)] (by simp)).at2
        clear hks hb hkl
        go_wp2_with (first | (refine gate_builtin (b := .append) (xs := #[.tmp 20, .tmp 22]) rfl ?_; go_loud (refine AR2.out.appendRow rfl (.tmp 20) (.tmp 22) 22 (.int .i64 0) 8 rfl Tryz.underlying22 (by kernel_rfl) rfl (by omega) (some ⟨wr.heap.size, 0, none⟩) 1 1 rfl rfl AR2.out.at2.rowC.2.2 (by have := AKL.out; simp; omega) ?_; intro v1 w2 hS2; have AS2 := Aside0.mk hS2; clear hS2)))
        go_roundg (gk - 1)
        case measure => have := AK.out; omega
        case rel => exact ⟨i + 1, by go_num, by have := AK.out; omega, by rw [AKS.out]; exact AS2.out.drop2⟩
    · have hin : i = n := by omega
      subst hin
      clear hS hik c2
      go_wp2_with fail
      go_ret
      obtain ⟨n3, n4, n5⟩ := A3.out
      exact ⟨_, rfl, (shut_ n1 n2 n3 n4 n5 ((AR.out).to5)).at2⟩
end
end Go.Proofs.YtjngnigelkgekaaGreat.Ref
