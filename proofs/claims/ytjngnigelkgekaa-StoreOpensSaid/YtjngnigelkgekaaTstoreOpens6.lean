/- Ref2, Ref3, Ref4, Ref5, Same, Ref6, Play: what StoreOpens needs. -/
import Derived.Test.YtjngnigelkgekaaTstoreOpens5
import Derived.Deep.Cut
import Derived.Deep.CutRange
import Derived.Deep.QuietTactic
namespace Go.Proofs.Ytjngnigelkgekaa.Ref
set_option linter.unusedVariables false
set_option linter.unusedSimpArgs false
open Go.RowKit Go.Proofs.YtjngnigelkgekaaW.PrintWords Go.Proofs.YtjngnigelkgekaaW.PrintLast Go.Proofs.YtjngnigelkgekaaW.PrintMore Go.Proofs.Ytjngnigelkgekaa.Kit Go.Proofs.Ytjngnigelkgekaa.Disk
theorem madeT {w0 W : World} {F : List HP} (m : Nat) (h : Sep w0 W F) (hm : m ≤ 100000) : Sep w0 (W.alloc (.cells (madeCells #[.bool false] m) 4)) (Row BK 4 (.slice (some ⟨W.heap.size, 0, none⟩) m m) (List.replicate m false) :: F) :=
  h.madeRow (h1 := fun _ => rfl) (e := 4) (enc := Value.bool) false m (by omega)
theorem makeT {m : Nat} (hm : m ≤ 100000) : ∀ W : World, (Instr.makeSlice 142 (.int .i64 (m : Int)) (.int .i64 (m : Int))).run Try.prog W = .ok (.slice (some ⟨W.heap.size, 0, none⟩) m m) (W.alloc (.cells (madeCells #[.bool false] m) 4)) := by
  exact print_make_of (P := Try.prog) 142 4 (.bool false) 1 Try.underlying142 infoT rfl (by decide) m (by omega)
set_option maxHeartbeats 1600000 in
set_option maxRecDepth 100000 in
theorem of_ok {A : Option Addr} {k m c : Nat} {l : List Int} {w : World} (hr : U8.C w A k l) (hk : k = 64 * m) (h1 : 1 ≤ m) (h2 : m ≤ 160) :
    Calls Try.prog 96 #[.slice A k c] w fun e w' => ∃ g, e = .returned (.pointer (some ⟨g, 0, none⟩)) ∧ Sep w w' [RD g m l l (List.replicate m false) (-1) 0] := by
  subst hk
  have hd : (64 * (m : Int)).tdiv 64 = (m : Int) := Int.mul_tdiv_cancel_left _ (by decide)
  have hm : (64 * (m : Int)).tmod 64 = 0 := Int.mul_tmod_right _ _
  have hmk := makeT (m := m) (by omega)
  have AR := Aside0.mk hr
  have hll := hr.1
  have AL := Aside0.mk hll
  clear hr hll
  go_enter Try.func96, Try.ntmps96
  go_wp2_with fail
  refine start_ (n := 11) (S := fun w' => True) (ds := []) #[false, false, false, false, false, false, false, false, false, false, false] (by kernel_rfl) rfl rfl trivial (fun hHeld => ?_)
  refine pure_ (i := 1) (N := some 20) (v := ?_) (a' := ?_) #[false, true, false, false, false, false, false, false, false, false, false] rfl rfl (by kernel_rfl) (fun _ _ _ h => h) (Or.inl ⟨by rfl, ?_⟩) ?_ ?_
  rotate_left
  · intro w'
    go_simp
    with_reducible rfl
  rotate_left
  · simp only [Act.put, List.setIfInBounds_toArray, List.set_cons_zero, List.set_cons_succ, i64_w, i32_w]
    rfl
  refine pure_ (i := 4) (N := some 23) (v := ?_) (a' := ?_) #[false, true, false, false, true, false, false, false, false, false, false] rfl rfl (by kernel_rfl) (fun _ _ _ h => h) (Or.inl ⟨by rfl, ?_⟩) ?_ ?_
  rotate_left
  · intro w'
    go_simp
    with_reducible rfl
  rotate_left
  · simp only [Act.put, List.setIfInBounds_toArray, List.set_cons_zero, List.set_cons_succ, i64_w, i32_w]
    rfl
  refine pure_ (i := 6) (N := some 25) (v := ?_) (a' := ?_) #[false, true, false, false, true, false, true, false, false, false, false] rfl rfl (by kernel_rfl) (fun _ _ _ h => h) (Or.inl ⟨by rfl, ?_⟩) ?_ ?_
  rotate_left
  · intro w'
    go_simp
    with_reducible rfl
  rotate_left
  · simp only [Act.put, List.setIfInBounds_toArray, List.set_cons_zero, List.set_cons_succ, i64_w, i32_w]
    rfl
  refine join_ (σ := Value × Value × Value × Value × Value) 3 #[true, true, true, true, true, true, true, true, false, false, false] (fun s_ => [(19, s_.1), (21, s_.2.1), (22, s_.2.2.1), (24, s_.2.2.2.1), (26, s_.2.2.2.2)]) (fun s_ w' => Sep w w' ((Row U8 5 (s_.2.1) l) :: (Row U8 5 (s_.2.2.2.1) l) :: (Row BK 4 (s_.2.2.2.2) (List.replicate m false)) :: [])) ?_ ?_
  rotate_left
  · intro hJ0_2_3_5_7
    refine join_ (σ := Value × Value × Value × Value) 4 #[true, true, true, true, true, true, true, false, false, false, false] (fun s_ => [(19, s_.1), (21, s_.2.1), (22, s_.2.2.1), (24, s_.2.2.2)]) (fun s_ w' => Sep w w' ((Row U8 5 (s_.2.1) l) :: (Row U8 5 (s_.2.2.2) l) :: [])) ?_ ?_
    rotate_left
    · intro hJ0_2_3_5
      refine join_ (σ := Value × Value × Value × Value) 4 #[true, true, true, true, true, false, true, true, false, false, false] (fun s_ => [(19, s_.1), (21, s_.2.1), (22, s_.2.2.1), (26, s_.2.2.2)]) (fun s_ w' => Sep w w' ((Row U8 5 (s_.2.1) l) :: (Row U8 5 (s_.2.2.1) []) :: (Row BK 4 (s_.2.2.2) (List.replicate m false)) :: [])) ?_ ?_
      rotate_left
      · intro hJ0_2_3_7
        refine join_ (σ := Value × Value × Value) 5 #[true, true, true, true, true, false, true, false, false, false, false] (fun s_ => [(19, s_.1), (21, s_.2.1), (22, s_.2.2)]) (fun s_ w' => Sep w w' ((Row U8 5 (s_.2.1) l) :: (Row U8 5 (s_.2.2) []) :: [])) ?_ ?_
        rotate_left
        · intro hJ0_2_3
          refine join_ (σ := Value × Value × Value) 5 #[true, true, true, false, true, false, true, true, false, false, false] (fun s_ => [(19, s_.1), (21, s_.2.1), (26, s_.2.2)]) (fun s_ w' => Sep w w' ((Row U8 5 (s_.2.1) l) :: (Row BK 4 (s_.2.2) (List.replicate m false)) :: [])) ?_ ?_
          rotate_left
          · intro hJ0_2_7
            refine join_ (σ := Value × Value × Value) 5 #[true, true, false, true, true, false, true, true, false, false, false] (fun s_ => [(19, s_.1), (22, s_.2.1), (26, s_.2.2)]) (fun s_ w' => Sep w w' ((Row U8 5 (s_.1) []) :: (Row U8 5 (s_.2.1) []) :: (Row BK 4 (s_.2.2) (List.replicate m false)) :: [])) ?_ ?_
            rotate_left
            · intro hJ0_3_7
              refine join_ (σ := Value × Value) 6 #[true, true, true, false, true, false, true, false, false, false, false] (fun s_ => [(19, s_.1), (21, s_.2)]) (fun s_ w' => Sep w w' ((Row U8 5 (s_.2) l) :: [])) ?_ ?_
              rotate_left
              · intro hJ0_2
                refine join_ (σ := Value × Value) 6 #[true, true, false, true, true, false, true, false, false, false, false] (fun s_ => [(19, s_.1), (22, s_.2)]) (fun s_ w' => Sep w w' ((Row U8 5 (s_.1) []) :: (Row U8 5 (s_.2) []) :: [])) ?_ ?_
                rotate_left
                · intro hJ0_3
                  refine join_ (σ := Value × Value) 6 #[true, true, false, false, true, false, true, true, false, false, false] (fun s_ => [(19, s_.1), (26, s_.2)]) (fun s_ w' => Sep w w' ((Row U8 5 (s_.1) []) :: (Row BK 4 (s_.2) (List.replicate m false)) :: [])) ?_ ?_
                  rotate_left
                  · intro hJ0_7
                    refine join_ (σ := Value × Value) 6 #[false, true, false, true, true, false, true, true, false, false, false] (fun s_ => [(22, s_.1), (26, s_.2)]) (fun s_ w' => Sep w w' ((Row U8 5 (s_.1) []) :: (Row BK 4 (s_.2) (List.replicate m false)) :: [])) ?_ ?_
                    rotate_left
                    · intro hJ3_7
                      refine join_ (σ := Value) 7 #[true, true, false, false, true, false, true, false, false, false, false] (fun s_ => [(19, s_)]) (fun s_ w' => Sep w w' ((Row U8 5 (s_) []) :: [])) ?_ ?_
                      rotate_left
                      · intro hJ0
                        refine join_ (σ := Value) 7 #[false, true, false, true, true, false, true, false, false, false, false] (fun s_ => [(22, s_)]) (fun s_ w' => Sep w w' ((Row U8 5 (s_) []) :: [])) ?_ ?_
                        rotate_left
                        · intro hJ3
                          refine join_ (σ := Value) 7 #[false, true, false, false, true, false, true, true, false, false, false] (fun s_ => [(26, s_)]) (fun s_ w' => Sep w w' ((Row BK 4 (s_) (List.replicate m false)) :: [])) ?_ ?_
                          rotate_left
                          · intro hJ7
                            refine three_ (i := 0) (j := 3) (k := 7) (Ni := some 19) (Nj := some 22) (Nk := some 26) #[true, true, false, false, true, false, true, false, false, false, false] #[false, true, false, true, true, false, true, false, false, false, false] #[false, true, false, false, true, false, true, true, false, false, false] rfl rfl rfl rfl rfl rfl (by kernel_rfl) (by decide) (by decide) (by decide) (fun K hK => ?_) (fun K hK => ?_) (fun K hK => ?_)
                            · skip
                              refine value_ (w1 := ?_) (v := ?_) (by rfl) rfl ?_ ?_
                              rotate_left 2
                              · go_simp
                                constructor
                                · rfl
                                · rfl
                              have hN := ((Sep.start w).drew).litRow (enc := Value.int .u8) (h1 := fun _ => rfl) (e := 5) [] (by decide)
                              refine hK.out _ _ trivial (fun hHeld => ?_)
                              clear hK K
                              refine norm_ (a' := ?_) ?_ ?_
                              rotate_left
                              · show Act.put _ (some 19) _ = _
                                simp only [Act.put, List.setIfInBounds_toArray, List.set_cons_zero, List.set_cons_succ, i64_w, i32_w]
                                rfl
                              exact norm_ (by first | (simp only [putAll, Act.put, List.setIfInBounds_toArray, List.set_cons_zero, List.set_cons_succ]; done) | (simp only [putAll, Act.put, List.setIfInBounds_toArray, List.set_cons_zero, List.set_cons_succ]; rfl)) (hJ0 (.slice (some ⟨(w.drew).heap.size, 0, none⟩) 0 0) _ hN)
                            · skip
                              refine value_ (w1 := ?_) (v := ?_) (by rfl) rfl ?_ ?_
                              rotate_left 2
                              · go_simp
                                constructor
                                · rfl
                                · rfl
                              have hN := ((Sep.start w).drew).litRow (enc := Value.int .u8) (h1 := fun _ => rfl) (e := 5) [] (by decide)
                              refine hK.out _ _ trivial (fun hHeld => ?_)
                              clear hK K
                              refine norm_ (a' := ?_) ?_ ?_
                              rotate_left
                              · show Act.put _ (some 22) _ = _
                                simp only [Act.put, List.setIfInBounds_toArray, List.set_cons_zero, List.set_cons_succ, i64_w, i32_w]
                                rfl
                              exact norm_ (by first | (simp only [putAll, Act.put, List.setIfInBounds_toArray, List.set_cons_zero, List.set_cons_succ]; done) | (simp only [putAll, Act.put, List.setIfInBounds_toArray, List.set_cons_zero, List.set_cons_succ]; rfl)) (hJ3 (.slice (some ⟨(w.drew).heap.size, 0, none⟩) 0 0) _ hN)
                            · skip
                              refine value_ (w1 := ?_) (v := ?_) (by rfl) rfl ?_ ?_
                              rotate_left 2
                              · go_simp
                                constructor
                                · rfl
                                · rfl
                              have hN := madeT m ((Sep.start w).drew) (by omega)
                              refine hK.out _ _ trivial (fun hHeld => ?_)
                              clear hK K
                              refine norm_ (a' := ?_) ?_ ?_
                              rotate_left
                              · show Act.put _ (some 26) _ = _
                                simp only [Act.put, List.setIfInBounds_toArray, List.set_cons_zero, List.set_cons_succ, i64_w, i32_w]
                                rfl
                              exact norm_ (by first | (simp only [putAll, Act.put, List.setIfInBounds_toArray, List.set_cons_zero, List.set_cons_succ]; done) | (simp only [putAll, Act.put, List.setIfInBounds_toArray, List.set_cons_zero, List.set_cons_succ]; rfl)) (hJ7 (.slice (some ⟨(w.drew).heap.size, 0, none⟩) m m) _ hN)
                          · skip
                            rintro v7_ W_ hQ_
                            have hSep : Aside0 (Sep w W_ ((Row BK 4 (v7_) (List.replicate m false)) :: [])) := ⟨hQ_⟩
                            clear hQ_
                            have hHeld := trivial
                            refine norm_ (a' := ?_) ?_ ?_
                            rotate_left
                            · simp only [putAll, Act.put, List.setIfInBounds_toArray, List.set_cons_zero, List.set_cons_succ]
                              rfl
                            refine two_ (i := 0) (j := 3) (Ni := some 19) (Nj := some 22) #[true, true, false, false, true, false, true, true, false, false, false] #[false, true, false, true, true, false, true, true, false, false, false] rfl rfl rfl rfl (by kernel_rfl) (by decide) (by decide) (fun K hK => ?_) (fun K hK => ?_)
                            · skip
                              refine value_ (w1 := ?_) (v := ?_) (by rfl) rfl ?_ ?_
                              rotate_left 2
                              · go_simp
                                constructor
                                · rfl
                                · rfl
                              have hN := (hSep.out).litRow (enc := Value.int .u8) (h1 := fun _ => rfl) (e := 5) [] (by decide)
                              refine hK.out _ _ trivial (fun hHeld => ?_)
                              clear hK K
                              refine norm_ (a' := ?_) ?_ ?_
                              rotate_left
                              · show Act.put _ (some 19) _ = _
                                simp only [Act.put, List.setIfInBounds_toArray, List.set_cons_zero, List.set_cons_succ, i64_w, i32_w]
                                rfl
                              exact norm_ (by first | (simp only [putAll, Act.put, List.setIfInBounds_toArray, List.set_cons_zero, List.set_cons_succ]; done) | (simp only [putAll, Act.put, List.setIfInBounds_toArray, List.set_cons_zero, List.set_cons_succ]; rfl)) (hJ0_7 (.slice (some ⟨(W_).heap.size, 0, none⟩) 0 0, v7_) _ hN)
                            · skip
                              refine value_ (w1 := ?_) (v := ?_) (by rfl) rfl ?_ ?_
                              rotate_left 2
                              · go_simp
                                constructor
                                · rfl
                                · rfl
                              have hN := (hSep.out).litRow (enc := Value.int .u8) (h1 := fun _ => rfl) (e := 5) [] (by decide)
                              refine hK.out _ _ trivial (fun hHeld => ?_)
                              clear hK K
                              refine norm_ (a' := ?_) ?_ ?_
                              rotate_left
                              · show Act.put _ (some 22) _ = _
                                simp only [Act.put, List.setIfInBounds_toArray, List.set_cons_zero, List.set_cons_succ, i64_w, i32_w]
                                rfl
                              exact norm_ (by first | (simp only [putAll, Act.put, List.setIfInBounds_toArray, List.set_cons_zero, List.set_cons_succ]; done) | (simp only [putAll, Act.put, List.setIfInBounds_toArray, List.set_cons_zero, List.set_cons_succ]; rfl)) (hJ3_7 (.slice (some ⟨(W_).heap.size, 0, none⟩) 0 0, v7_) _ hN)
                        · skip
                          rintro v3_ W_ hQ_
                          have hSep : Aside0 (Sep w W_ ((Row U8 5 (v3_) []) :: [])) := ⟨hQ_⟩
                          clear hQ_
                          have hHeld := trivial
                          refine norm_ (a' := ?_) ?_ ?_
                          rotate_left
                          · simp only [putAll, Act.put, List.setIfInBounds_toArray, List.set_cons_zero, List.set_cons_succ]
                            rfl
                          refine two_ (i := 0) (j := 7) (Ni := some 19) (Nj := some 26) #[true, true, false, true, true, false, true, false, false, false, false] #[false, true, false, true, true, false, true, true, false, false, false] rfl rfl rfl rfl (by kernel_rfl) (by decide) (by decide) (fun K hK => ?_) (fun K hK => ?_)
                          · skip
                            refine value_ (w1 := ?_) (v := ?_) (by rfl) rfl ?_ ?_
                            rotate_left 2
                            · go_simp
                              constructor
                              · rfl
                              · rfl
                            have hN := (hSep.out).litRow (enc := Value.int .u8) (h1 := fun _ => rfl) (e := 5) [] (by decide)
                            refine hK.out _ _ trivial (fun hHeld => ?_)
                            clear hK K
                            refine norm_ (a' := ?_) ?_ ?_
                            rotate_left
                            · show Act.put _ (some 19) _ = _
                              simp only [Act.put, List.setIfInBounds_toArray, List.set_cons_zero, List.set_cons_succ, i64_w, i32_w]
                              rfl
                            exact norm_ (by first | (simp only [putAll, Act.put, List.setIfInBounds_toArray, List.set_cons_zero, List.set_cons_succ]; done) | (simp only [putAll, Act.put, List.setIfInBounds_toArray, List.set_cons_zero, List.set_cons_succ]; rfl)) (hJ0_3 (.slice (some ⟨(W_).heap.size, 0, none⟩) 0 0, v3_) _ hN)
                          · skip
                            refine value_ (w1 := ?_) (v := ?_) (by rfl) rfl ?_ ?_
                            rotate_left 2
                            · go_simp
                              constructor
                              · rfl
                              · rfl
                            have hN := madeT m (hSep.out) (by omega)
                            refine hK.out _ _ trivial (fun hHeld => ?_)
                            clear hK K
                            refine norm_ (a' := ?_) ?_ ?_
                            rotate_left
                            · show Act.put _ (some 26) _ = _
                              simp only [Act.put, List.setIfInBounds_toArray, List.set_cons_zero, List.set_cons_succ, i64_w, i32_w]
                              rfl
                            exact norm_ (by first | (simp only [putAll, Act.put, List.setIfInBounds_toArray, List.set_cons_zero, List.set_cons_succ]; done) | (simp only [putAll, Act.put, List.setIfInBounds_toArray, List.set_cons_zero, List.set_cons_succ]; rfl)) (hJ3_7 (v3_, .slice (some ⟨(W_).heap.size, 0, none⟩) m m) _ hN.at2)
                      · skip
                        rintro v0_ W_ hQ_
                        have hSep : Aside0 (Sep w W_ ((Row U8 5 (v0_) []) :: [])) := ⟨hQ_⟩
                        clear hQ_
                        have hHeld := trivial
                        refine norm_ (a' := ?_) ?_ ?_
                        rotate_left
                        · simp only [putAll, Act.put, List.setIfInBounds_toArray, List.set_cons_zero, List.set_cons_succ]
                          rfl
                        refine three_ (i := 2) (j := 3) (k := 7) (Ni := some 21) (Nj := some 22) (Nk := some 26) #[true, true, true, false, true, false, true, false, false, false, false] #[true, true, false, true, true, false, true, false, false, false, false] #[true, true, false, false, true, false, true, true, false, false, false] rfl rfl rfl rfl rfl rfl (by kernel_rfl) (by decide) (by decide) (by decide) (fun K hK => ?_) (fun K hK => ?_) (fun K hK => ?_)
                        · skip
                          refine ((hSep.out)).appendStep (by rfl) (.tmp 19) (.tmp 20) 30 (.int .u8 0) 1 rfl Try.underlying30 infoB rfl (by decide) A (64 * m) c (by rfl) (by rfl) (Kd.C_below AR.out ((hSep.out)).toBelow) (by simp only [List.length_nil]; rw [AL.out]; omega) ?_
                          intro vn_ wn_ hN
                          rw [List.nil_append] at hN
                          refine hK.out _ _ trivial (fun hHeld => ?_)
                          clear hK K
                          refine norm_ (a' := ?_) ?_ ?_
                          rotate_left
                          · show Act.put _ (some 21) _ = _
                            simp only [Act.put, List.setIfInBounds_toArray, List.set_cons_zero, List.set_cons_succ, i64_w, i32_w]
                            rfl
                          exact norm_ (by first | (simp only [putAll, Act.put, List.setIfInBounds_toArray, List.set_cons_zero, List.set_cons_succ]; done) | (simp only [putAll, Act.put, List.setIfInBounds_toArray, List.set_cons_zero, List.set_cons_succ]; rfl)) (hJ0_2 (v0_, vn_) _ hN)
                        · skip
                          refine value_ (w1 := ?_) (v := ?_) (by rfl) rfl ?_ ?_
                          rotate_left 2
                          · go_simp
                            constructor
                            · rfl
                            · rfl
                          have hN := (hSep.out).litRow (enc := Value.int .u8) (h1 := fun _ => rfl) (e := 5) [] (by decide)
                          refine hK.out _ _ trivial (fun hHeld => ?_)
                          clear hK K
                          refine norm_ (a' := ?_) ?_ ?_
                          rotate_left
                          · show Act.put _ (some 22) _ = _
                            simp only [Act.put, List.setIfInBounds_toArray, List.set_cons_zero, List.set_cons_succ, i64_w, i32_w]
                            rfl
                          exact norm_ (by first | (simp only [putAll, Act.put, List.setIfInBounds_toArray, List.set_cons_zero, List.set_cons_succ]; done) | (simp only [putAll, Act.put, List.setIfInBounds_toArray, List.set_cons_zero, List.set_cons_succ]; rfl)) (hJ0_3 (v0_, .slice (some ⟨(W_).heap.size, 0, none⟩) 0 0) _ hN.at2)
                        · skip
                          refine value_ (w1 := ?_) (v := ?_) (by rfl) rfl ?_ ?_
                          rotate_left 2
                          · go_simp
                            constructor
                            · rfl
                            · rfl
                          have hN := madeT m (hSep.out) (by omega)
                          refine hK.out _ _ trivial (fun hHeld => ?_)
                          clear hK K
                          refine norm_ (a' := ?_) ?_ ?_
                          rotate_left
                          · show Act.put _ (some 26) _ = _
                            simp only [Act.put, List.setIfInBounds_toArray, List.set_cons_zero, List.set_cons_succ, i64_w, i32_w]
                            rfl
                          exact norm_ (by first | (simp only [putAll, Act.put, List.setIfInBounds_toArray, List.set_cons_zero, List.set_cons_succ]; done) | (simp only [putAll, Act.put, List.setIfInBounds_toArray, List.set_cons_zero, List.set_cons_succ]; rfl)) (hJ0_7 (v0_, .slice (some ⟨(W_).heap.size, 0, none⟩) m m) _ hN.at2)
                    · skip
                      rintro ⟨v3_, v7_⟩ W_ hQ_
                      have hSep : Aside0 (Sep w W_ ((Row U8 5 (v3_) []) :: (Row BK 4 (v7_) (List.replicate m false)) :: [])) := ⟨hQ_⟩
                      clear hQ_
                      have hHeld := trivial
                      refine norm_ (a' := ?_) ?_ ?_
                      rotate_left
                      · simp only [putAll, Act.put, List.setIfInBounds_toArray, List.set_cons_zero, List.set_cons_succ]
                        rfl
                      refine one_ (i := 0) (N := some 19) #[true, true, false, true, true, false, true, true, false, false, false] rfl rfl (by kernel_rfl) (by decide) (fun K hK => ?_)
                      refine value_ (w1 := ?_) (v := ?_) (by rfl) rfl ?_ ?_
                      rotate_left 2
                      · go_simp
                        constructor
                        · rfl
                        · rfl
                      have hN := (hSep.out).litRow (enc := Value.int .u8) (h1 := fun _ => rfl) (e := 5) [] (by decide)
                      refine hK.out _ _ trivial (fun hHeld => ?_)
                      clear hK K
                      refine norm_ (a' := ?_) ?_ ?_
                      rotate_left
                      · show Act.put _ (some 19) _ = _
                        simp only [Act.put, List.setIfInBounds_toArray, List.set_cons_zero, List.set_cons_succ, i64_w, i32_w]
                        rfl
                      exact norm_ (by first | (simp only [putAll, Act.put, List.setIfInBounds_toArray, List.set_cons_zero, List.set_cons_succ]; done) | (simp only [putAll, Act.put, List.setIfInBounds_toArray, List.set_cons_zero, List.set_cons_succ]; rfl)) (hJ0_3_7 (.slice (some ⟨(W_).heap.size, 0, none⟩) 0 0, v3_, v7_) _ hN)
                  · skip
                    rintro ⟨v0_, v7_⟩ W_ hQ_
                    have hSep : Aside0 (Sep w W_ ((Row U8 5 (v0_) []) :: (Row BK 4 (v7_) (List.replicate m false)) :: [])) := ⟨hQ_⟩
                    clear hQ_
                    have hHeld := trivial
                    refine norm_ (a' := ?_) ?_ ?_
                    rotate_left
                    · simp only [putAll, Act.put, List.setIfInBounds_toArray, List.set_cons_zero, List.set_cons_succ]
                      rfl
                    refine two_ (i := 2) (j := 3) (Ni := some 21) (Nj := some 22) #[true, true, true, false, true, false, true, true, false, false, false] #[true, true, false, true, true, false, true, true, false, false, false] rfl rfl rfl rfl (by kernel_rfl) (by decide) (by decide) (fun K hK => ?_) (fun K hK => ?_)
                    · skip
                      refine ((hSep.out)).appendStep (by rfl) (.tmp 19) (.tmp 20) 30 (.int .u8 0) 1 rfl Try.underlying30 infoB rfl (by decide) A (64 * m) c (by rfl) (by rfl) (Kd.C_below AR.out ((hSep.out)).toBelow) (by simp only [List.length_nil]; rw [AL.out]; omega) ?_
                      intro vn_ wn_ hN
                      rw [List.nil_append] at hN
                      refine hK.out _ _ trivial (fun hHeld => ?_)
                      clear hK K
                      refine norm_ (a' := ?_) ?_ ?_
                      rotate_left
                      · show Act.put _ (some 21) _ = _
                        simp only [Act.put, List.setIfInBounds_toArray, List.set_cons_zero, List.set_cons_succ, i64_w, i32_w]
                        rfl
                      exact norm_ (by first | (simp only [putAll, Act.put, List.setIfInBounds_toArray, List.set_cons_zero, List.set_cons_succ]; done) | (simp only [putAll, Act.put, List.setIfInBounds_toArray, List.set_cons_zero, List.set_cons_succ]; rfl)) (hJ0_2_7 (v0_, vn_, v7_) _ hN)
                    · skip
                      refine value_ (w1 := ?_) (v := ?_) (by rfl) rfl ?_ ?_
                      rotate_left 2
                      · go_simp
                        constructor
                        · rfl
                        · rfl
                      have hN := (hSep.out).litRow (enc := Value.int .u8) (h1 := fun _ => rfl) (e := 5) [] (by decide)
                      refine hK.out _ _ trivial (fun hHeld => ?_)
                      clear hK K
                      refine norm_ (a' := ?_) ?_ ?_
                      rotate_left
                      · show Act.put _ (some 22) _ = _
                        simp only [Act.put, List.setIfInBounds_toArray, List.set_cons_zero, List.set_cons_succ, i64_w, i32_w]
                        rfl
                      exact norm_ (by first | (simp only [putAll, Act.put, List.setIfInBounds_toArray, List.set_cons_zero, List.set_cons_succ]; done) | (simp only [putAll, Act.put, List.setIfInBounds_toArray, List.set_cons_zero, List.set_cons_succ]; rfl)) (hJ0_3_7 (v0_, .slice (some ⟨(W_).heap.size, 0, none⟩) 0 0, v7_) _ hN.at2)
                · skip
                  rintro ⟨v0_, v3_⟩ W_ hQ_
                  have hSep : Aside0 (Sep w W_ ((Row U8 5 (v0_) []) :: (Row U8 5 (v3_) []) :: [])) := ⟨hQ_⟩
                  clear hQ_
                  have hHeld := trivial
                  refine norm_ (a' := ?_) ?_ ?_
                  rotate_left
                  · simp only [putAll, Act.put, List.setIfInBounds_toArray, List.set_cons_zero, List.set_cons_succ]
                    rfl
                  refine two_ (i := 2) (j := 7) (Ni := some 21) (Nj := some 26) #[true, true, true, true, true, false, true, false, false, false, false] #[true, true, false, true, true, false, true, true, false, false, false] rfl rfl rfl rfl (by kernel_rfl) (by decide) (by decide) (fun K hK => ?_) (fun K hK => ?_)
                  · skip
                    refine ((hSep.out)).appendStep (by rfl) (.tmp 19) (.tmp 20) 30 (.int .u8 0) 1 rfl Try.underlying30 infoB rfl (by decide) A (64 * m) c (by rfl) (by rfl) (Kd.C_below AR.out ((hSep.out)).toBelow) (by simp only [List.length_nil]; rw [AL.out]; omega) ?_
                    intro vn_ wn_ hN
                    rw [List.nil_append] at hN
                    refine hK.out _ _ trivial (fun hHeld => ?_)
                    clear hK K
                    refine norm_ (a' := ?_) ?_ ?_
                    rotate_left
                    · show Act.put _ (some 21) _ = _
                      simp only [Act.put, List.setIfInBounds_toArray, List.set_cons_zero, List.set_cons_succ, i64_w, i32_w]
                      rfl
                    exact norm_ (by first | (simp only [putAll, Act.put, List.setIfInBounds_toArray, List.set_cons_zero, List.set_cons_succ]; done) | (simp only [putAll, Act.put, List.setIfInBounds_toArray, List.set_cons_zero, List.set_cons_succ]; rfl)) (hJ0_2_3 (v0_, vn_, v3_) _ hN)
                  · skip
                    refine value_ (w1 := ?_) (v := ?_) (by rfl) rfl ?_ ?_
                    rotate_left 2
                    · go_simp
                      constructor
                      · rfl
                      · rfl
                    have hN := madeT m (hSep.out) (by omega)
                    refine hK.out _ _ trivial (fun hHeld => ?_)
                    clear hK K
                    refine norm_ (a' := ?_) ?_ ?_
                    rotate_left
                    · show Act.put _ (some 26) _ = _
                      simp only [Act.put, List.setIfInBounds_toArray, List.set_cons_zero, List.set_cons_succ, i64_w, i32_w]
                      rfl
                    exact norm_ (by first | (simp only [putAll, Act.put, List.setIfInBounds_toArray, List.set_cons_zero, List.set_cons_succ]; done) | (simp only [putAll, Act.put, List.setIfInBounds_toArray, List.set_cons_zero, List.set_cons_succ]; rfl)) (hJ0_3_7 (v0_, v3_, .slice (some ⟨(W_).heap.size, 0, none⟩) m m) _ hN.to3)
              · skip
                rintro ⟨v0_, v2_⟩ W_ hQ_
                have hSep : Aside0 (Sep w W_ ((Row U8 5 (v2_) l) :: [])) := ⟨hQ_⟩
                clear hQ_
                have hHeld := trivial
                refine norm_ (a' := ?_) ?_ ?_
                rotate_left
                · simp only [putAll, Act.put, List.setIfInBounds_toArray, List.set_cons_zero, List.set_cons_succ]
                  rfl
                refine two_ (i := 3) (j := 7) (Ni := some 22) (Nj := some 26) #[true, true, true, true, true, false, true, false, false, false, false] #[true, true, true, false, true, false, true, true, false, false, false] rfl rfl rfl rfl (by kernel_rfl) (by decide) (by decide) (fun K hK => ?_) (fun K hK => ?_)
                · skip
                  refine value_ (w1 := ?_) (v := ?_) (by rfl) rfl ?_ ?_
                  rotate_left 2
                  · go_simp
                    constructor
                    · rfl
                    · rfl
                  have hN := (hSep.out).litRow (enc := Value.int .u8) (h1 := fun _ => rfl) (e := 5) [] (by decide)
                  refine hK.out _ _ trivial (fun hHeld => ?_)
                  clear hK K
                  refine norm_ (a' := ?_) ?_ ?_
                  rotate_left
                  · show Act.put _ (some 22) _ = _
                    simp only [Act.put, List.setIfInBounds_toArray, List.set_cons_zero, List.set_cons_succ, i64_w, i32_w]
                    rfl
                  exact norm_ (by first | (simp only [putAll, Act.put, List.setIfInBounds_toArray, List.set_cons_zero, List.set_cons_succ]; done) | (simp only [putAll, Act.put, List.setIfInBounds_toArray, List.set_cons_zero, List.set_cons_succ]; rfl)) (hJ0_2_3 (v0_, v2_, .slice (some ⟨(W_).heap.size, 0, none⟩) 0 0) _ hN.at2)
                · skip
                  refine value_ (w1 := ?_) (v := ?_) (by rfl) rfl ?_ ?_
                  rotate_left 2
                  · go_simp
                    constructor
                    · rfl
                    · rfl
                  have hN := madeT m (hSep.out) (by omega)
                  refine hK.out _ _ trivial (fun hHeld => ?_)
                  clear hK K
                  refine norm_ (a' := ?_) ?_ ?_
                  rotate_left
                  · show Act.put _ (some 26) _ = _
                    simp only [Act.put, List.setIfInBounds_toArray, List.set_cons_zero, List.set_cons_succ, i64_w, i32_w]
                    rfl
                  exact norm_ (by first | (simp only [putAll, Act.put, List.setIfInBounds_toArray, List.set_cons_zero, List.set_cons_succ]; done) | (simp only [putAll, Act.put, List.setIfInBounds_toArray, List.set_cons_zero, List.set_cons_succ]; rfl)) (hJ0_2_7 (v0_, v2_, .slice (some ⟨(W_).heap.size, 0, none⟩) m m) _ hN.at2)
            · skip
              rintro ⟨v0_, v3_, v7_⟩ W_ hQ_
              have hSep : Aside0 (Sep w W_ ((Row U8 5 (v0_) []) :: (Row U8 5 (v3_) []) :: (Row BK 4 (v7_) (List.replicate m false)) :: [])) := ⟨hQ_⟩
              clear hQ_
              have hHeld := trivial
              refine norm_ (a' := ?_) ?_ ?_
              rotate_left
              · simp only [putAll, Act.put, List.setIfInBounds_toArray, List.set_cons_zero, List.set_cons_succ]
                rfl
              refine one_ (i := 2) (N := some 21) #[true, true, true, true, true, false, true, true, false, false, false] rfl rfl (by kernel_rfl) (by decide) (fun K hK => ?_)
              refine ((hSep.out)).appendStep (by rfl) (.tmp 19) (.tmp 20) 30 (.int .u8 0) 1 rfl Try.underlying30 infoB rfl (by decide) A (64 * m) c (by rfl) (by rfl) (Kd.C_below AR.out ((hSep.out)).toBelow) (by simp only [List.length_nil]; rw [AL.out]; omega) ?_
              intro vn_ wn_ hN
              rw [List.nil_append] at hN
              refine hK.out _ _ trivial (fun hHeld => ?_)
              clear hK K
              refine norm_ (a' := ?_) ?_ ?_
              rotate_left
              · show Act.put _ (some 21) _ = _
                simp only [Act.put, List.setIfInBounds_toArray, List.set_cons_zero, List.set_cons_succ, i64_w, i32_w]
                rfl
              exact norm_ (by first | (simp only [putAll, Act.put, List.setIfInBounds_toArray, List.set_cons_zero, List.set_cons_succ]; done) | (simp only [putAll, Act.put, List.setIfInBounds_toArray, List.set_cons_zero, List.set_cons_succ]; rfl)) (hJ0_2_3_7 (v0_, vn_, v3_, v7_) _ hN)
          · skip
            rintro ⟨v0_, v2_, v7_⟩ W_ hQ_
            have hSep : Aside0 (Sep w W_ ((Row U8 5 (v2_) l) :: (Row BK 4 (v7_) (List.replicate m false)) :: [])) := ⟨hQ_⟩
            clear hQ_
            have hHeld := trivial
            refine norm_ (a' := ?_) ?_ ?_
            rotate_left
            · simp only [putAll, Act.put, List.setIfInBounds_toArray, List.set_cons_zero, List.set_cons_succ]
              rfl
            refine one_ (i := 3) (N := some 22) #[true, true, true, true, true, false, true, true, false, false, false] rfl rfl (by kernel_rfl) (by decide) (fun K hK => ?_)
            refine value_ (w1 := ?_) (v := ?_) (by rfl) rfl ?_ ?_
            rotate_left 2
            · go_simp
              constructor
              · rfl
              · rfl
            have hN := (hSep.out).litRow (enc := Value.int .u8) (h1 := fun _ => rfl) (e := 5) [] (by decide)
            refine hK.out _ _ trivial (fun hHeld => ?_)
            clear hK K
            refine norm_ (a' := ?_) ?_ ?_
            rotate_left
            · show Act.put _ (some 22) _ = _
              simp only [Act.put, List.setIfInBounds_toArray, List.set_cons_zero, List.set_cons_succ, i64_w, i32_w]
              rfl
            exact norm_ (by first | (simp only [putAll, Act.put, List.setIfInBounds_toArray, List.set_cons_zero, List.set_cons_succ]; done) | (simp only [putAll, Act.put, List.setIfInBounds_toArray, List.set_cons_zero, List.set_cons_succ]; rfl)) (hJ0_2_3_7 (v0_, v2_, .slice (some ⟨(W_).heap.size, 0, none⟩) 0 0, v7_) _ hN.at2)
        · skip
          rintro ⟨v0_, v2_, v3_⟩ W_ hQ_
          have hSep : Aside0 (Sep w W_ ((Row U8 5 (v2_) l) :: (Row U8 5 (v3_) []) :: [])) := ⟨hQ_⟩
          clear hQ_
          have hHeld := trivial
          refine norm_ (a' := ?_) ?_ ?_
          rotate_left
          · simp only [putAll, Act.put, List.setIfInBounds_toArray, List.set_cons_zero, List.set_cons_succ]
            rfl
          refine two_ (i := 5) (j := 7) (Ni := some 24) (Nj := some 26) #[true, true, true, true, true, true, true, false, false, false, false] #[true, true, true, true, true, false, true, true, false, false, false] rfl rfl rfl rfl (by kernel_rfl) (by decide) (by decide) (fun K hK => ?_) (fun K hK => ?_)
          · skip
            refine ((hSep.out).at2).appendStep (by rfl) (.tmp 22) (.tmp 23) 30 (.int .u8 0) 1 rfl Try.underlying30 infoB rfl (by decide) A (64 * m) c (by rfl) (by rfl) (Kd.C_below AR.out ((hSep.out).at2).toBelow) (by simp only [List.length_nil]; rw [AL.out]; omega) ?_
            intro vn_ wn_ hN
            rw [List.nil_append] at hN
            refine hK.out _ _ trivial (fun hHeld => ?_)
            clear hK K
            refine norm_ (a' := ?_) ?_ ?_
            rotate_left
            · show Act.put _ (some 24) _ = _
              simp only [Act.put, List.setIfInBounds_toArray, List.set_cons_zero, List.set_cons_succ, i64_w, i32_w]
              rfl
            exact norm_ (by first | (simp only [putAll, Act.put, List.setIfInBounds_toArray, List.set_cons_zero, List.set_cons_succ]; done) | (simp only [putAll, Act.put, List.setIfInBounds_toArray, List.set_cons_zero, List.set_cons_succ]; rfl)) (hJ0_2_3_5 (v0_, v2_, v3_, vn_) _ hN.at2)
          · skip
            refine value_ (w1 := ?_) (v := ?_) (by rfl) rfl ?_ ?_
            rotate_left 2
            · go_simp
              constructor
              · rfl
              · rfl
            have hN := madeT m (hSep.out) (by omega)
            refine hK.out _ _ trivial (fun hHeld => ?_)
            clear hK K
            refine norm_ (a' := ?_) ?_ ?_
            rotate_left
            · show Act.put _ (some 26) _ = _
              simp only [Act.put, List.setIfInBounds_toArray, List.set_cons_zero, List.set_cons_succ, i64_w, i32_w]
              rfl
            exact norm_ (by first | (simp only [putAll, Act.put, List.setIfInBounds_toArray, List.set_cons_zero, List.set_cons_succ]; done) | (simp only [putAll, Act.put, List.setIfInBounds_toArray, List.set_cons_zero, List.set_cons_succ]; rfl)) (hJ0_2_3_7 (v0_, v2_, v3_, .slice (some ⟨(W_).heap.size, 0, none⟩) m m) _ hN.to3)
      · skip
        rintro ⟨v0_, v2_, v3_, v7_⟩ W_ hQ_
        have hSep : Aside0 (Sep w W_ ((Row U8 5 (v2_) l) :: (Row U8 5 (v3_) []) :: (Row BK 4 (v7_) (List.replicate m false)) :: [])) := ⟨hQ_⟩
        clear hQ_
        have hHeld := trivial
        refine norm_ (a' := ?_) ?_ ?_
        rotate_left
        · simp only [putAll, Act.put, List.setIfInBounds_toArray, List.set_cons_zero, List.set_cons_succ]
          rfl
        refine one_ (i := 5) (N := some 24) #[true, true, true, true, true, true, true, true, false, false, false] rfl rfl (by kernel_rfl) (by decide) (fun K hK => ?_)
        refine ((hSep.out).at2).appendStep (by rfl) (.tmp 22) (.tmp 23) 30 (.int .u8 0) 1 rfl Try.underlying30 infoB rfl (by decide) A (64 * m) c (by rfl) (by rfl) (Kd.C_below AR.out ((hSep.out).at2).toBelow) (by simp only [List.length_nil]; rw [AL.out]; omega) ?_
        intro vn_ wn_ hN
        rw [List.nil_append] at hN
        refine hK.out _ _ trivial (fun hHeld => ?_)
        clear hK K
        refine norm_ (a' := ?_) ?_ ?_
        rotate_left
        · show Act.put _ (some 24) _ = _
          simp only [Act.put, List.setIfInBounds_toArray, List.set_cons_zero, List.set_cons_succ, i64_w, i32_w]
          rfl
        exact norm_ (by first | (simp only [putAll, Act.put, List.setIfInBounds_toArray, List.set_cons_zero, List.set_cons_succ]; done) | (simp only [putAll, Act.put, List.setIfInBounds_toArray, List.set_cons_zero, List.set_cons_succ]; rfl)) (hJ0_2_3_5_7 (v0_, v2_, v3_, vn_, v7_) _ hN.at2)
    · skip
      rintro ⟨v0_, v2_, v3_, v5_⟩ W_ hQ_
      have hSep : Aside0 (Sep w W_ ((Row U8 5 (v2_) l) :: (Row U8 5 (v5_) l) :: [])) := ⟨hQ_⟩
      clear hQ_
      have hHeld := trivial
      refine norm_ (a' := ?_) ?_ ?_
      rotate_left
      · simp only [putAll, Act.put, List.setIfInBounds_toArray, List.set_cons_zero, List.set_cons_succ]
        rfl
      refine one_ (i := 7) (N := some 26) #[true, true, true, true, true, true, true, true, false, false, false] rfl rfl (by kernel_rfl) (by decide) (fun K hK => ?_)
      refine value_ (w1 := ?_) (v := ?_) (by rfl) rfl ?_ ?_
      rotate_left 2
      · go_simp
        constructor
        · rfl
        · rfl
      have hN := madeT m (hSep.out) (by omega)
      refine hK.out _ _ trivial (fun hHeld => ?_)
      clear hK K
      refine norm_ (a' := ?_) ?_ ?_
      rotate_left
      · show Act.put _ (some 26) _ = _
        simp only [Act.put, List.setIfInBounds_toArray, List.set_cons_zero, List.set_cons_succ, i64_w, i32_w]
        rfl
      exact norm_ (by first | (simp only [putAll, Act.put, List.setIfInBounds_toArray, List.set_cons_zero, List.set_cons_succ]; done) | (simp only [putAll, Act.put, List.setIfInBounds_toArray, List.set_cons_zero, List.set_cons_succ]; rfl)) (hJ0_2_3_5_7 (v0_, v2_, v3_, v5_, .slice (some ⟨(W_).heap.size, 0, none⟩) m m) _ hN.to3)
  rintro ⟨v0_, v2_, v3_, v5_, v7_⟩ W_ hQ_
  have hSep : Aside0 (Sep w W_ ((Row U8 5 (v2_) l) :: (Row U8 5 (v5_) l) :: (Row BK 4 (v7_) (List.replicate m false)) :: [])) := ⟨hQ_⟩
  clear hQ_
  have hHeld := trivial
  obtain ⟨A2, c2, rfl⟩ := hSep.out.rowN AL.out
  obtain ⟨A5, c5, rfl⟩ := hSep.out.at2.rowN AL.out
  obtain ⟨A7, c7, rfl⟩ := hSep.out.at3.rowN (List.length_replicate ..)
  refine norm_ (a' := ?_) ?_ ?_
  rotate_left
  · simp only [putAll, Act.put, List.setIfInBounds_toArray, List.set_cons_zero, List.set_cons_succ]
    rfl
  refine pure_ (i := 8) (N := some 27) (v := ?_) (a' := ?_) #[true, true, true, true, true, true, true, true, true, false, false] rfl rfl (by kernel_rfl) (fun _ _ _ h => h) (Or.inl ⟨by rfl, ?_⟩) ?_ ?_
  rotate_left
  · intro w'
    go_simp
    with_reducible rfl
  rotate_left
  · simp only [Act.put, List.setIfInBounds_toArray, List.set_cons_zero, List.set_cons_succ, i64_w, i32_w]
    rfl
  refine one_ (i := 9) (N := some 28) #[true, true, true, true, true, true, true, true, true, true, false] rfl rfl (by kernel_rfl) (by decide) (fun K hK => ?_)
  refine value_ (w1 := ?_) (v := ?_) (by rfl) rfl ?_ ?_
  rotate_left 2
  · go_simp
    constructor
    · rfl
    · rfl
  refine hK.out _ _ trivial (fun hHeld => ?_)
  clear hK K
  refine norm_ (a' := ?_) ?_ ?_
  rotate_left
  · show Act.put _ (some 28) _ = _
    simp only [Act.put, List.setIfInBounds_toArray, List.set_cons_zero, List.set_cons_succ, i64_w, i32_w]
    rfl
  refine pure_ (i := 10) (N := some 2) (v := ?_) (a' := ?_) #[true, true, true, true, true, true, true, true, true, true, true] rfl rfl (by kernel_rfl) (fun _ _ _ h => h) (Or.inl ⟨by rfl, ?_⟩) ?_ ?_
  rotate_left
  · intro w'
    go_simp
    with_reducible rfl
  rotate_left
  · simp only [Act.put, List.setIfInBounds_toArray, List.set_cons_zero, List.set_cons_succ, i64_w, i32_w]
    rfl
  refine done_ (by kernel_rfl) ?_
  go_wp2_with fail
  go_ret
  have h6 := hSep.out.newBlk 144 #[.slice A2 (64 * m) c2, .slice A5 (64 * m) c5, .slice A7 m c7, .int .i64 (-1), .int .i64 0]
  exact ⟨_, rfl, shut_ h1 h2 AL.out AL.out (List.length_replicate ..) h6⟩
end Go.Proofs.Ytjngnigelkgekaa.Ref
namespace Go.Proofs.Ytjngnigelkgekaa.Ref
set_option linter.unusedVariables false
set_option linter.unusedSimpArgs false
open Go.RowKit Go.Proofs.YtjngnigelkgekaaW.PrintWords Go.Proofs.YtjngnigelkgekaaW.PrintLast Go.Proofs.YtjngnigelkgekaaW.PrintMore Go.Proofs.Ytjngnigelkgekaa.Kit Go.Proofs.Ytjngnigelkgekaa.Disk
/-- A cut 'x[j:]' of a row of one's own. -/
theorem cutF_ {g N c j : Nat} {J : Int} (hJ : J = (j : Int)) (hj : j < N) (hc : N ≤ c) : ∀ W : World, (Instr.slice 30 (.slice (some ⟨g, 0, none⟩) N c) (some (.int .i64 J)) none none).run Try.prog W = .ok (.slice (some ⟨g, j, none⟩) (N - j) (c - j)) W := by
  obtain ⟨i, hi, hz⟩ := Option.map_eq_some_iff.1 infoB
  simp only [Prod.mk.injEq] at hz
  have := cut_from (P := Try.prog) 30 5 .i64 Try.underlying30 hi 1 hz.2.1 (some ⟨g, 0, none⟩) N c J (by omega) (by omega)
  subst hJ
  rw [Int.toNat_natCast, if_neg (by omega)] at this
  intro W
  rw [this W]
  simp [Addr.add]
  try exact fun h => h.symm
section
variable {w0 W : World} {g n : Nat} {las now : List Int} {wait : List Bool} {left done : Int} {F : List HP}
end
end Go.Proofs.Ytjngnigelkgekaa.Ref
namespace Go.Proofs.Ytjngnigelkgekaa.Ref
set_option linter.unusedVariables false
set_option linter.unusedSimpArgs false
open Go.RowKit Go.Proofs.YtjngnigelkgekaaW.PrintWords Go.Proofs.YtjngnigelkgekaaW.PrintLast Go.Proofs.YtjngnigelkgekaaW.PrintMore Go.Proofs.Ytjngnigelkgekaa.Kit Go.Proofs.Ytjngnigelkgekaa.Disk
section
variable {w0 W : World} {g n : Nat} {las now : List Int} {wait : List Bool} {left done : Int} {F : List HP}
end
end Go.Proofs.Ytjngnigelkgekaa.Ref
namespace Go.Proofs.Ytjngnigelkgekaa.Ref
set_option linter.unusedVariables false
set_option linter.unusedSimpArgs false
open Go.RowKit Go.Proofs.YtjngnigelkgekaaW.PrintWords Go.Proofs.YtjngnigelkgekaaW.PrintLast Go.Proofs.YtjngnigelkgekaaW.PrintMore Go.Proofs.Ytjngnigelkgekaa.Kit Go.Proofs.Ytjngnigelkgekaa.Disk
def waitL (n : Nat) (wt : Wt) : List Bool := (List.range n).map (fun i => (wt i).isSome)
theorem waitL_none (n : Nat) : waitL n (fun _ => none) = List.replicate n false := by
  apply List.ext_getElem?
  intro i
  unfold waitL
  by_cases hi : i < n
  · rw [List.getElem?_map, List.getElem?_range hi, List.getElem?_replicate, if_pos hi]; rfl
  · rw [List.getElem?_eq_none (by simp; omega), List.getElem?_eq_none (by simp; omega)]
theorem flushed_write {las : List Int} {wt : Wt} {n i : Nat} {b : List Int} (hl : las.length = 64 * n) (hw : ∀ i b, wt i = some b → b.length = 64) (hi : i < n) (hb : b.length = 64) :
    over (flushed las wt) (64 * i) b = flushed las (fun j => if j = i then some b else wt j) := by
  unfold flushed
  rw [show las.length / 64 = n by omega]
  have hs : ∀ k, k < n → ((wt k).getD (sec las k)).length = 64 := fun k hk => by
    cases h : wt k with
    | none => exact sec_len (by omega)
    | some c => exact hw k c h
  rw [over_secs hs hi (by omega)]
  refine secs_congr fun k hk => ?_
  by_cases hki : k = i
  · simp only [if_pos hki, Option.getD_some]
    rw [List.drop_eq_nil_of_le (by rw [hs k hk, hb]; exact Nat.le_refl _), List.append_nil]
  · simp only [if_neg hki]
theorem sec_flushed {las : List Int} {wt : Wt} {n i : Nat} (hl : las.length = 64 * n) (hw : ∀ i b, wt i = some b → b.length = 64) (hi : i < n) : sec (flushed las wt) i = (wt i).getD (sec las i) := by
  unfold flushed
  rw [show las.length / 64 = n by omega]
  refine sec_secs (fun k hk => ?_) hi
  cases h : wt k with
  | none => exact sec_len (by omega)
  | some c => exact hw k c h
theorem flushed_len {las : List Int} {wt : Wt} {n : Nat} (h : las.length = 64 * n) (hw : ∀ i b, wt i = some b → b.length = 64) : (flushed las wt).length = 64 * n := by
  unfold flushed
  rw [show las.length / 64 = n by omega]
  refine secs_len fun i hi => ?_
  cases hb : wt i with
  | none => exact sec_len (by omega)
  | some b => exact hw i b hb
section
variable {w0 W : World} {g n : Nat} {las now : List Int} {wait : List Bool} {left done : Int} {F : List HP} {wt : Wt}
end
end Go.Proofs.Ytjngnigelkgekaa.Ref
namespace Go.Proofs.Ytjngnigelkgekaa.Book
set_option linter.unusedVariables false
set_option linter.unusedSimpArgs false
open Go.RowKit Go.Proofs.YtjngnigelkgekaaW.PrintWords Go.Proofs.YtjngnigelkgekaaW.PrintLast Go.Proofs.YtjngnigelkgekaaW.PrintMore Go.Proofs.Ytjngnigelkgekaa.Kit
end Go.Proofs.Ytjngnigelkgekaa.Book
namespace Go.Proofs.Ytjngnigelkgekaa.Kit.Sep
open Go.Proofs.Ytjngnigelkgekaa.Kit
end Go.Proofs.Ytjngnigelkgekaa.Kit.Sep
namespace Go.Proofs.Ytjngnigelkgekaa.Ref
set_option linter.unusedVariables false
set_option linter.unusedSimpArgs false
open Go.RowKit Go.Proofs.YtjngnigelkgekaaW.PrintWords Go.Proofs.YtjngnigelkgekaaW.PrintLast Go.Proofs.YtjngnigelkgekaaW.PrintMore Go.Proofs.Ytjngnigelkgekaa.Kit Go.Proofs.Ytjngnigelkgekaa.Disk
section
variable {w0 W : World} {g gr n : Nat} {las : List Int} {left done : Int} {F : List HP} {wt : Wt}
end
end Go.Proofs.Ytjngnigelkgekaa.Ref
namespace Go.Proofs.Ytjngnigelkgekaa.Ref
set_option linter.unusedVariables false
set_option linter.unusedSimpArgs false
open Go.RowKit Go.Proofs.YtjngnigelkgekaaW.PrintWords Go.Proofs.YtjngnigelkgekaaW.PrintLast Go.Proofs.YtjngnigelkgekaaW.PrintMore Go.Proofs.Ytjngnigelkgekaa.Kit Go.Proofs.Ytjngnigelkgekaa.Disk
section
variable {w0 W : World} {g gr n : Nat} {las : List Int} {done : Nat} {F : List HP} {wt : Wt}
theorem got_len (hl : las.length = 64 * n) (hw : ∀ i b, wt i = some b → b.length = 64) {i : Nat} (hi : i < n) : ((wt i).getD (sec las i)).length = 64 := by
  cases h : wt i with
  | none => exact sec_len (by omega)
  | some b => exact hw i b h
theorem upd_len {i : Nat} {b : List Int} (hw : ∀ i b, wt i = some b → b.length = 64) (hb : b.length = 64) : ∀ k c, (fun j => if j = i then some b else wt j) k = some c → c.length = 64 := fun k c h => by
  by_cases hki : k = i
  · simp only [if_pos hki] at h; injection h with h; rw [← h]; exact hb
  · simp only [if_neg hki] at h; exact hw k c h
theorem none_len : ∀ (i : Nat) (b : List Int), (fun _ => none : Wt) i = some b → b.length = 64 := fun i b h => by cases h
end
end Go.Proofs.Ytjngnigelkgekaa.Ref
