/- Ref2, Ref3, Ref4, Ref5, Same, Ref6, Play: what StoreKeeps needs. -/
import Derived.Test.YtjngnigelkgekaaGreatTstoreKeeps7
import Derived.Deep.Cut
import Derived.Deep.CutRange
import Derived.Deep.QuietTactic
namespace Go.Proofs.YtjngnigelkgekaaGreat.Ref
set_option linter.unusedVariables false
set_option linter.unusedSimpArgs false
open Go.RowKit Go.Proofs.YtjngnigelkgekaaGreatW.PrintWords Go.Proofs.YtjngnigelkgekaaGreatW.PrintLast Go.Proofs.YtjngnigelkgekaaGreatW.PrintMore Go.Proofs.YtjngnigelkgekaaGreat.Kit Go.Proofs.YtjngnigelkgekaaGreat.Disk
theorem madeT {w0 W : World} {F : List HP} (m : Nat) (h : Sep w0 W F) (hm : m ≤ 100000) : Sep w0 (W.alloc (.cells (madeCells #[.bool false] m) 4)) (Row BK 4 (.slice (some ⟨W.heap.size, 0, none⟩) m m) (List.replicate m false) :: F) :=
  h.madeRow (h1 := fun _ => rfl) (e := 4) (enc := Value.bool) false m (by omega)
theorem makeT {m : Nat} (hm : m ≤ 100000) : ∀ W : World, (Instr.makeSlice 85 (.int .i64 (m : Int)) (.int .i64 (m : Int))).run Tryz.prog W = .ok (.slice (some ⟨W.heap.size, 0, none⟩) m m) (W.alloc (.cells (madeCells #[.bool false] m) 4)) := by
  exact print_make_of (P := Tryz.prog) 85 4 (.bool false) 1 Tryz.underlying85 infoT rfl (by decide) m (by omega)
set_option maxHeartbeats 1600000 in
set_option maxRecDepth 100000 in
theorem of_ok {A : Option Addr} {k m c : Nat} {l : List Int} {w : World} (hr : U8.C w A k l) (hk : k = 64 * m) (h1 : 1 ≤ m) (h2 : m ≤ 160) :
    Calls Tryz.prog 56 #[.slice A k c] w fun e w' => ∃ g, e = .returned (.pointer (some ⟨g, 0, none⟩)) ∧ Sep w w' [RD g m l l (List.replicate m false) (-1) 0] := by
  subst hk
  have hd : (64 * (m : Int)).tdiv 64 = (m : Int) := Int.mul_tdiv_cancel_left _ (by decide)
  have hm : (64 * (m : Int)).tmod 64 = 0 := Int.mul_tmod_right _ _
  have hmk := makeT (m := m) (by omega)
  have AR := Aside0.mk hr
  have hll := hr.1
  have AL := Aside0.mk hll
  clear hr hll
  go_enter Tryz.func56, Tryz.ntmps56
  go_wp2_with fail
  refine start_ (n := 11) (S := fun w' => True) (ds := []) #[false, false, false, false, false, false, false, false, false, false, false] (by kernel_rfl) rfl rfl trivial (fun hHeld => ?_)
  refine pure_ (i := 1) (N := some 20) (v := ?_) (a' := ?_) #[false, true, false, false, false, false, false, false, false, false, false] rfl rfl (by kernel_rfl) (fun _ _ _ h => h) (Or.inl ⟨by rfl, ?_⟩) ?_ ?_
  rotate_left
  · intro w'
    go_simp
    with_reducible rfl
  rotate_left
  · simp only [Act.put, List.setIfInBounds_toArray, List.set_cons_zero, List.set_cons_succ, i64_w, i32_w]
    rfl
  refine pure_ (i := 4) (N := some 23) (v := ?_) (a' := ?_) #[false, true, false, false, true, false, false, false, false, false, false] rfl rfl (by kernel_rfl) (fun _ _ _ h => h) (Or.inl ⟨by rfl, ?_⟩) ?_ ?_
  rotate_left
  · intro w'
    go_simp
    with_reducible rfl
  rotate_left
  · simp only [Act.put, List.setIfInBounds_toArray, List.set_cons_zero, List.set_cons_succ, i64_w, i32_w]
    rfl
  refine pure_ (i := 6) (N := some 25) (v := ?_) (a' := ?_) #[false, true, false, false, true, false, true, false, false, false, false] rfl rfl (by kernel_rfl) (fun _ _ _ h => h) (Or.inl ⟨by rfl, ?_⟩) ?_ ?_
  rotate_left
  · intro w'
    go_simp
    with_reducible rfl
  rotate_left
  · simp only [Act.put, List.setIfInBounds_toArray, List.set_cons_zero, List.set_cons_succ, i64_w, i32_w]
    rfl
  refine join_ (σ := Value × Value × Value × Value × Value) 3 #[true, true, true, true, true, true, true, true, false, false, false] (fun s_ => [(19, s_.1), (21, s_.2.1), (22, s_.2.2.1), (24, s_.2.2.2.1), (26, s_.2.2.2.2)]) (fun s_ w' => Sep w w' ((Row U8 5 (s_.2.1) l) :: (Row U8 5 (s_.2.2.2.1) l) :: (Row BK 4 (s_.2.2.2.2) (List.replicate m false)) :: [])) ?_ ?_
  rotate_left
  · intro hJ0_2_3_5_7
    refine join_ (σ := Value × Value × Value × Value) 4 #[true, true, true, true, true, true, true, false, false, false, false] (fun s_ => [(19, s_.1), (21, s_.2.1), (22, s_.2.2.1), (24, s_.2.2.2)]) (fun s_ w' => Sep w w' ((Row U8 5 (s_.2.1) l) :: (Row U8 5 (s_.2.2.2) l) :: [])) ?_ ?_
    rotate_left
    · intro hJ0_2_3_5
      refine join_ (σ := Value × Value × Value × Value) 4 #[true, true, true, true, true, false, true, true, false, false, false] (fun s_ => [(19, s_.1), (21, s_.2.1), (22, s_.2.2.1), (26, s_.2.2.2)]) (fun s_ w' => Sep w w' ((Row U8 5 (s_.2.1) l) :: (Row U8 5 (s_.2.2.1) []) :: (Row BK 4 (s_.2.2.2) (List.replicate m false)) :: [])) ?_ ?_
      rotate_left
      · intro hJ0_2_3_7
        refine join_ (σ := Value × Value × Value) 5 #[true, true, true, true, true, false, true, false, false, false, false] (fun s_ => [(19, s_.1), (21, s_.2.1), (22, s_.2.2)]) (fun s_ w' => Sep w w' ((Row U8 5 (s_.2.1) l) :: (Row U8 5 (s_.2.2) []) :: [])) ?_ ?_
        rotate_left
        · intro hJ0_2_3
          refine join_ (σ := Value × Value × Value) 5 #[true, true, true, false, true, false, true, true, false, false, false] (fun s_ => [(19, s_.1), (21, s_.2.1), (26, s_.2.2)]) (fun s_ w' => Sep w w' ((Row U8 5 (s_.2.1) l) :: (Row BK 4 (s_.2.2) (List.replicate m false)) :: [])) ?_ ?_
          rotate_left
          · intro hJ0_2_7
            refine join_ (σ := Value × Value × Value) 5 #[true, true, false, true, true, false, true, true, false, false, false] (fun s_ => [(19, s_.1), (22, s_.2.1), (26, s_.2.2)]) (fun s_ w' => Sep w w' ((Row U8 5 (s_.1) []) :: (Row U8 5 (s_.2.1) []) :: (Row BK 4 (s_.2.2) (List.replicate m false)) :: [])) ?_ ?_
            rotate_left
            · intro hJ0_3_7
              refine join_ (σ := Value × Value) 6 #[true, true, true, false, true, false, true, false, false, false, false] (fun s_ => [(19, s_.1), (21, s_.2)]) (fun s_ w' => Sep w w' ((Row U8 5 (s_.2) l) :: [])) ?_ ?_
              rotate_left
              · intro hJ0_2
                refine join_ (σ := Value × Value) 6 #[true, true, false, true, true, false, true, false, false, false, false] (fun s_ => [(19, s_.1), (22, s_.2)]) (fun s_ w' => Sep w w' ((Row U8 5 (s_.1) []) :: (Row U8 5 (s_.2) []) :: [])) ?_ ?_
                rotate_left
                · intro hJ0_3
                  refine join_ (σ := Value × Value) 6 #[true, true, false, false, true, false, true, true, false, false, false] (fun s_ => [(19, s_.1), (26, s_.2)]) (fun s_ w' => Sep w w' ((Row U8 5 (s_.1) []) :: (Row BK 4 (s_.2) (List.replicate m false)) :: [])) ?_ ?_
                  rotate_left
                  · intro hJ0_7
                    refine join_ (σ := Value × Value) 6 #[false, true, false, true, true, false, true, true, false, false, false] (fun s_ => [(22, s_.1), (26, s_.2)]) (fun s_ w' => Sep w w' ((Row U8 5 (s_.1) []) :: (Row BK 4 (s_.2) (List.replicate m false)) :: [])) ?_ ?_
                    rotate_left
                    · intro hJ3_7
                      refine join_ (σ := Value) 7 #[true, true, false, false, true, false, true, false, false, false, false] (fun s_ => [(19, s_)]) (fun s_ w' => Sep w w' ((Row U8 5 (s_) []) :: [])) ?_ ?_
                      rotate_left
                      · intro hJ0
                        refine join_ (σ := Value) 7 #[false, true, false, true, true, false, true, false, false, false, false] (fun s_ => [(22, s_)]) (fun s_ w' => Sep w w' ((Row U8 5 (s_) []) :: [])) ?_ ?_
                        rotate_left
                        · intro hJ3
                          refine join_ (σ := Value) 7 #[false, true, false, false, true, false, true, true, false, false, false] (fun s_ => [(26, s_)]) (fun s_ w' => Sep w w' ((Row BK 4 (s_) (List.replicate m false)) :: [])) ?_ ?_
                          rotate_left
                          · intro hJ7
                            refine three_ (i := 0) (j := 3) (k := 7) (Ni := some 19) (Nj := some 22) (Nk := some 26) #[true, true, false, false, true, false, true, false, false, false, false] #[false, true, false, true, true, false, true, false, false, false, false] #[false, true, false, false, true, false, true, true, false, false, false] rfl rfl rfl rfl rfl rfl (by kernel_rfl) (by decide) (by decide) (by decide) (fun K hK => ?_) (fun K hK => ?_) (fun K hK => ?_)
                            · skip
                              refine value_ (w1 := ?_) (v := ?_) (by rfl) rfl ?_ ?_
                              rotate_left 2
                              · go_simp
                                constructor
                                · rfl
                                · rfl
                              have hN := ((Sep.start w).drew).litRow (enc := Value.int .u8) (h1 := fun _ => rfl) (e := 5) [] (by decide)
                              refine hK.out _ _ trivial (fun hHeld => ?_)
                              clear hK K
                              refine norm_ (a' := ?_) ?_ ?_
                              rotate_left
                              · show Act.put _ (some 19) _ = _
                                simp only [Act.put, List.setIfInBounds_toArray, List.set_cons_zero, List.set_cons_succ, i64_w, i32_w]
                                rfl
                              exact norm_ (by first | (simp only [putAll, Act.put, List.setIfInBounds_toArray, List.set_cons_zero, List.set_cons_succ]; done) | (simp only [putAll, Act.put, List.setIfInBounds_toArray, List.set_cons_zero, List.set_cons_succ]; rfl)) (hJ0 (.slice (some ⟨(w.drew).heap.size, 0, none⟩) 0 0) _ hN)
                            · skip
                              refine value_ (w1 := ?_) (v := ?_) (by rfl) rfl ?_ ?_
                              rotate_left 2
                              · go_simp
                                constructor
                                · rfl
                                · rfl
                              have hN := ((Sep.start w).drew).litRow (enc := Value.int .u8) (h1 := fun _ => rfl) (e := 5) [] (by decide)
                              refine hK.out _ _ trivial (fun hHeld => ?_)
                              clear hK K
                              refine norm_ (a' := ?_) ?_ ?_
                              rotate_left
                              · show Act.put _ (some 22) _ = _
                                simp only [Act.put, List.setIfInBounds_toArray, List.set_cons_zero, List.set_cons_succ, i64_w, i32_w]
                                rfl
                              exact norm_ (by first | (simp only [putAll, Act.put, List.setIfInBounds_toArray, List.set_cons_zero, List.set_cons_succ]; done) | (simp only [putAll, Act.put, List.setIfInBounds_toArray, List.set_cons_zero, List.set_cons_succ]; rfl)) (hJ3 (.slice (some ⟨(w.drew).heap.size, 0, none⟩) 0 0) _ hN)
                            · skip
                              refine value_ (w1 := ?_) (v := ?_) (by rfl) rfl ?_ ?_
                              rotate_left 2
                              · go_simp
                                constructor
                                · rfl
                                · rfl
                              have hN := madeT m ((Sep.start w).drew) (by omega)
                              refine hK.out _ _ trivial (fun hHeld => ?_)
                              clear hK K
                              refine norm_ (a' := ?_) ?_ ?_
                              rotate_left
                              · show Act.put _ (some 26) _ = _
                                simp only [Act.put, List.setIfInBounds_toArray, List.set_cons_zero, List.set_cons_succ, i64_w, i32_w]
                                rfl
                              exact norm_ (by first | (simp only [putAll, Act.put, List.setIfInBounds_toArray, List.set_cons_zero, List.set_cons_succ]; done) | (simp only [putAll, Act.put, List.setIfInBounds_toArray, List.set_cons_zero, List.set_cons_succ]; rfl)) (hJ7 (.slice (some ⟨(w.drew).heap.size, 0, none⟩) m m) _ hN)
                          · skip
                            rintro v7_ W_ hQ_
                            have hSep : Aside0 (Sep w W_ ((Row BK 4 (v7_) (List.replicate m false)) :: [])) := ⟨hQ_⟩
                            clear hQ_
                            have hHeld := trivial
                            refine norm_ (a' := ?_) ?_ ?_
                            rotate_left
                            · simp only [putAll, Act.put, List.setIfInBounds_toArray, List.set_cons_zero, List.set_cons_succ]
                              rfl
                            refine two_ (i := 0) (j := 3) (Ni := some 19) (Nj := some 22) #[true, true, false, false, true, false, true, true, false, false, false] #[false, true, false, true, true, false, true, true, false, false, false] rfl rfl rfl rfl (by kernel_rfl) (by decide) (by decide) (fun K hK => ?_) (fun K hK => ?_)
                            · skip
                              refine value_ (w1 := ?_) (v := ?_) (by rfl) rfl ?_ ?_
                              rotate_left 2
                              · go_simp
                                constructor
                                · rfl
                                · rfl
                              have hN := (hSep.out).litRow (enc := Value.int .u8) (h1 := fun _ => rfl) (e := 5) [] (by decide)
                              refine hK.out _ _ trivial (fun hHeld => ?_)
                              clear hK K
                              refine norm_ (a' := ?_) ?_ ?_
                              rotate_left
                              · show Act.put _ (some 19) _ = _
                                simp only [Act.put, List.setIfInBounds_toArray, List.set_cons_zero, List.set_cons_succ, i64_w, i32_w]
                                rfl
                              exact norm_ (by first | (simp only [putAll, Act.put, List.setIfInBounds_toArray, List.set_cons_zero, List.set_cons_succ]; done) | (simp only [putAll, Act.put, List.setIfInBounds_toArray, List.set_cons_zero, List.set_cons_succ]; rfl)) (hJ0_7 (.slice (some ⟨(W_).heap.size, 0, none⟩) 0 0, v7_) _ hN)
                            · skip
                              refine value_ (w1 := ?_) (v := ?_) (by rfl) rfl ?_ ?_
                              rotate_left 2
                              · go_simp
                                constructor
                                · rfl
                                · rfl
                              have hN := (hSep.out).litRow (enc := Value.int .u8) (h1 := fun _ => rfl) (e := 5) [] (by decide)
                              refine hK.out _ _ trivial (fun hHeld => ?_)
                              clear hK K
                              refine norm_ (a' := ?_) ?_ ?_
                              rotate_left
                              · show Act.put _ (some 22) _ = _
                                simp only [Act.put, List.setIfInBounds_toArray, List.set_cons_zero, List.set_cons_succ, i64_w, i32_w]
                                rfl
                              exact norm_ (by first | (simp only [putAll, Act.put, List.setIfInBounds_toArray, List.set_cons_zero, List.set_cons_succ]; done) | (simp only [putAll, Act.put, List.setIfInBounds_toArray, List.set_cons_zero, List.set_cons_succ]; rfl)) (hJ3_7 (.slice (some ⟨(W_).heap.size, 0, none⟩) 0 0, v7_) _ hN)
                        · skip
                          rintro v3_ W_ hQ_
                          have hSep : Aside0 (Sep w W_ ((Row U8 5 (v3_) []) :: [])) := ⟨hQ_⟩
                          clear hQ_
                          have hHeld := trivial
                          refine norm_ (a' := ?_) ?_ ?_
                          rotate_left
                          · simp only [putAll, Act.put, List.setIfInBounds_toArray, List.set_cons_zero, List.set_cons_succ]
                            rfl
                          refine two_ (i := 0) (j := 7) (Ni := some 19) (Nj := some 26) #[true, true, false, true, true, false, true, false, false, false, false] #[false, true, false, true, true, false, true, true, false, false, false] rfl rfl rfl rfl (by kernel_rfl) (by decide) (by decide) (fun K hK => ?_) (fun K hK => ?_)
                          · skip
                            refine value_ (w1 := ?_) (v := ?_) (by rfl) rfl ?_ ?_
                            rotate_left 2
                            · go_simp
                              constructor
                              · rfl
                              · rfl
                            have hN := (hSep.out).litRow (enc := Value.int .u8) (h1 := fun _ => rfl) (e := 5) [] (by decide)
                            refine hK.out _ _ trivial (fun hHeld => ?_)
                            clear hK K
                            refine norm_ (a' := ?_) ?_ ?_
                            rotate_left
                            · show Act.put _ (some 19) _ = _
                              simp only [Act.put, List.setIfInBounds_toArray, List.set_cons_zero, List.set_cons_succ, i64_w, i32_w]
                              rfl
                            exact norm_ (by first | (simp only [putAll, Act.put, List.setIfInBounds_toArray, List.set_cons_zero, List.set_cons_succ]; done) | (simp only [putAll, Act.put, List.setIfInBounds_toArray, List.set_cons_zero, List.set_cons_succ]; rfl)) (hJ0_3 (.slice (some ⟨(W_).heap.size, 0, none⟩) 0 0, v3_) _ hN)
                          · skip
                            refine value_ (w1 := ?_) (v := ?_) (by rfl) rfl ?_ ?_
                            rotate_left 2
                            · go_simp
                              constructor
                              · rfl
                              · rfl
                            have hN := madeT m (hSep.out) (by omega)
                            refine hK.out _ _ trivial (fun hHeld => ?_)
                            clear hK K
                            refine norm_ (a' := ?_) ?_ ?_
                            rotate_left
                            · show Act.put _ (some 26) _ = _
                              simp only [Act.put, List.setIfInBounds_toArray, List.set_cons_zero, List.set_cons_succ, i64_w, i32_w]
                              rfl
                            exact norm_ (by first | (simp only [putAll, Act.put, List.setIfInBounds_toArray, List.set_cons_zero, List.set_cons_succ]; done) | (simp only [putAll, Act.put, List.setIfInBounds_toArray, List.set_cons_zero, List.set_cons_succ]; rfl)) (hJ3_7 (v3_, .slice (some ⟨(W_).heap.size, 0, none⟩) m m) _ hN.at2)
                      · skip
                        rintro v0_ W_ hQ_
                        have hSep : Aside0 (Sep w W_ ((Row U8 5 (v0_) []) :: [])) := ⟨hQ_⟩
                        clear hQ_
                        have hHeld := trivial
                        refine norm_ (a' := ?_) ?_ ?_
                        rotate_left
                        · simp only [putAll, Act.put, List.setIfInBounds_toArray, List.set_cons_zero, List.set_cons_succ]
                          rfl
                        refine three_ (i := 2) (j := 3) (k := 7) (Ni := some 21) (Nj := some 22) (Nk := some 26) #[true, true, true, false, true, false, true, false, false, false, false] #[true, true, false, true, true, false, true, false, false, false, false] #[true, true, false, false, true, false, true, true, false, false, false] rfl rfl rfl rfl rfl rfl (by kernel_rfl) (by decide) (by decide) (by decide) (fun K hK => ?_) (fun K hK => ?_) (fun K hK => ?_)
                        · skip
                          refine ((hSep.out)).appendStep (by rfl) (.tmp 19) (.tmp 20) 24 (.int .u8 0) 1 rfl Tryz.underlying24 infoB rfl (by decide) A (64 * m) c (by rfl) (by rfl) (Kd.C_below AR.out ((hSep.out)).toBelow) (by simp only [List.length_nil]; rw [AL.out]; omega) ?_
                          intro vn_ wn_ hN
                          rw [List.nil_append] at hN
                          refine hK.out _ _ trivial (fun hHeld => ?_)
                          clear hK K
                          refine norm_ (a' := ?_) ?_ ?_
                          rotate_left
                          · show Act.put _ (some 21) _ = _
                            simp only [Act.put, List.setIfInBounds_toArray, List.set_cons_zero, List.set_cons_succ, i64_w, i32_w]
                            rfl
                          exact norm_ (by first | (simp only [putAll, Act.put, List.setIfInBounds_toArray, List.set_cons_zero, List.set_cons_succ]; done) | (simp only [putAll, Act.put, List.setIfInBounds_toArray, List.set_cons_zero, List.set_cons_succ]; rfl)) (hJ0_2 (v0_, vn_) _ hN)
                        · skip
                          refine value_ (w1 := ?_) (v := ?_) (by rfl) rfl ?_ ?_
                          rotate_left 2
                          · go_simp
                            constructor
                            · rfl
                            · rfl
                          have hN := (hSep.out).litRow (enc := Value.int .u8) (h1 := fun _ => rfl) (e := 5) [] (by decide)
                          refine hK.out _ _ trivial (fun hHeld => ?_)
                          clear hK K
                          refine norm_ (a' := ?_) ?_ ?_
                          rotate_left
                          · show Act.put _ (some 22) _ = _
                            simp only [Act.put, List.setIfInBounds_toArray, List.set_cons_zero, List.set_cons_succ, i64_w, i32_w]
                            rfl
                          exact norm_ (by first | (simp only [putAll, Act.put, List.setIfInBounds_toArray, List.set_cons_zero, List.set_cons_succ]; done) | (simp only [putAll, Act.put, List.setIfInBounds_toArray, List.set_cons_zero, List.set_cons_succ]; rfl)) (hJ0_3 (v0_, .slice (some ⟨(W_).heap.size, 0, none⟩) 0 0) _ hN.at2)
                        · skip
                          refine value_ (w1 := ?_) (v := ?_) (by rfl) rfl ?_ ?_
                          rotate_left 2
                          · go_simp
                            constructor
                            · rfl
                            · rfl
                          have hN := madeT m (hSep.out) (by omega)
                          refine hK.out _ _ trivial (fun hHeld => ?_)
                          clear hK K
                          refine norm_ (a' := ?_) ?_ ?_
                          rotate_left
                          · show Act.put _ (some 26) _ = _
                            simp only [Act.put, List.setIfInBounds_toArray, List.set_cons_zero, List.set_cons_succ, i64_w, i32_w]
                            rfl
                          exact norm_ (by first | (simp only [putAll, Act.put, List.setIfInBounds_toArray, List.set_cons_zero, List.set_cons_succ]; done) | (simp only [putAll, Act.put, List.setIfInBounds_toArray, List.set_cons_zero, List.set_cons_succ]; rfl)) (hJ0_7 (v0_, .slice (some ⟨(W_).heap.size, 0, none⟩) m m) _ hN.at2)
                    · skip
                      rintro ⟨v3_, v7_⟩ W_ hQ_
                      have hSep : Aside0 (Sep w W_ ((Row U8 5 (v3_) []) :: (Row BK 4 (v7_) (List.replicate m false)) :: [])) := ⟨hQ_⟩
                      clear hQ_
                      have hHeld := trivial
                      refine norm_ (a' := ?_) ?_ ?_
                      rotate_left
                      · simp only [putAll, Act.put, List.setIfInBounds_toArray, List.set_cons_zero, List.set_cons_succ]
                        rfl
                      refine one_ (i := 0) (N := some 19) #[true, true, false, true, true, false, true, true, false, false, false] rfl rfl (by kernel_rfl) (by decide) (fun K hK => ?_)
                      refine value_ (w1 := ?_) (v := ?_) (by rfl) rfl ?_ ?_
                      rotate_left 2
                      · go_simp
                        constructor
                        · rfl
                        · rfl
                      have hN := (hSep.out).litRow (enc := Value.int .u8) (h1 := fun _ => rfl) (e := 5) [] (by decide)
                      refine hK.out _ _ trivial (fun hHeld => ?_)
                      clear hK K
                      refine norm_ (a' := ?_) ?_ ?_
                      rotate_left
                      · show Act.put _ (some 19) _ = _
                        simp only [Act.put, List.setIfInBounds_toArray, List.set_cons_zero, List.set_cons_succ, i64_w, i32_w]
                        rfl
                      exact norm_ (by first | (simp only [putAll, Act.put, List.setIfInBounds_toArray, List.set_cons_zero, List.set_cons_succ]; done) | (simp only [putAll, Act.put, List.setIfInBounds_toArray, List.set_cons_zero, List.set_cons_succ]; rfl)) (hJ0_3_7 (.slice (some ⟨(W_).heap.size, 0, none⟩) 0 0, v3_, v7_) _ hN)
                  · skip
                    rintro ⟨v0_, v7_⟩ W_ hQ_
                    have hSep : Aside0 (Sep w W_ ((Row U8 5 (v0_) []) :: (Row BK 4 (v7_) (List.replicate m false)) :: [])) := ⟨hQ_⟩
                    clear hQ_
                    have hHeld := trivial
                    refine norm_ (a' := ?_) ?_ ?_
                    rotate_left
                    · simp only [putAll, Act.put, List.setIfInBounds_toArray, List.set_cons_zero, List.set_cons_succ]
                      rfl
                    refine two_ (i := 2) (j := 3) (Ni := some 21) (Nj := some 22) #[true, true, true, false, true, false, true, true, false, false, false] #[true, true, false, true, true, false, true, true, false, false, false] rfl rfl rfl rfl (by kernel_rfl) (by decide) (by decide) (fun K hK => ?_) (fun K hK => ?_)
                    · skip
                      refine ((hSep.out)).appendStep (by rfl) (.tmp 19) (.tmp 20) 24 (.int .u8 0) 1 rfl Tryz.underlying24 infoB rfl (by decide) A (64 * m) c (by rfl) (by rfl) (Kd.C_below AR.out ((hSep.out)).toBelow) (by simp only [List.length_nil]; rw [AL.out]; omega) ?_
                      intro vn_ wn_ hN
                      rw [List.nil_append] at hN
                      refine hK.out _ _ trivial (fun hHeld => ?_)
                      clear hK K
                      refine norm_ (a' := ?_) ?_ ?_
                      rotate_left
                      · show Act.put _ (some 21) _ = _
                        simp only [Act.put, List.setIfInBounds_toArray, List.set_cons_zero, List.set_cons_succ, i64_w, i32_w]
                        rfl
                      exact norm_ (by first | (simp only [putAll, Act.put, List.setIfInBounds_toArray, List.set_cons_zero, List.set_cons_succ]; done) | (simp only [putAll, Act.put, List.setIfInBounds_toArray, List.set_cons_zero, List.set_cons_succ]; rfl)) (hJ0_2_7 (v0_, vn_, v7_) _ hN)
                    · skip
                      refine value_ (w1 := ?_) (v := ?_) (by rfl) rfl ?_ ?_
                      rotate_left 2
                      · go_simp
                        constructor
                        · rfl
                        · rfl
                      have hN := (hSep.out).litRow (enc := Value.int .u8) (h1 := fun _ => rfl) (e := 5) [] (by decide)
                      refine hK.out _ _ trivial (fun hHeld => ?_)
                      clear hK K
                      refine norm_ (a' := ?_) ?_ ?_
                      rotate_left
                      · show Act.put _ (some 22) _ = _
                        simp only [Act.put, List.setIfInBounds_toArray, List.set_cons_zero, List.set_cons_succ, i64_w, i32_w]
                        rfl
                      exact norm_ (by first | (simp only [putAll, Act.put, List.setIfInBounds_toArray, List.set_cons_zero, List.set_cons_succ]; done) | (simp only [putAll, Act.put, List.setIfInBounds_toArray, List.set_cons_zero, List.set_cons_succ]; rfl)) (hJ0_3_7 (v0_, .slice (some ⟨(W_).heap.size, 0, none⟩) 0 0, v7_) _ hN.at2)
                · skip
                  rintro ⟨v0_, v3_⟩ W_ hQ_
                  have hSep : Aside0 (Sep w W_ ((Row U8 5 (v0_) []) :: (Row U8 5 (v3_) []) :: [])) := ⟨hQ_⟩
                  clear hQ_
                  have hHeld := trivial
                  refine norm_ (a' := ?_) ?_ ?_
                  rotate_left
                  · simp only [putAll, Act.put, List.setIfInBounds_toArray, List.set_cons_zero, List.set_cons_succ]
                    rfl
                  refine two_ (i := 2) (j := 7) (Ni := some 21) (Nj := some 26) #[true, true, true, true, true, false, true, false, false, false, false] #[true, true, false, true, true, false, true, true, false, false, false] rfl rfl rfl rfl (by kernel_rfl) (by decide) (by decide) (fun K hK => ?_) (fun K hK => ?_)
                  · skip
                    refine ((hSep.out)).appendStep (by rfl) (.tmp 19) (.tmp 20) 24 (.int .u8 0) 1 rfl Tryz.underlying24 infoB rfl (by decide) A (64 * m) c (by rfl) (by rfl) (Kd.C_below AR.out ((hSep.out)).toBelow) (by simp only [List.length_nil]; rw [AL.out]; omega) ?_
                    intro vn_ wn_ hN
                    rw [List.nil_append] at hN
                    refine hK.out _ _ trivial (fun hHeld => ?_)
                    clear hK K
                    refine norm_ (a' := ?_) ?_ ?_
                    rotate_left
                    · show Act.put _ (some 21) _ = _
                      simp only [Act.put, List.setIfInBounds_toArray, List.set_cons_zero, List.set_cons_succ, i64_w, i32_w]
                      rfl
                    exact norm_ (by first | (simp only [putAll, Act.put, List.setIfInBounds_toArray, List.set_cons_zero, List.set_cons_succ]; done) | (simp only [putAll, Act.put, List.setIfInBounds_toArray, List.set_cons_zero, List.set_cons_succ]; rfl)) (hJ0_2_3 (v0_, vn_, v3_) _ hN)
                  · skip
                    refine value_ (w1 := ?_) (v := ?_) (by rfl) rfl ?_ ?_
                    rotate_left 2
                    · go_simp
                      constructor
                      · rfl
                      · rfl
                    have hN := madeT m (hSep.out) (by omega)
                    refine hK.out _ _ trivial (fun hHeld => ?_)
                    clear hK K
                    refine norm_ (a' := ?_) ?_ ?_
                    rotate_left
                    · show Act.put _ (some 26) _ = _
                      simp only [Act.put, List.setIfInBounds_toArray, List.set_cons_zero, List.set_cons_succ, i64_w, i32_w]
                      rfl
                    exact norm_ (by first | (simp only [putAll, Act.put, List.setIfInBounds_toArray, List.set_cons_zero, List.set_cons_succ]; done) | (simp only [putAll, Act.put, List.setIfInBounds_toArray, List.set_cons_zero, List.set_cons_succ]; rfl)) (hJ0_3_7 (v0_, v3_, .slice (some ⟨(W_).heap.size, 0, none⟩) m m) _ hN.to3)
              · skip
                rintro ⟨v0_, v2_⟩ W_ hQ_
                have hSep : Aside0 (Sep w W_ ((Row U8 5 (v2_) l) :: [])) := ⟨hQ_⟩
                clear hQ_
                have hHeld := trivial
                refine norm_ (a' := ?_) ?_ ?_
                rotate_left
                · simp only [putAll, Act.put, List.setIfInBounds_toArray, List.set_cons_zero, List.set_cons_succ]
                  rfl
                refine two_ (i := 3) (j := 7) (Ni := some 22) (Nj := some 26) #[true, true, true, true, true, false, true, false, false, false, false] #[true, true, true, false, true, false, true, true, false, false, false] rfl rfl rfl rfl (by kernel_rfl) (by decide) (by decide) (fun K hK => ?_) (fun K hK => ?_)
                · skip
                  refine value_ (w1 := ?_) (v := ?_) (by rfl) rfl ?_ ?_
                  rotate_left 2
                  · go_simp
                    constructor
                    · rfl
                    · rfl
                  have hN := (hSep.out).litRow (enc := Value.int .u8) (h1 := fun _ => rfl) (e := 5) [] (by decide)
                  refine hK.out _ _ trivial (fun hHeld => ?_)
                  clear hK K
                  refine norm_ (a' := ?_) ?_ ?_
                  rotate_left
                  · show Act.put _ (some 22) _ = _
                    simp only [Act.put, List.setIfInBounds_toArray, List.set_cons_zero, List.set_cons_succ, i64_w, i32_w]
                    rfl
                  exact norm_ (by first | (simp only [putAll, Act.put, List.setIfInBounds_toArray, List.set_cons_zero, List.set_cons_succ]; done) | (simp only [putAll, Act.put, List.setIfInBounds_toArray, List.set_cons_zero, List.set_cons_succ]; rfl)) (hJ0_2_3 (v0_, v2_, .slice (some ⟨(W_).heap.size, 0, none⟩) 0 0) _ hN.at2)
                · skip
                  refine value_ (w1 := ?_) (v := ?_) (by rfl) rfl ?_ ?_
                  rotate_left 2
                  · go_simp
                    constructor
                    · rfl
                    · rfl
                  have hN := madeT m (hSep.out) (by omega)
                  refine hK.out _ _ trivial (fun hHeld => ?_)
                  clear hK K
                  refine norm_ (a' := ?_) ?_ ?_
                  rotate_left
                  · show Act.put _ (some 26) _ = _
                    simp only [Act.put, List.setIfInBounds_toArray, List.set_cons_zero, List.set_cons_succ, i64_w, i32_w]
                    rfl
                  exact norm_ (by first | (simp only [putAll, Act.put, List.setIfInBounds_toArray, List.set_cons_zero, List.set_cons_succ]; done) | (simp only [putAll, Act.put, List.setIfInBounds_toArray, List.set_cons_zero, List.set_cons_succ]; rfl)) (hJ0_2_7 (v0_, v2_, .slice (some ⟨(W_).heap.size, 0, none⟩) m m) _ hN.at2)
            · skip
              rintro ⟨v0_, v3_, v7_⟩ W_ hQ_
              have hSep : Aside0 (Sep w W_ ((Row U8 5 (v0_) []) :: (Row U8 5 (v3_) []) :: (Row BK 4 (v7_) (List.replicate m false)) :: [])) := ⟨hQ_⟩
              clear hQ_
              have hHeld := trivial
              refine norm_ (a' := ?_) ?_ ?_
              rotate_left
              · simp only [putAll, Act.put, List.setIfInBounds_toArray, List.set_cons_zero, List.set_cons_succ]
                rfl
              refine one_ (i := 2) (N := some 21) #[true, true, true, true, true, false, true, true, false, false, false] rfl rfl (by kernel_rfl) (by decide) (fun K hK => ?_)
              refine ((hSep.out)).appendStep (by rfl) (.tmp 19) (.tmp 20) 24 (.int .u8 0) 1 rfl Tryz.underlying24 infoB rfl (by decide) A (64 * m) c (by rfl) (by rfl) (Kd.C_below AR.out ((hSep.out)).toBelow) (by simp only [List.length_nil]; rw [AL.out]; omega) ?_
              intro vn_ wn_ hN
              rw [List.nil_append] at hN
              refine hK.out _ _ trivial (fun hHeld => ?_)
              clear hK K
              refine norm_ (a' := ?_) ?_ ?_
              rotate_left
              · show Act.put _ (some 21) _ = _
                simp only [Act.put, List.setIfInBounds_toArray, List.set_cons_zero, List.set_cons_succ, i64_w, i32_w]
                rfl
              exact norm_ (by first | (simp only [putAll, Act.put, List.setIfInBounds_toArray, List.set_cons_zero, List.set_cons_succ]; done) | (simp only [putAll, Act.put, List.setIfInBounds_toArray, List.set_cons_zero, List.set_cons_succ]; rfl)) (hJ0_2_3_7 (v0_, vn_, v3_, v7_) _ hN)
          · skip
            rintro ⟨v0_, v2_, v7_⟩ W_ hQ_
            have hSep : Aside0 (Sep w W_ ((Row U8 5 (v2_) l) :: (Row BK 4 (v7_) (List.replicate m false)) :: [])) := ⟨hQ_⟩
            clear hQ_
            have hHeld := trivial
            refine norm_ (a' := ?_) ?_ ?_
            rotate_left
            · simp only [putAll, Act.put, List.setIfInBounds_toArray, List.set_cons_zero, List.set_cons_succ]
              rfl
            refine one_ (i := 3) (N := some 22) #[true, true, true, true, true, false, true, true, false, false, false] rfl rfl (by kernel_rfl) (by decide) (fun K hK => ?_)
            refine value_ (w1 := ?_) (v := ?_) (by rfl) rfl ?_ ?_
            rotate_left 2
            · go_simp
              constructor
              · rfl
              · rfl
            have hN := (hSep.out).litRow (enc := Value.int .u8) (h1 := fun _ => rfl) (e := 5) [] (by decide)
            refine hK.out _ _ trivial (fun hHeld => ?_)
            clear hK K
            refine norm_ (a' := ?_) ?_ ?_
            rotate_left
            · show Act.put _ (some 22) _ = _
              simp only [Act.put, List.setIfInBounds_toArray, List.set_cons_zero, List.set_cons_succ, i64_w, i32_w]
              rfl
            exact norm_ (by first | (simp only [putAll, Act.put, List.setIfInBounds_toArray, List.set_cons_zero, List.set_cons_succ]; done) | (simp only [putAll, Act.put, List.setIfInBounds_toArray, List.set_cons_zero, List.set_cons_succ]; rfl)) (hJ0_2_3_7 (v0_, v2_, .slice (some ⟨(W_).heap.size, 0, none⟩) 0 0, v7_) _ hN.at2)
        · skip
          rintro ⟨v0_, v2_, v3_⟩ W_ hQ_
          have hSep : Aside0 (Sep w W_ ((Row U8 5 (v2_) l) :: (Row U8 5 (v3_) []) :: [])) := ⟨hQ_⟩
          clear hQ_
          have hHeld := trivial
          refine norm_ (a' := ?_) ?_ ?_
          rotate_left
          · simp only [putAll, Act.put, List.setIfInBounds_toArray, List.set_cons_zero, List.set_cons_succ]
            rfl
          refine two_ (i := 5) (j := 7) (Ni := some 24) (Nj := some 26) #[true, true, true, true, true, true, true, false, false, false, false] #[true, true, true, true, true, false, true, true, false, false, false] rfl rfl rfl rfl (by kernel_rfl) (by decide) (by decide) (fun K hK => ?_) (fun K hK => ?_)
          · skip
            refine ((hSep.out).at2).appendStep (by rfl) (.tmp 22) (.tmp 23) 24 (.int .u8 0) 1 rfl Tryz.underlying24 infoB rfl (by decide) A (64 * m) c (by rfl) (by rfl) (Kd.C_below AR.out ((hSep.out).at2).toBelow) (by simp only [List.length_nil]; rw [AL.out]; omega) ?_
            intro vn_ wn_ hN
            rw [List.nil_append] at hN
            refine hK.out _ _ trivial (fun hHeld => ?_)
            clear hK K
            refine norm_ (a' := ?_) ?_ ?_
            rotate_left
            · show Act.put _ (some 24) _ = _
              simp only [Act.put, List.setIfInBounds_toArray, List.set_cons_zero, List.set_cons_succ, i64_w, i32_w]
              rfl
            exact norm_ (by first | (simp only [putAll, Act.put, List.setIfInBounds_toArray, List.set_cons_zero, List.set_cons_succ]; done) | (simp only [putAll, Act.put, List.setIfInBounds_toArray, List.set_cons_zero, List.set_cons_succ]; rfl)) (hJ0_2_3_5 (v0_, v2_, v3_, vn_) _ hN.at2)
          · skip
            refine value_ (w1 := ?_) (v := ?_) (by rfl) rfl ?_ ?_
            rotate_left 2
            · go_simp
              constructor
              · rfl
              · rfl
            have hN := madeT m (hSep.out) (by omega)
            refine hK.out _ _ trivial (fun hHeld => ?_)
            clear hK K
            refine norm_ (a' := ?_) ?_ ?_
            rotate_left
            · show Act.put _ (some 26) _ = _
              simp only [Act.put, List.setIfInBounds_toArray, List.set_cons_zero, List.set_cons_succ, i64_w, i32_w]
              rfl
            exact norm_ (by first | (simp only [putAll, Act.put, List.setIfInBounds_toArray, List.set_cons_zero, List.set_cons_succ]; done) | (simp only [putAll, Act.put, List.setIfInBounds_toArray, List.set_cons_zero, List.set_cons_succ]; rfl)) (hJ0_2_3_7 (v0_, v2_, v3_, .slice (some ⟨(W_).heap.size, 0, none⟩) m m) _ hN.to3)
      · skip
        rintro ⟨v0_, v2_, v3_, v7_⟩ W_ hQ_
        have hSep : Aside0 (Sep w W_ ((Row U8 5 (v2_) l) :: (Row U8 5 (v3_) []) :: (Row BK 4 (v7_) (List.replicate m false)) :: [])) := ⟨hQ_⟩
        clear hQ_
        have hHeld := trivial
        refine norm_ (a' := ?_) ?_ ?_
        rotate_left
        · simp only [putAll, Act.put, List.setIfInBounds_toArray, List.set_cons_zero, List.set_cons_succ]
          rfl
        refine one_ (i := 5) (N := some 24) #[true, true, true, true, true, true, true, true, false, false, false] rfl rfl (by kernel_rfl) (by decide) (fun K hK => ?_)
        refine ((hSep.out).at2).appendStep (by rfl) (.tmp 22) (.tmp 23) 24 (.int .u8 0) 1 rfl Tryz.underlying24 infoB rfl (by decide) A (64 * m) c (by rfl) (by rfl) (Kd.C_below AR.out ((hSep.out).at2).toBelow) (by simp only [List.length_nil]; rw [AL.out]; omega) ?_
        intro vn_ wn_ hN
        rw [List.nil_append] at hN
        refine hK.out _ _ trivial (fun hHeld => ?_)
        clear hK K
        refine norm_ (a' := ?_) ?_ ?_
        rotate_left
        · show Act.put _ (some 24) _ = _
          simp only [Act.put, List.setIfInBounds_toArray, List.set_cons_zero, List.set_cons_succ, i64_w, i32_w]
          rfl
        exact norm_ (by first | (simp only [putAll, Act.put, List.setIfInBounds_toArray, List.set_cons_zero, List.set_cons_succ]; done) | (simp only [putAll, Act.put, List.setIfInBounds_toArray, List.set_cons_zero, List.set_cons_succ]; rfl)) (hJ0_2_3_5_7 (v0_, v2_, v3_, vn_, v7_) _ hN.at2)
    · skip
      rintro ⟨v0_, v2_, v3_, v5_⟩ W_ hQ_
      have hSep : Aside0 (Sep w W_ ((Row U8 5 (v2_) l) :: (Row U8 5 (v5_) l) :: [])) := ⟨hQ_⟩
      clear hQ_
      have hHeld := trivial
      refine norm_ (a' := ?_) ?_ ?_
      rotate_left
      · simp only [putAll, Act.put, List.setIfInBounds_toArray, List.set_cons_zero, List.set_cons_succ]
        rfl
      refine one_ (i := 7) (N := some 26) #[true, true, true, true, true, true, true, true, false, false, false] rfl rfl (by kernel_rfl) (by decide) (fun K hK => ?_)
      refine value_ (w1 := ?_) (v := ?_) (by rfl) rfl ?_ ?_
      rotate_left 2
      · go_simp
        constructor
        · rfl
        · rfl
      have hN := madeT m (hSep.out) (by omega)
      refine hK.out _ _ trivial (fun hHeld => ?_)
      clear hK K
      refine norm_ (a' := ?_) ?_ ?_
      rotate_left
      · show Act.put _ (some 26) _ = _
        simp only [Act.put, List.setIfInBounds_toArray, List.set_cons_zero, List.set_cons_succ, i64_w, i32_w]
        rfl
      exact norm_ (by first | (simp only [putAll, Act.put, List.setIfInBounds_toArray, List.set_cons_zero, List.set_cons_succ]; done) | (simp only [putAll, Act.put, List.setIfInBounds_toArray, List.set_cons_zero, List.set_cons_succ]; rfl)) (hJ0_2_3_5_7 (v0_, v2_, v3_, v5_, .slice (some ⟨(W_).heap.size, 0, none⟩) m m) _ hN.to3)
  rintro ⟨v0_, v2_, v3_, v5_, v7_⟩ W_ hQ_
  have hSep : Aside0 (Sep w W_ ((Row U8 5 (v2_) l) :: (Row U8 5 (v5_) l) :: (Row BK 4 (v7_) (List.replicate m false)) :: [])) := ⟨hQ_⟩
  clear hQ_
  have hHeld := trivial
  obtain ⟨A2, c2, rfl⟩ := hSep.out.rowN AL.out
  obtain ⟨A5, c5, rfl⟩ := hSep.out.at2.rowN AL.out
  obtain ⟨A7, c7, rfl⟩ := hSep.out.at3.rowN (List.length_replicate ..)
  refine norm_ (a' := ?_) ?_ ?_
  rotate_left
  · simp only [putAll, Act.put, List.setIfInBounds_toArray, List.set_cons_zero, List.set_cons_succ]
    rfl
  refine pure_ (i := 8) (N := some 27) (v := ?_) (a' := ?_) #[true, true, true, true, true, true, true, true, true, false, false] rfl rfl (by kernel_rfl) (fun _ _ _ h => h) (Or.inl ⟨by rfl, ?_⟩) ?_ ?_
  rotate_left
  · intro w'
    go_simp
    with_reducible rfl
  rotate_left
  · simp only [Act.put, List.setIfInBounds_toArray, List.set_cons_zero, List.set_cons_succ, i64_w, i32_w]
    rfl
  refine one_ (i := 9) (N := some 28) #[true, true, true, true, true, true, true, true, true, true, false] rfl rfl (by kernel_rfl) (by decide) (fun K hK => ?_)
  refine value_ (w1 := ?_) (v := ?_) (by rfl) rfl ?_ ?_
  rotate_left 2
  · go_simp
    constructor
    · rfl
    · rfl
  refine hK.out _ _ trivial (fun hHeld => ?_)
  clear hK K
  refine norm_ (a' := ?_) ?_ ?_
  rotate_left
  · show Act.put _ (some 28) _ = _
    simp only [Act.put, List.setIfInBounds_toArray, List.set_cons_zero, List.set_cons_succ, i64_w, i32_w]
    rfl
  refine pure_ (i := 10) (N := some 2) (v := ?_) (a' := ?_) #[true, true, true, true, true, true, true, true, true, true, true] rfl rfl (by kernel_rfl) (fun _ _ _ h => h) (Or.inl ⟨by rfl, ?_⟩) ?_ ?_
  rotate_left
  · intro w'
    go_simp
    with_reducible rfl
  rotate_left
  · simp only [Act.put, List.setIfInBounds_toArray, List.set_cons_zero, List.set_cons_succ, i64_w, i32_w]
    rfl
  refine done_ (by kernel_rfl) ?_
  go_wp2_with fail
  go_ret
  have h6 := hSep.out.newBlk 93 #[.slice A2 (64 * m) c2, .slice A5 (64 * m) c5, .slice A7 m c7, .int .i64 (-1), .int .i64 0]
  exact ⟨_, rfl, shut_ h1 h2 AL.out AL.out (List.length_replicate ..) h6⟩
end Go.Proofs.YtjngnigelkgekaaGreat.Ref
namespace Go.Proofs.YtjngnigelkgekaaGreat.Ref
set_option linter.unusedVariables false
set_option linter.unusedSimpArgs false
open Go.RowKit Go.Proofs.YtjngnigelkgekaaGreatW.PrintWords Go.Proofs.YtjngnigelkgekaaGreatW.PrintLast Go.Proofs.YtjngnigelkgekaaGreatW.PrintMore Go.Proofs.YtjngnigelkgekaaGreat.Kit Go.Proofs.YtjngnigelkgekaaGreat.Disk
theorem cutF_ {g N c j : Nat} {J : Int} (hJ : J = (j : Int)) (hj : j < N) (hc : N ≤ c) : ∀ W : World, (Instr.slice 24 (.slice (some ⟨g, 0, none⟩) N c) (some (.int .i64 J)) none none).run Tryz.prog W = .ok (.slice (some ⟨g, j, none⟩) (N - j) (c - j)) W := by
  obtain ⟨i, hi, hz⟩ := Option.map_eq_some_iff.1 infoB
  simp only [Prod.mk.injEq] at hz
  have := cut_from (P := Tryz.prog) 24 5 .i64 Tryz.underlying24 hi 1 hz.2.1 (some ⟨g, 0, none⟩) N c J (by omega) (by omega)
  subst hJ
  rw [Int.toNat_natCast, if_neg (by omega)] at this
  intro W
  rw [this W]
  simp [Addr.add]
  try exact fun h => h.symm
theorem cutM_ {g N c j k : Nat} {J K : Int} (hJ : J = (j : Int)) (hK : K = (k : Int)) (hjk : j ≤ k) (hj : j < c) (hk : k ≤ N) (hc : N ≤ c) : ∀ W : World, (Instr.slice 24 (.slice (some ⟨g, 0, none⟩) N c) (some (.int .i64 J)) (some (.int .i64 K)) none).run Tryz.prog W = .ok (.slice (some ⟨g, j, none⟩) (k - j) (c - j)) W := by
  obtain ⟨i, hi, hz⟩ := Option.map_eq_some_iff.1 infoB
  simp only [Prod.mk.injEq] at hz
  have := cut_mid (P := Tryz.prog) 24 5 .i64 .i64 Tryz.underlying24 hi 1 hz.2.1 (some ⟨g, 0, none⟩) N c J K (by omega) (by omega) (by omega) hc
  subst hJ hK
  rw [Int.toNat_natCast, Int.toNat_natCast, if_neg (by omega)] at this
  intro W
  rw [this W]
  simp [Addr.add]
  try exact fun h => h.symm
end Go.Proofs.YtjngnigelkgekaaGreat.Ref
namespace Go.Proofs.YtjngnigelkgekaaGreat.Ref
set_option linter.unusedVariables false
set_option linter.unusedSimpArgs false
open Go.RowKit Go.Proofs.YtjngnigelkgekaaGreatW.PrintWords Go.Proofs.YtjngnigelkgekaaGreatW.PrintLast Go.Proofs.YtjngnigelkgekaaGreatW.PrintMore Go.Proofs.YtjngnigelkgekaaGreat.Kit Go.Proofs.YtjngnigelkgekaaGreat.Disk
section
variable {w0 W : World} {g n : Nat} {las now : List Int} {wait : List Bool} {left done : Int} {F : List HP}
set_option maxHeartbeats 400000 in
theorem read_out (h : Sep w0 W (RD g n las now wait left done :: F)) (i : Int) (hi : ¬ (0 ≤ i ∧ i < (n : Int))) :
    Calls Tryz.prog 109 #[.pointer (some ⟨g, 0, none⟩), .int .i64 i] W fun e w' => e = .returned (.tuple #[.slice none 0 0, .bool false]) ∧ W = w' := by
  have AS := Aside0.mk h
  clear h
  by_cases h1 : i < 0
  · clear hi
    go_enter Tryz.func109, Tryz.ntmps109
    go_wp2
    go_ret2
    exact ⟨by first | rfl | (simp; done), rfl⟩
  · have h2 : (n : Int) ≤ i := by omega
    clear hi
    go_enter Tryz.func109, Tryz.ntmps109
    go_wp2_with fail
    refine (len_ AS.out).mono ?_
    rintro e w' ⟨rfl, rfl⟩
    go_wp2
    go_ret2
    exact ⟨by first | rfl | (simp; done), rfl⟩
set_option maxHeartbeats 800000 in
set_option maxRecDepth 100000 in
theorem read_in (h : Sep w0 W (RD g n las now wait left done :: F)) (i : Nat) (hi : i < n) :
    Calls Tryz.prog 109 #[.pointer (some ⟨g, 0, none⟩), .int .i64 (i : Int)] W fun e w' => ∃ v, e = .returned (.tuple #[v, .bool true]) ∧ Sep w0 w' (Row U8 5 v (sec now i) :: RD g n las now wait left done :: F) := by
  obtain ⟨gl, cl, gn, cn, gw, cw, ⟨n1, n2, n3, n4, n5, n6, n7, n8⟩, hs⟩ := open_ h
  have c1 : (W.alloc (.cells #[] 5)).cell? ⟨g, 1, none⟩ = some (.slice (some ⟨gn, 0, none⟩) (64 * n) cn) := ((hs.alloc _).cell 1).trans rfl
  have hcut := cutM_ (g := gn) (N := 64 * n) (c := cn) (j := 64 * i) (k := 64 * i + 64) (J := (i : Int) * 64) (K := ((i : Int) + 1) * 64) (by omega) (by omega) (by omega) (by omega) (by omega) n7
  have hr := hs.tail.tail.rowC.2.2
  have AP := Aside0.mk (C_piece hr (64 * i) 64 (by omega))
  have AL := Aside0.mk (h.litRow (enc := Value.int .u8) (h1 := fun _ => rfl) (e := 5) [] (by decide))
  have AS := Aside0.mk h
  have h1 : ¬ (i : Int) < 0 := by omega
  have h2 : ¬ (n : Int) ≤ (i : Int) := by omega
  have h64 : 64 * i + 64 - 64 * i = 64 := by omega
  clear h hs hr n3 n4 n5 n6 n7 n8
  go_enter Tryz.func109, Tryz.ntmps109
  go_wp2_with fail
  refine (len_ AS.out).mono ?_
  rintro e w' ⟨rfl, rfl⟩
  go_wp2_with (first | (refine gate_builtin (b := .append) (xs := #[.tmp 14, .tmp 24]) rfl ?_; go_loud (refine AL.out.appendRow rfl (.tmp 14) (.tmp 24) 24 (.int .u8 0) 1 rfl Tryz.underlying24 infoB rfl (by decide) (some ⟨gn, 64 * i, none⟩) 64 (cn - 64 * i) rfl rfl (Kd.C_alloc AP.out _) (by simp; omega) ?_; intro v1 w1 hS1; rw [List.nil_append] at hS1; have A1 := Aside0.mk hS1; clear hS1)))
  go_ret2
  exact ⟨_, by first | rfl | (simp; done), A1.out⟩
end
end Go.Proofs.YtjngnigelkgekaaGreat.Ref
namespace Go.Proofs.YtjngnigelkgekaaGreat.Ref
set_option linter.unusedVariables false
set_option linter.unusedSimpArgs false
open Go.RowKit Go.Proofs.YtjngnigelkgekaaGreatW.PrintWords Go.Proofs.YtjngnigelkgekaaGreatW.PrintLast Go.Proofs.YtjngnigelkgekaaGreatW.PrintMore Go.Proofs.YtjngnigelkgekaaGreat.Kit Go.Proofs.YtjngnigelkgekaaGreat.Disk
def waitL (n : Nat) (wt : Wt) : List Bool := (List.range n).map (fun i => (wt i).isSome)
theorem waitL_none (n : Nat) : waitL n (fun _ => none) = List.replicate n false := by
  apply List.ext_getElem?
  intro i
  unfold waitL
  by_cases hi : i < n
  · rw [List.getElem?_map, List.getElem?_range hi, List.getElem?_replicate, if_pos hi]; rfl
  · rw [List.getElem?_eq_none (by simp; omega), List.getElem?_eq_none (by simp; omega)]
theorem flushed_write {las : List Int} {wt : Wt} {n i : Nat} {b : List Int} (hl : las.length = 64 * n) (hw : ∀ i b, wt i = some b → b.length = 64) (hi : i < n) (hb : b.length = 64) :
    over (flushed las wt) (64 * i) b = flushed las (fun j => if j = i then some b else wt j) := by
  unfold flushed
  rw [show las.length / 64 = n by omega]
  have hs : ∀ k, k < n → ((wt k).getD (sec las k)).length = 64 := fun k hk => by
    cases h : wt k with
    | none => exact sec_len (by omega)
    | some c => exact hw k c h
  rw [over_secs hs hi (by omega)]
  refine secs_congr fun k hk => ?_
  by_cases hki : k = i
  · simp only [if_pos hki, Option.getD_some]
    rw [List.drop_eq_nil_of_le (by rw [hs k hk, hb]; exact Nat.le_refl _), List.append_nil]
  · simp only [if_neg hki]
theorem sec_flushed {las : List Int} {wt : Wt} {n i : Nat} (hl : las.length = 64 * n) (hw : ∀ i b, wt i = some b → b.length = 64) (hi : i < n) : sec (flushed las wt) i = (wt i).getD (sec las i) := by
  unfold flushed
  rw [show las.length / 64 = n by omega]
  refine sec_secs (fun k hk => ?_) hi
  cases h : wt k with
  | none => exact sec_len (by omega)
  | some c => exact hw k c h
theorem flushed_len {las : List Int} {wt : Wt} {n : Nat} (h : las.length = 64 * n) (hw : ∀ i b, wt i = some b → b.length = 64) : (flushed las wt).length = 64 * n := by
  unfold flushed
  rw [show las.length / 64 = n by omega]
  refine secs_len fun i hi => ?_
  cases hb : wt i with
  | none => exact sec_len (by omega)
  | some b => exact hw i b hb
end Go.Proofs.YtjngnigelkgekaaGreat.Ref
namespace Go.Proofs.YtjngnigelkgekaaGreat.Book
end Go.Proofs.YtjngnigelkgekaaGreat.Book
namespace Go.Proofs.YtjngnigelkgekaaGreat.Kit.Sep
end Go.Proofs.YtjngnigelkgekaaGreat.Kit.Sep
namespace Go.Proofs.YtjngnigelkgekaaGreat.Ref
end Go.Proofs.YtjngnigelkgekaaGreat.Ref
namespace Go.Proofs.YtjngnigelkgekaaGreat.Ref
set_option linter.unusedVariables false
set_option linter.unusedSimpArgs false
open Go.RowKit Go.Proofs.YtjngnigelkgekaaGreatW.PrintWords Go.Proofs.YtjngnigelkgekaaGreatW.PrintLast Go.Proofs.YtjngnigelkgekaaGreatW.PrintMore Go.Proofs.YtjngnigelkgekaaGreat.Kit Go.Proofs.YtjngnigelkgekaaGreat.Disk
section
variable {w0 W : World} {g gr n : Nat} {las : List Int} {done : Nat} {F : List HP} {wt : Wt}
theorem rread_ {left dn : Int} (h : Sep w0 W (RD gr n las (flushed las wt) (waitL n wt) left dn :: F)) (hl : las.length = 64 * n) (hw : ∀ i b, wt i = some b → b.length = 64) (i : Nat) (hi : i < n) :
    Calls Tryz.prog 109 #[.pointer (some ⟨gr, 0, none⟩), .int .i64 (i : Int)] W fun e w' => ∃ v, e = .returned (.tuple #[v, .bool true]) ∧ Sep w0 w' (Row U8 5 v ((wt i).getD (sec las i)) :: RD gr n las (flushed las wt) (waitL n wt) left dn :: F) := by
  refine (read_in h i hi).mono ?_
  rintro e w' ⟨v, rfl, hS⟩
  rw [sec_flushed hl hw hi] at hS
  exact ⟨v, rfl, hS⟩
theorem got_len (hl : las.length = 64 * n) (hw : ∀ i b, wt i = some b → b.length = 64) {i : Nat} (hi : i < n) : ((wt i).getD (sec las i)).length = 64 := by
  cases h : wt i with
  | none => exact sec_len (by omega)
  | some b => exact hw i b h
theorem upd_len {i : Nat} {b : List Int} (hw : ∀ i b, wt i = some b → b.length = 64) (hb : b.length = 64) : ∀ k c, (fun j => if j = i then some b else wt j) k = some c → c.length = 64 := fun k c h => by
  by_cases hki : k = i
  · simp only [if_pos hki] at h; injection h with h; rw [← h]; exact hb
  · simp only [if_neg hki] at h; exact hw k c h
theorem none_len : ∀ (i : Nat) (b : List Int), (fun _ => none : Wt) i = some b → b.length = 64 := fun i b h => by cases h
end
end Go.Proofs.YtjngnigelkgekaaGreat.Ref
