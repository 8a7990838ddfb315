/- Alike19, Heal4, StDeed3, StRef4, StFmt2, StCm: what HealNumbers needs. -/
import Derived.Test.YtjngnigelkgekaaGreatThealNumbers27
set_option linter.unusedVariables false
set_option linter.unusedSimpArgs false
namespace Go.Proofs.YtjngnigelkgekaaGreat.Ref
open Go.RowKit Go.Proofs.YtjngnigelkgekaaGreatW.PrintWords Go.Proofs.YtjngnigelkgekaaGreatW.PrintLast Go.Proofs.YtjngnigelkgekaaGreatW.PrintMore Go.Proofs.YtjngnigelkgekaaGreat.Kit Go.Proofs.YtjngnigelkgekaaGreat.Disk
section
variable {w0 W : World} {g gr n : Nat} {las : List Int} {left done : Int} {F : List HP} {wt : Wt}
set_option maxHeartbeats 3200000 in
set_option maxRecDepth 100000 in
theorem alike19_ (h : Sep w0 W (Dsk g las wt :: RD gr n las (flushed las wt) (waitL n wt) left done :: F)) (hl : las.length = 64 * n) :
    Calls Tryz.prog 54 #[.pointer (some ⟨g, 0, none⟩), .pointer (some ⟨gr, 0, none⟩)] W fun e w' => e = .returned (.bool true) ∧ Sep w0 w' (Dsk g las wt :: RD gr n las (flushed las wt) (waitL n wt) left done :: F) := by
  have H0 := Aside0.mk h
  obtain ⟨gl, cl, gn, cn, gw, cw, ⟨n1, n2, n3, n4, n5, n6, n7, n8⟩, hs⟩ := open_ h.drew.at2
  have AS := Aside0.mk hs
  have HN := Aside0.mk (And.intro n3 (And.intro n4 n5))
  have HL := Aside0.mk hl
  have c0 : W.drew.cell? ⟨gr, 0, none⟩ = some (.slice (some ⟨gl, 0, none⟩) (64 * n) cl) := (hs.cell 0).trans rfl
  have c1 : W.drew.cell? ⟨gr, 1, none⟩ = some (.slice (some ⟨gn, 0, none⟩) (64 * n) cn) := (hs.cell 1).trans rfl
  have s0 := str_ hs.at2
  have s1 := str_ hs.at3
  clear h hs n3 n4 n5 hl
  go_enter Tryz.func54, Tryz.ntmps54
  go_wp2_with fail
  refine start_ (n := 28) (S := fun w' => w'.cell? ⟨gr, 0, none⟩ = some (.slice (some ⟨gl, 0, none⟩) (64 * n) cl) ∧ w'.cell? ⟨gr, 1, none⟩ = some (.slice (some ⟨gn, 0, none⟩) (64 * n) cn) ∧ (convert 24 9 (.slice (some ⟨gl, 0, none⟩) (64 * n) cl)).run Tryz.prog w' = .ok (.string (strOfNums las)) w' ∧ (convert 24 9 (.slice (some ⟨gn, 0, none⟩) (64 * n) cn)).run Tryz.prog w' = .ok (.string (strOfNums (flushed las wt))) w') (ds := [24, 25]) #[false, false, false, false, false, false, false, false, false, false, false, false, false, false, false, false, false, false, false, false, false, false, false, false, false, false, false, false] (by kernel_rfl) rfl rfl ⟨c0, c1, s0, s1⟩ (fun hHeld => ?_)
  refine pure_ (i := 0) (N := some 5) (v := ?_) (a' := ?_) #[true, false, false, false, false, false, false, false, false, false, false, false, false, false, false, false, false, false, false, false, false, false, false, false, false, false, false, false] rfl rfl (by kernel_rfl) (fun _ _ _ h => h) (Or.inl ⟨by rfl, ?_⟩) ?_ ?_
  rotate_left
  · intro w'
    go_simp
    with_reducible rfl
  rotate_left
  · simp only [Act.put, sIB, sCz, sCs, i64_w, i32_w]
    rfl
  refine pure_ (i := 3) (N := some 8) (v := ?_) (a' := ?_) #[true, false, false, true, false, false, false, false, false, false, false, false, false, false, false, false, false, false, false, false, false, false, false, false, false, false, false, false] rfl rfl (by kernel_rfl) (fun _ _ _ h => h) (Or.inl ⟨by rfl, ?_⟩) ?_ ?_
  rotate_left
  · intro w'
    go_simp
    with_reducible rfl
  rotate_left
  · simp only [Act.put, sIB, sCz, sCs, i64_w, i32_w]
    rfl
  refine pure_ (i := 4) (N := some 9) (v := ?_) (a' := ?_) #[true, false, false, true, true, false, false, false, false, false, false, false, false, false, false, false, false, false, false, false, false, false, false, false, false, false, false, false] rfl rfl (by kernel_rfl) (fun _ _ _ h => h) (Or.inl ⟨by rfl, ?_⟩) ?_ ?_
  rotate_left
  · intro w'
    go_simp
    with_reducible rfl
  rotate_left
  · simp only [Act.put, sIB, sCz, sCs, i64_w, i32_w]
    rfl
  refine pure_ (i := 5) (N := some 10) (v := ?_) (a' := ?_) #[true, false, false, true, true, true, false, false, false, false, false, false, false, false, false, false, false, false, false, false, false, false, false, false, false, false, false, false] rfl rfl (by kernel_rfl) (fun _ _ _ h => h) (Or.inl ⟨by rfl, ?_⟩) ?_ ?_
  rotate_left
  · intro w'
    go_simp
    with_reducible rfl
  rotate_left
  · simp only [Act.put, sIB, sCz, sCs, i64_w, i32_w]
    rfl
  refine take_ (i := 6) (N := some 11) (v := ?_) (a' := ?_) #[true, false, false, true, true, true, true, false, false, false, false, false, false, false, false, false, false, false, false, false, false, false, false, false, false, false, false, false] rfl rfl (by kernel_rfl) (fun _ _ _ h => h) (Or.inl ⟨by rfl, ?_⟩) hHeld ?_ ?_
  rotate_left
  · rintro w' ⟨s0, s1, s2, s3⟩
    go_simp
    with_reducible rfl
  rotate_left
  · simp only [Act.put, sIB, sCz, sCs, i64_w, i32_w]
    rfl
  refine take_ (i := 7) (N := some 12) (v := ?_) (a' := ?_) #[true, false, false, true, true, true, true, true, false, false, false, false, false, false, false, false, false, false, false, false, false, false, false, false, false, false, false, false] rfl rfl (by kernel_rfl) (fun _ _ _ h => h) (Or.inl ⟨by rfl, ?_⟩) hHeld ?_ ?_
  rotate_left
  · rintro w' ⟨s0, s1, s2, s3⟩
    go_simp
    with_reducible rfl
  rotate_left
  · simp only [Act.put, sIB, sCz, sCs, i64_w, i32_w]
    rfl
  refine one_ (i := 1) (N := some 6) #[true, true, false, true, true, true, true, true, false, false, false, false, false, false, false, false, false, false, false, false, false, false, false, false, false, false, false, false] rfl rfl (by kernel_rfl) (by decide) (fun K hK => ?_)
  refine goes_ Tryz.func21 (by kernel_rfl) rfl #[.pointer (some ⟨g, 0, none⟩)] (by rfl) rfl rfl (by simp only [List.map_toArray, List.map_cons, List.map_nil]; rfl) ?_
  with_reducible refine (image_ (W := W.drew) AS.out.at5).mono ?_
  rintro e w3 ⟨v3, rfl, hS3⟩
  refine ⟨_, rfl, ?_⟩
  obtain ⟨A3, c3, rfl⟩ := hS3.rowN HL.out
  have hs3 := str_ hS3
  have AS3 := Aside0.mk hS3.tail
  clear hS3
  refine hK.out _ _ ⟨(AS3.out.at2.cell 0).trans rfl, (AS3.out.at2.cell 1).trans rfl, str_ AS3.out.at3, str_ AS3.out.at4⟩ (fun hHeld => ?_)
  clear hK K
  refine norm_ (a' := ?_) ?_ ?_
  rotate_left
  · show Act.put _ (some 6) _ = _
    simp only [Act.put, sIB, sCz, sCs, i64_w, i32_w]
    rfl
  refine one_ (i := 2) (N := some 7) #[true, true, true, true, true, true, true, true, false, false, false, false, false, false, false, false, false, false, false, false, false, false, false, false, false, false, false, false] rfl rfl (by kernel_rfl) (by decide) (fun K hK => ?_)
  refine value_ (w1 := ?_) (v := ?_) (by rfl) rfl ?_ ?_
  rotate_left 2
  · go_simp
    constructor
    · rfl
    · rfl
  refine hK.out _ _ ⟨(AS3.out.at2.cell 0).trans rfl, (AS3.out.at2.cell 1).trans rfl, str_ AS3.out.at3, str_ AS3.out.at4⟩ (fun hHeld => ?_)
  clear hK K
  refine norm_ (a' := ?_) ?_ ?_
  rotate_left
  · show Act.put _ (some 7) _ = _
    simp only [Act.put, sIB, sCz, sCs, i64_w, i32_w]
    rfl
  refine pure_ (i := 8) (N := some 13) (v := ?_) (a' := ?_) #[true, true, true, true, true, true, true, true, true, false, false, false, false, false, false, false, false, false, false, false, false, false, false, false, false, false, false, false] rfl rfl (by kernel_rfl) (fun _ _ _ h => h) (Or.inl ⟨by rfl, ?_⟩) ?_ ?_
  rotate_left
  · intro w'
    go_simp
    with_reducible rfl
  rotate_left
  · simp only [Act.put, sIB, sCz, sCs, i64_w, i32_w]
    rfl
  refine pure_ (i := 9) (N := some 14) (v := ?_) (a' := ?_) #[true, true, true, true, true, true, true, true, true, true, false, false, false, false, false, false, false, false, false, false, false, false, false, false, false, false, false, false] rfl rfl (by kernel_rfl) (fun _ _ _ h => h) (Or.inl ⟨by rfl, ?_⟩) ?_ ?_
  rotate_left
  · intro w'
    go_simp
    with_reducible rfl
  rotate_left
  · simp only [Act.put, sIB, sCz, sCs, i64_w, i32_w]
    rfl
  refine pure_ (i := 10) (N := some 15) (v := ?_) (a' := ?_) #[true, true, true, true, true, true, true, true, true, true, true, false, false, false, false, false, false, false, false, false, false, false, false, false, false, false, false, false] rfl rfl (by kernel_rfl) (fun _ _ _ h => h) (Or.inl ⟨by rfl, ?_⟩) ?_ ?_
  rotate_left
  · intro w'
    go_simp
    with_reducible rfl
  rotate_left
  · simp only [Act.put, sIB, sCz, sCs, i64_w, i32_w]
    rfl
  refine pure_ (i := 13) (N := some 18) (v := ?_) (a' := ?_) #[true, true, true, true, true, true, true, true, true, true, true, false, false, true, false, false, false, false, false, false, false, false, false, false, false, false, false, false] rfl rfl (by kernel_rfl) (fun _ _ _ h => h) (Or.inl ⟨by rfl, ?_⟩) ?_ ?_
  rotate_left
  · intro w'
    go_simp
    with_reducible rfl
  rotate_left
  · simp only [Act.put, sIB, sCz, sCs, i64_w, i32_w]
    rfl
  refine pure_ (i := 14) (N := some 19) (v := ?_) (a' := ?_) #[true, true, true, true, true, true, true, true, true, true, true, false, false, true, true, false, false, false, false, false, false, false, false, false, false, false, false, false] rfl rfl (by kernel_rfl) (fun _ _ _ h => h) (Or.inl ⟨by rfl, ?_⟩) ?_ ?_
  rotate_left
  · intro w'
    go_simp
    with_reducible rfl
  rotate_left
  · simp only [Act.put, sIB, sCz, sCs, i64_w, i32_w]
    rfl
  refine pure_ (i := 15) (N := some 20) (v := ?_) (a' := ?_) #[true, true, true, true, true, true, true, true, true, true, true, false, false, true, true, true, false, false, false, false, false, false, false, false, false, false, false, false] rfl rfl (by kernel_rfl) (fun _ _ _ h => h) (Or.inl ⟨by rfl, ?_⟩) ?_ ?_
  rotate_left
  · intro w'
    go_simp
    with_reducible rfl
  rotate_left
  · simp only [Act.put, sIB, sCz, sCs, i64_w, i32_w]
    rfl
  refine take_ (i := 16) (N := some 21) (v := ?_) (a' := ?_) #[true, true, true, true, true, true, true, true, true, true, true, false, false, true, true, true, true, false, false, false, false, false, false, false, false, false, false, false] rfl rfl (by kernel_rfl) (fun _ _ _ h => h) (Or.inl ⟨by rfl, ?_⟩) hHeld ?_ ?_
  rotate_left
  · rintro w' ⟨s0, s1, s2, s3⟩
    go_simp
    with_reducible rfl
  rotate_left
  · simp only [Act.put, sIB, sCz, sCs, i64_w, i32_w]
    rfl
  refine take_ (i := 17) (N := some 22) (v := ?_) (a' := ?_) #[true, true, true, true, true, true, true, true, true, true, true, false, false, true, true, true, true, true, false, false, false, false, false, false, false, false, false, false] rfl rfl (by kernel_rfl) (fun _ _ _ h => h) (Or.inl ⟨by rfl, ?_⟩) hHeld ?_ ?_
  rotate_left
  · rintro w' ⟨s0, s1, s2, s3⟩
    go_simp
    with_reducible rfl
  rotate_left
  · simp only [Act.put, sIB, sCz, sCs, i64_w, i32_w]
    rfl
  refine one_ (i := 11) (N := some 16) #[true, true, true, true, true, true, true, true, true, true, true, true, false, true, true, true, true, true, false, false, false, false, false, false, false, false, false, false] rfl rfl (by kernel_rfl) (by decide) (fun K hK => ?_)
  refine goes_ Tryz.func90 (by kernel_rfl) rfl #[.pointer (some ⟨g, 0, none⟩)] (by rfl) rfl rfl (by simp only [List.map_toArray, List.map_cons, List.map_nil]; rfl) ?_
  with_reducible refine (seen_ AS3.out).mono ?_
  rintro e w4 ⟨v4, rfl, hS4⟩
  refine ⟨_, rfl, ?_⟩
  obtain ⟨A4, c4, rfl⟩ := hS4.rowN HN.out.2.1
  have hs4 := str_ hS4
  have AS4 := Aside0.mk hS4.tail
  clear hS4
  refine hK.out _ _ ⟨(AS4.out.at2.cell 0).trans rfl, (AS4.out.at2.cell 1).trans rfl, str_ AS4.out.at3, str_ AS4.out.at4⟩ (fun hHeld => ?_)
  clear hK K
  refine norm_ (a' := ?_) ?_ ?_
  rotate_left
  · show Act.put _ (some 16) _ = _
    simp only [Act.put, sIB, sCz, sCs, i64_w, i32_w]
    rfl
  refine one_ (i := 12) (N := some 17) #[true, true, true, true, true, true, true, true, true, true, true, true, true, true, true, true, true, true, false, false, false, false, false, false, false, false, false, false] rfl rfl (by kernel_rfl) (by decide) (fun K hK => ?_)
  refine value_ (w1 := ?_) (v := ?_) (by rfl) rfl ?_ ?_
  rotate_left 2
  · go_simp
    constructor
    · rfl
    · rfl
  refine hK.out _ _ ⟨(AS4.out.at2.cell 0).trans rfl, (AS4.out.at2.cell 1).trans rfl, str_ AS4.out.at3, str_ AS4.out.at4⟩ (fun hHeld => ?_)
  clear hK K
  refine norm_ (a' := ?_) ?_ ?_
  rotate_left
  · show Act.put _ (some 17) _ = _
    simp only [Act.put, sIB, sCz, sCs, i64_w, i32_w]
    rfl
  refine pure_ (i := 18) (N := some 23) (v := ?_) (a' := ?_) #[true, true, true, true, true, true, true, true, true, true, true, true, true, true, true, true, true, true, true, false, false, false, false, false, false, false, false, false] rfl rfl (by kernel_rfl) (fun _ _ _ h => h) (Or.inl ⟨by rfl, ?_⟩) ?_ ?_
  rotate_left
  · intro w'
    go_simp
    with_reducible rfl
  rotate_left
  · simp only [Act.put, sIB, sCz, sCs, i64_w, i32_w]
    rfl
  refine pure_ (i := 19) (N := some 24) (v := ?_) (a' := ?_) #[true, true, true, true, true, true, true, true, true, true, true, true, true, true, true, true, true, true, true, true, false, false, false, false, false, false, false, false] rfl rfl (by kernel_rfl) (fun _ _ _ h => h) (Or.inl ⟨by rfl, ?_⟩) ?_ ?_
  rotate_left
  · intro w'
    go_simp
    with_reducible rfl
  rotate_left
  · simp only [Act.put, sIB, sCz, sCs, i64_w, i32_w]
    rfl
  refine pure_ (i := 20) (N := some 25) (v := ?_) (a' := ?_) #[true, true, true, true, true, true, true, true, true, true, true, true, true, true, true, true, true, true, true, true, true, false, false, false, false, false, false, false] rfl rfl (by kernel_rfl) (fun _ _ _ h => h) (Or.inl ⟨by rfl, ?_⟩) ?_ ?_
  rotate_left
  · intro w'
    go_simp
    with_reducible rfl
  rotate_left
  · simp only [Act.put, sIB, sCz, sCs, i64_w, i32_w]
    rfl
  refine pure_ (i := 21) (N := some 26) (v := ?_) (a' := ?_) #[true, true, true, true, true, true, true, true, true, true, true, true, true, true, true, true, true, true, true, true, true, true, false, false, false, false, false, false] rfl rfl (by kernel_rfl) (fun _ _ _ h => h) (Or.inl ⟨by rfl, ?_⟩) ?_ ?_
  rotate_left
  · intro w'
    go_simp
    with_reducible rfl
  rotate_left
  · simp only [Act.put, sIB, sCz, sCs, i64_w, i32_w]
    rfl
  refine pure_ (i := 23) (N := some 28) (v := ?_) (a' := ?_) #[true, true, true, true, true, true, true, true, true, true, true, true, true, true, true, true, true, true, true, true, true, true, false, true, false, false, false, false] rfl rfl (by kernel_rfl) (fun _ _ _ h => h) (Or.inl ⟨by rfl, ?_⟩) ?_ ?_
  rotate_left
  · intro w'
    go_simp
    with_reducible rfl
  rotate_left
  · simp only [Act.put, sIB, sCz, sCs, i64_w, i32_w]
    rfl
  refine one_ (i := 22) (N := some 27) #[true, true, true, true, true, true, true, true, true, true, true, true, true, true, true, true, true, true, true, true, true, true, true, true, false, false, false, false] rfl rfl (by kernel_rfl) (by decide) (fun K hK => ?_)
  refine goes_ Tryz.func57 (by kernel_rfl) rfl #[.pointer (some ⟨g, 0, none⟩)] (by rfl) rfl rfl (by simp only [List.map_toArray, List.map_cons, List.map_nil]; rfl) ?_
  with_reducible refine (Disk.waits_ AS4.out).mono ?_
  rintro e w5 ⟨v5, rfl, hS5⟩
  refine ⟨_, rfl, ?_⟩
  obtain ⟨A5, c5, rfl⟩ := hS5.rowV
  have AS5 := Aside0.mk hS5
  clear hS5
  refine hK.out _ _ ⟨(AS5.out.at3.cell 0).trans rfl, (AS5.out.at3.cell 1).trans rfl, str_ AS5.out.at4, str_ AS5.out.at5⟩ (fun hHeld => ?_)
  clear hK K
  refine norm_ (a' := ?_) ?_ ?_
  rotate_left
  · show Act.put _ (some 27) _ = _
    simp only [Act.put, sIB, sCz, sCs, i64_w, i32_w]
    rfl
  refine last_ (i := 24) (N := some 29) #[true, true, true, true, true, true, true, true, true, true, true, true, true, true, true, true, true, true, true, true, true, true, true, true, true, false, false, false] rfl rfl (by kernel_rfl) (by decide) (fun K hK => ?_)
  refine goes_ Tryz.func59 (by kernel_rfl) rfl #[.pointer (some ⟨gr, 0, none⟩)] (by rfl) rfl rfl (by simp only [List.map_toArray, List.map_cons, List.map_nil]; rfl) ?_
  with_reducible refine (rwaits_ (n := n) (left := left) (done := done) (las := las) (wt := wt) (F := Dsk g las wt :: Row I64 3 (.slice A5 (keysI las wt).length c5) (keysI las wt) :: F) (W := w5) (w0 := w0) (shut_ n1 n2 HN.out.1 HN.out.2.1 HN.out.2.2 (AS5.out.at2.rot24)) HL.out).mono ?_
  rintro e w6 ⟨v6, rfl, hS6⟩
  refine ⟨_, rfl, ?_⟩
  obtain ⟨A6, c6, rfl⟩ := hS6.rowV
  have AS6 := Aside0.mk hS6
  clear hS6
  refine hK.out _ _ ?_
  clear hK K
  refine norm_ (a' := ?_) ?_ ?_
  rotate_left
  · show Act.put _ (some 29) _ = _
    simp only [Act.put, sIB, sCz, sCs, i64_w, i32_w]
    rfl
  refine last_ (i := 25) (N := some 30) #[true, true, true, true, true, true, true, true, true, true, true, true, true, true, true, true, true, true, true, true, true, true, true, true, true, true, false, false] rfl rfl (by kernel_rfl) (by decide) (fun K hK => ?_)
  refine goes_ Tryz.func91 (by kernel_rfl) rfl #[.slice A5 (keysI las wt).length c5, .slice A6 (keysI las wt).length c6] (by rfl) rfl rfl (by simp only [List.map_toArray, List.map_cons, List.map_nil]; rfl) ?_
  with_reducible refine (bsame_ (w := w6) AS6.out.at4.rowC.2.2 AS6.out.rowC.2.2).mono ?_
  rintro e w7 ⟨rfl, hb7⟩
  refine ⟨_, rfl, ?_⟩
  have AS7 := Aside0.mk (AS6.out.below hb7)
  clear hb7
  refine hK.out _ _ ?_
  clear hK K
  refine norm_ (a' := ?_) ?_ ?_
  rotate_left
  · show Act.put _ (some 30) _ = _
    simp only [Act.put, sIB, sCz, sCs, i64_w, i32_w]
    rfl
  refine pure_ (i := 26) (N := some 31) (v := ?_) (a' := ?_) #[true, true, true, true, true, true, true, true, true, true, true, true, true, true, true, true, true, true, true, true, true, true, true, true, true, true, true, false] rfl rfl (by kernel_rfl) (fun _ _ _ h => h) (Or.inl ⟨by rfl, ?_⟩) ?_ ?_
  rotate_left
  · intro w'
    go_simp
    with_reducible rfl
  rotate_left
  · simp only [Act.put, sIB, sCz, sCs, i64_w, i32_w]
    rfl
  refine pure_ (i := 27) (N := some 4) (v := ?_) (a' := ?_) #[true, true, true, true, true, true, true, true, true, true, true, true, true, true, true, true, true, true, true, true, true, true, true, true, true, true, true, true] rfl rfl (by kernel_rfl) (fun _ _ _ h => h) (Or.inl ⟨by rfl, ?_⟩) ?_ ?_
  rotate_left
  · intro w'
    go_simp
    with_reducible rfl
  rotate_left
  · simp only [Act.put, sIB, sCz, sCs, i64_w, i32_w]
    rfl
  refine done_ (by kernel_rfl) ?_
  go_wp2_with fail
  go_ret
  exact ⟨by first | rfl | (simp; done), AS7.out.tail.at2.at3.tail⟩
end
end Go.Proofs.YtjngnigelkgekaaGreat.Ref
namespace Go.Proofs.YtjngnigelkgekaaGreat.Home
open Go.RowKit Go.Proofs.YtjngnigelkgekaaGreatW.PrintWords Go.Proofs.YtjngnigelkgekaaGreatW.PrintLast Go.Proofs.YtjngnigelkgekaaGreatW.PrintMore Go.Proofs.YtjngnigelkgekaaGreat.Kit Go.Proofs.YtjngnigelkgekaaGreat.Plain Go.Proofs.YtjngnigelkgekaaGreat.Disk Go.Proofs.YtjngnigelkgekaaGreat.Root
set_option maxHeartbeats 400000 in
theorem pair19_ {A : Option Addr} {m c n : Nat} {l : List Int} {w : World} (hr : U8.C w A m l) (hc : m ≤ c) (hm : m = 64 * n) (h1 : 1 ≤ n) (h2 : n ≤ 160) :
    Calls Tryz.prog 16 #[.slice A m c] w fun e w' => ∃ g gr, e = .returned (.tuple #[.pointer (some ⟨g, 0, none⟩), .pointer (some ⟨gr, 0, none⟩)]) ∧ Sep w w' [Dsk g l (fun _ => none), RT gr n l (fun _ => none) 0] := by
  have HR := Aside0.mk (And.intro hr (And.intro hc (And.intro hm (And.intro h1 h2))))
  clear hr hc hm h1 h2
  go_enter Tryz.func16, Tryz.ntmps16
  go_wp2_with fail
  refine (of_ok HR.out.1 HR.out.2.1 HR.out.2.2.1 HR.out.2.2.2.1 HR.out.2.2.2.2).mono ?_
  rintro e w1 ⟨g, rfl, hS1⟩
  have A1 := Aside0.mk hS1
  clear hS1
  go_wp2_with fail
  refine (Ref.of_ok (Kd.C_below HR.out.1 A1.out.toBelow) HR.out.2.2.1 HR.out.2.2.2.1 HR.out.2.2.2.2).mono ?_
  rintro e w2 ⟨gr, rfl, hS2⟩
  have A2 : Aside0 (Sep w w2 [Dsk g l (fun _ => none), RT gr n l (fun _ => none) 0]) := ⟨by
    show Sep w w2 [_, Ref.RD gr n l (flushed l (fun _ => none)) (Ref.waitL n (fun _ => none)) (-1) ((0 : Nat) : Int)]
    rw [flushed_none (n := n) (HR.out.1.1.trans HR.out.2.2.1), Ref.waitL_none]
    exact (A1.out.lift1 hS2).at2⟩
  clear hS2
  go_wp2_with fail
  go_ret2
  exact ⟨_, _, by first | rfl | (simp; done), A2.out⟩
end Go.Proofs.YtjngnigelkgekaaGreat.Home
namespace Go.Proofs.YtjngnigelkgekaaGreat.Heal
open Go.RowKit Go.Proofs.YtjngnigelkgekaaGreatW.PrintWords Go.Proofs.YtjngnigelkgekaaGreatW.PrintLast Go.Proofs.YtjngnigelkgekaaGreatW.PrintMore Go.Proofs.YtjngnigelkgekaaGreat.Kit Go.Proofs.YtjngnigelkgekaaGreat.Plain Go.Proofs.YtjngnigelkgekaaGreat.Disk Go.Proofs.YtjngnigelkgekaaGreat.Root
open Go.Proofs.YtjngnigelkgekaaGreat.RStore
open Go.Proofs.YtjngnigelkgekaaGreat.Deed
open Go.Proofs.YtjngnigelkgekaaGreat.Home (RT RTL)
section
variable {w0 W : World} {F : List HP} {gr g n : Nat} {las now : List Int} {wait : List Bool} {left done : Int} {wt : Wt}
theorem rd_done (h : Sep w0 W (Ref.RD gr n las now wait left done :: F)) : W.cell? ⟨gr, 4, none⟩ = some (.int .i64 done) := by
  obtain ⟨gl, cl, gn, cn, gw, cw, hn, hs⟩ := Ref.open_ h
  exact (hs.cell 4).trans rfl
theorem rd_now (h : Sep w0 W (Ref.RD gr n las now wait left done :: F)) : ∃ A c, W.cell? ⟨gr, 1, none⟩ = some (.slice A (64 * n) c) ∧ U8.C W A (64 * n) now ∧ 64 * n ≤ c ∧ 1 ≤ n ∧ n ≤ 160 := by
  obtain ⟨gl, cl, gn, cn, gw, cw, hn, hs⟩ := Ref.open_ h
  exact ⟨_, _, (hs.cell 1).trans rfl, hs.at3.rowC', hs.at3.rowC.2.1, hn.1, hn.2.1⟩
theorem rd_lasts (h : Sep w0 W (Ref.RD gr n las now wait left done :: F)) : ∃ A c, W.cell? ⟨gr, 0, none⟩ = some (.slice A (64 * n) c) ∧ U8.C W A (64 * n) las ∧ 64 * n ≤ c ∧ 1 ≤ n ∧ n ≤ 160 := by
  obtain ⟨gl, cl, gn, cn, gw, cw, hn, hs⟩ := Ref.open_ h
  exact ⟨_, _, (hs.cell 0).trans rfl, hs.at2.rowC', hs.at2.rowC.2.1, hn.1, hn.2.1⟩
theorem rd_left (h : Sep w0 W (Ref.RD gr n las now wait left done :: F)) (l2 : Int) : (∃ u, W.cell? ⟨gr, 3, none⟩ = some u) ∧ W.frozen? ⟨gr, 3, none⟩ = false ∧ Sep w0 (W.setCell ⟨gr, 3, none⟩ (.int .i64 l2)) (Ref.RD gr n las now wait l2 done :: F) := by
  obtain ⟨gl, cl, gn, cn, gw, cw, hn, hs⟩ := Ref.open_ h
  exact ⟨⟨_, (hs.cell 3).trans rfl⟩, hs.frozen 3, Ref.shut_ hn.1 hn.2.1 hn.2.2.1 hn.2.2.2.1 hn.2.2.2.2.1 (hs.setBlk 3 (.int .i64 l2))⟩
set_option maxHeartbeats 1600000 in
set_option maxRecDepth 100000 in
theorem rDeeds_ {d : Nat} (h : Sep w0 W (RT gr n las wt d :: F)) (hd : Dk n las wt) (hn : n ≤ 160) :
    Calls Tryz.prog 53 #[.pointer (some ⟨gr, 0, none⟩)] W fun e w' => e = .returned (.int .i64 ((dsOf n las wt).length : Int)) ∧ Sep w0 w' (RT gr n las wt d :: F) := by
  have H0 := Aside0.mk h
  obtain ⟨A1, c1, z1, hC1, hc1, hn1, hn2⟩ := rd_now h
  have HC1 := Aside0.mk (And.intro hC1 (And.intro hc1 (And.intro hn1 hn2)))
  have HD := Aside0.mk (And.intro hd.flush (ds_flushed hd))
  obtain ⟨LF, hLF⟩ : ∃ x, flushed las wt = x := ⟨_, rfl⟩
  rw [hLF] at HC1 HD
  have HLF := Aside0.mk hLF
  obtain ⟨N6, hN6⟩ : ∃ x, 64 * n = x := ⟨_, rfl⟩
  rw [hN6] at z1 HC1
  have HN6 := Aside0.mk hN6
  obtain ⟨D, hDe⟩ : ∃ x, dsOf n las wt = x := ⟨_, rfl⟩
  rw [hDe] at HD ⊢
  obtain ⟨DL, hDL⟩ : ∃ x, D.length = x := ⟨_, rfl⟩
  rw [hDL]
  have HDL := Aside0.mk hDL
  clear h hC1 hc1 hn1 hn2 hd hn hLF hN6 hDe hDL
  go_enter Tryz.func53, Tryz.ntmps53
  go_wp2_with fail
  refine (Ref.of_ok HC1.out.1 HN6.out.symm HC1.out.2.2.1 HC1.out.2.2.2).mono ?_
  rintro e w1 ⟨g2, rfl, hS1⟩
  have B1 : Aside0 (Sep w0 w1 (RTL g2 n LF (fun _ => none) (-1) ((0 : Nat) : Int) :: RT gr n las wt d :: F)) := ⟨by
    have h1 := H0.out.lift1 hS1
    show Sep w0 w1 (Ref.RD g2 n LF (flushed LF (fun _ => none)) (Ref.waitL n (fun _ => none)) (-1) ((0 : Nat) : Int) :: _)
    rw [flushed_none (n := n) HD.out.1.len, Ref.waitL_none]
    exact h1⟩
  clear hS1 z1
  go_wp2_with fail
  rcases open_cases HD.out.1 HC1.out.2.2.2 with ⟨er, hno⟩ | ⟨a, b, E, ha, he⟩
  · have HNO := Aside0.mk hno
    have hne := hno.ne
    have he1 : ¬ er = 0 := by omega
    have HDN : Aside0 (DL = 0) := ⟨by rw [← HDL.out, ← HD.out.2, ds_no hno]; rfl⟩
    clear hno
    refine (ropen_nil B1.out HD.out.1 HNO.out).mono ?_
    rintro e w2 ⟨rfl, hS2⟩
    have B2 := Aside0.mk hS2
    clear hS2
    go_wp2_with fail
    go_ret
    exact ⟨by rw [HDN.out]; first | rfl | (simp; done), B2.out.tail⟩
  · have HA := Aside0.mk (And.intro ha he)
    have HDA : Aside0 (D = chkD a b E (shownG n a b E LF (fun _ => none)) (keyL n a b E LF (fun _ => none))) := ⟨by rw [← HD.out.2]; exact ds_any ha he⟩
    clear ha he
    refine (ropen_ok B1.out HA.out.1 HA.out.2 (by decide) (by decide)).mono ?_
    rintro e w2 ⟨gx, rfl, hS2⟩
    rw [← HDA.out] at hS2
    have hS3 := rq_all hS2.at2
    rw [Nat.zero_add] at hS3
    rw [HDL.out] at hS3
    have z4 := rd_done hS3
    have B3 := Aside0.mk hS3.tail.tail
    clear hS2 hS3
    go_wp2_with fail
    go_ret
    exact ⟨by first | rfl | (simp; done), B3.out⟩
set_option maxHeartbeats 1600000 in
set_option maxRecDepth 100000 in
theorem rPart_ {d : Nat} (h : Sep w0 W (RT gr n las wt d :: F)) (hk : Dk n las wt) (hn : n ≤ 160) (hd : d ≤ 1000000) (m : Int) :
    Calls Tryz.prog 55 #[.pointer (some ⟨gr, 0, none⟩), .int .i64 m] W fun e w' => e = .returned (.int .i64 (partK m (dsOf n las wt).length : Int)) ∧
      Sep w0 w' (RT gr n (runD (las, wt) ((dsOf n las wt).take (partK m (dsOf n las wt).length))).1 (runD (las, wt) ((dsOf n las wt).take (partK m (dsOf n las wt).length))).2 (d + partK m (dsOf n las wt).length) :: F) := by
  have H0 := Aside0.mk h
  have HK := Aside0.mk (And.intro hk (And.intro hn hd))
  have hD68 := (ds_ok hk hn).2
  have hcs := open_cases hk hn
  have HCS : Aside0 (0 < partK m (dsOf n las wt).length → ∃ (a b : Nat) (E : Int), Any n las wt a b E ∧ E < 4294967295 ∧ dsOf n las wt = chkD a b E (shownG n a b E las wt) (keyL n a b E las wt)) := ⟨fun hp => by
    rcases hcs with ⟨er, hno⟩ | ⟨a, b, E, ha, he⟩
    · rw [ds_no hno] at hp
      have := partK_le m ([] : List Dd).length
      simp only [List.length_nil] at this hp
      omega
    · exact ⟨a, b, E, ha, he, ds_any ha he⟩⟩
  have HDE := Aside0.mk (rDeeds_ h hk hn)
  obtain ⟨D, hDe⟩ : ∃ x, dsOf n las wt = x := ⟨_, rfl⟩
  rw [hDe] at hD68 HCS HDE ⊢
  obtain ⟨N, hN⟩ : ∃ x, D.length = x := ⟨_, rfl⟩
  rw [hN] at hD68 HCS HDE ⊢
  have HN := Aside0.mk hN
  obtain ⟨kk, hkk⟩ : ∃ x, partK m N = x := ⟨_, rfl⟩
  have hz : min (max m 0) (N : Int) = (kk : Int) := by rw [← hkk]; unfold partK; omega
  have hkN : kk ≤ N := by rw [← hkk]; exact partK_le m N
  rw [hkk] at HCS ⊢
  clear h hk hn hd hcs hDe hN hkk
  go_enter Tryz.func55, Tryz.ntmps55
  go_wp2_with fail
  refine HDE.out.mono ?_
  rintro e w1 ⟨rfl, hS1⟩
  have B1 := Aside0.mk hS1
  clear hS1 HDE
  by_cases hk0 : kk = 0
  · subst hk0
    go_wp2_with fail
    go_ret
    exact ⟨by first | rfl | (simp; done), B1.out⟩
  · obtain ⟨a, b, E, ha, he, hD⟩ := HCS.out (by omega)
    have HA := Aside0.mk (And.intro ha (And.intro he hD))
    have hk1 : ¬ (kk : Int) = 0 := by omega
    have z4 := rd_done B1.out
    obtain ⟨⟨u3, z3⟩, f3, hS3⟩ := rd_left B1.out (kk : Int)
    have B3 := Aside0.mk hS3
    have HKB : Aside0 (kk ≤ 68 ∧ 1 ≤ kk ∧ kk ≤ N) := ⟨by omega⟩
    have hsub : wrap64 ((d : Int) + (kk : Int) - (d : Int)) = (kk : Int) := by rw [IntWalk.wrap64_in _ (by have := HK.out.2.2; omega)]; omega
    clear ha he hD hS3 HCS hk0
    go_wp2_with fail
    refine (ropen_ok (k := (kk : Int)) B3.out HA.out.1 HA.out.2.1 (by have := HKB.out; omega) HK.out.2.2).mono ?_
    rintro e w4 ⟨gx, rfl, hS4⟩
    have hS5 := hS4.at2
    unfold RQ at hS5
    rw [show nmL (nmAllB (List.replicate b false) (rowsG n a b E las wt)) b = keyL n a b E las wt from rfl, ← HA.out.2.2] at hS5
    have hcut : cutD (kk : Int) D = D.take kk := by
      unfold cutD
      rw [if_neg (by omega), Int.toNat_natCast]
    have hcl : (D.take kk).length = kk := by rw [List.length_take, HN.out]; omega
    rw [hcut, hcl] at hS5
    obtain ⟨T, hT⟩ : ∃ x, runD (las, wt) (D.take kk) = x := ⟨_, rfl⟩
    rw [hT] at hS5
    have HT := Aside0.mk hT
    obtain ⟨⟨u5, z5⟩, f5, hS6⟩ := rd_left hS5 (-1)
    have B6 := Aside0.mk hS6
    have z6 := rd_done B6.out
    have hcast : ((d + kk : Nat) : Int) = (d : Int) + (kk : Int) := by omega
    rw [hcast] at z6
    clear hS4 hS5 hS6 z3 f3 z4 hT hcut hcl hcast
    go_wp2_with fail
    go_ret
    exact ⟨by first | rfl | (simp; done) | (simp; omega), by rw [HT.out]; exact B6.out.drop2⟩
set_option maxHeartbeats 1600000 in
set_option maxRecDepth 100000 in
theorem same19_ {d : Nat} (h : Sep w0 W (Dsk g las wt :: RT gr n las wt d :: F)) (hk : Dk n las wt) (hn : n ≤ 160) (hd : d ≤ 1000000) (m : Int) :
    Calls Tryz.prog 15 #[.pointer (some ⟨g, 0, none⟩), .pointer (some ⟨gr, 0, none⟩), .int .i64 m] W fun e w' => e = .returned (.bool true) ∧
      ∃ (las' : List Int) (wt' : Wt) (d' : Nat), Dk n las' wt' ∧ d' ≤ d + 68 ∧ Sep w0 w' (Dsk g las' wt' :: RT gr n las' wt' d' :: F) := by
  have H0 := Aside0.mk h
  have HK := Aside0.mk (And.intro hk (And.intro hn hd))
  have HPT := Aside0.mk (dk_part hk hn (partK m (dsOf n las wt).length))
  have hD68 := (ds_ok hk hn).2
  have hkl := partK_le m (dsOf n las wt).length
  have HK68 : Aside0 (partK m (dsOf n las wt).length ≤ 68) := ⟨by omega⟩
  have h1 := fun (W' : World) (hs : Sep w0 W' (Dsk g las wt :: RT gr n las wt d :: F)) => hDeeds_ hs hk hn
  have h2 := fun (W' : World) (hs : Sep w0 W' (RT gr n las wt d :: Dsk g las wt :: F)) => rDeeds_ hs hk hn
  have h3 := fun (W' : World) (hs : Sep w0 W' (Dsk g las wt :: RT gr n las wt d :: F)) => hPart_ hs hk hn m
  have h4 := fun (W' : World) (S : DS) (hs : Sep w0 W' (RT gr n las wt d :: Dsk g S.1 S.2 :: F)) => rPart_ hs hk hn hd m
  obtain ⟨kk, hkk⟩ : ∃ x, partK m (dsOf n las wt).length = x := ⟨_, rfl⟩
  rw [hkk] at HPT HK68 h3 h4
  obtain ⟨T, hT⟩ : ∃ x, runD (las, wt) ((dsOf n las wt).take kk) = x := ⟨_, rfl⟩
  rw [hT] at HPT h3 h4
  obtain ⟨N, hN⟩ : ∃ x, (dsOf n las wt).length = x := ⟨_, rfl⟩
  rw [hN] at h1 h2
  have A1 := Aside0.mk h1
  have A2 := Aside0.mk h2
  have A3 := Aside0.mk h3
  have A4 := Aside0.mk h4
  clear h hk hn hd hD68 hkl h1 h2 h3 h4 hkk hT hN
  go_enter Tryz.func15, Tryz.ntmps15
  go_wp2_with fail
  refine (A1.out _ H0.out).mono ?_
  rintro e w1 ⟨rfl, hS1⟩
  have B1 := Aside0.mk hS1
  clear hS1
  go_wp2_with fail
  refine (A2.out _ B1.out.at2).mono ?_
  rintro e w2 ⟨rfl, hS2⟩
  have B2 := Aside0.mk hS2.at2
  clear hS2
  go_wp2_with fail
  refine (Ref.alike19_ B2.out HK.out.1.len).mono ?_
  rintro e w3 ⟨rfl, hS3⟩
  have B3 := Aside0.mk hS3
  clear hS3
  go_wp2_with fail
  refine (A3.out _ B3.out).mono ?_
  rintro e w4 ⟨rfl, hS4⟩
  have B4 := Aside0.mk hS4.at2
  clear hS4
  go_wp2_with fail
  refine (A4.out _ T B4.out).mono ?_
  rintro e w5 ⟨rfl, hS5⟩
  have B5 := Aside0.mk hS5.at2
  clear hS5
  go_wp2_with fail
  refine (Ref.alike19_ B5.out HPT.out.len).mono ?_
  rintro e w6 ⟨rfl, hS6⟩
  have B6 := Aside0.mk hS6
  clear hS6
  go_wp2_with fail
  go_ret
  exact ⟨by first | rfl | (simp; done), T.1, T.2, d + kk, HPT.out, by have := HK68.out; omega, B6.out⟩
end
end Go.Proofs.YtjngnigelkgekaaGreat.Heal
namespace Go.Proofs.YtjngnigelkgekaaGreat.Deed
open Go.RowKit Go.Proofs.YtjngnigelkgekaaGreat.Kit Go.Proofs.YtjngnigelkgekaaGreat.Disk Go.Proofs.YtjngnigelkgekaaGreat.Plain Go.Proofs.YtjngnigelkgekaaGreat.Root
open Go.Proofs.YtjngnigelkgekaaGreat.Store (putsW zz64 fmtL)
def putsD (s k : Nat) : List Dd := (List.range k).map (fun i => some (s + i, zz64))
theorem putsD_snoc (s k : Nat) : putsD s (k + 1) = putsD s k ++ [some (s + k, zz64)] := by unfold putsD; rw [List.range_succ, List.map_append]; rfl
theorem putsD_len (s k : Nat) : (putsD s k).length = k := by unfold putsD; rw [List.length_map, List.length_range]
theorem putsD_ok {n s : Nat} : ∀ k, s + k ≤ n → OkD n (putsD s k)
  | 0, _ => OkD.nil
  | k + 1, h => by rw [putsD_snoc]; exact (putsD_ok k (by omega)).write (by omega) rfl
theorem putsD_run {n s : Nat} (L : List Int) (w : Wt) : ∀ k, s + k ≤ n → runD (L, w) (putsD s k) = (L, putsW n s zz64 k w)
  | 0, _ => rfl
  | k + 1, h => by
    rw [putsD_snoc, runD_snoc, putsD_run (n := n) L w k (by omega)]
    show (L, _) = (L, putW n (putsW n s zz64 k w) (s + k) zz64)
    unfold putW
    rw [if_pos ⟨by omega, rfl⟩]
def fmtD (a b : Nat) : List Dd := (putsD 0 2 ++ [none]) ++ ((putsD 2 (a + b) ++ [none]) ++ [some (1, rootF (m32 (a : Int)) (m32 (b : Int)) 1), none])
theorem fmtD_len (a b : Nat) : (fmtD a b).length = a + b + 6 := by
  unfold fmtD
  rw [List.length_append, List.length_append, List.length_append, List.length_append, putsD_len, putsD_len]
  simp; omega
theorem fmtD_run {n a b : Nat} (hr : rightR (a : Int) (b : Int) 1 n = true) (las : List Int) (wt : Wt) : runD (las, wt) (fmtD a b) = (fmtL n las wt a b, fun _ => none) := by
  have h4 := of_decide_eq_true hr
  unfold fmtD
  rw [runD_append, runD_append, runD_append, runD_append, putsD_run (n := n) las wt 2 (by omega)]
  show runD (runD (runD (flushed las (putsW n 0 zz64 2 wt), fun _ => none) (putsD 2 (a + b))) [none]) _ = _
  rw [putsD_run (n := n) _ _ (a + b) (by omega)]
  have hput : putW n (fun _ => none) 1 (rootF (m32 (a : Int)) (m32 (b : Int)) 1) = fun j => if j = 1 then some (rootF (m32 (a : Int)) (m32 (b : Int)) 1) else none := by
    unfold putW; rw [if_pos ⟨by omega, rootF_len _ _ _⟩]
  unfold fmtL
  rw [hput]
  rfl
end Go.Proofs.YtjngnigelkgekaaGreat.Deed
namespace Go.Proofs.YtjngnigelkgekaaGreat.RStore
open Go.RowKit Go.Proofs.YtjngnigelkgekaaGreatW.PrintWords Go.Proofs.YtjngnigelkgekaaGreatW.PrintLast Go.Proofs.YtjngnigelkgekaaGreatW.PrintMore Go.Proofs.YtjngnigelkgekaaGreat.Kit Go.Proofs.YtjngnigelkgekaaGreat.Plain Go.Proofs.YtjngnigelkgekaaGreat.Disk Go.Proofs.YtjngnigelkgekaaGreat.Root
open Go.Proofs.YtjngnigelkgekaaGreat.Deed
open Go.Proofs.YtjngnigelkgekaaGreat.Home (RT RTL)
open Go.Proofs.YtjngnigelkgekaaGreat.Store (zz64 fmtL)
section
variable {w0 W : World} {F : List HP} {gr n d : Nat} {las : List Int} {wt : Wt}
set_option maxHeartbeats 1600000 in
set_option maxRecDepth 100000 in
theorem rformat_bad (h : Sep w0 W (RT gr n las wt d :: F)) (a b : Int) (hr : rightR a b 1 n = false) : Calls Tryz.prog 39 #[.pointer (some ⟨gr, 0, none⟩), .int .i64 a, .int .i64 b] W fun e w' => e = .returned (.int .i64 25) ∧ Sep w0 w' (RT gr n las wt d :: F) := by
  have A0 := Aside0.mk (h.newBlk 80 #[.int .i64 a, .int .i64 b, .int .u32 1]).drew
  have HR := Aside0.mk hr
  clear h hr
  go_enter Tryz.func39, Tryz.ntmps39
  go_wp2_with fail
  refine start_ (n := 5) (S := fun w' => w'.cell? ⟨W.heap.size, 0, none⟩ = some (.int .i64 a) ∧ w'.cell? ⟨W.heap.size, 1, none⟩ = some (.int .i64 b) ∧ w'.cell? ⟨W.heap.size, 2, none⟩ = some (.int .u32 1)) (ds := [3]) #[false, false, false, false, false] (by kernel_rfl) rfl rfl ⟨(A0.out.cell 0).trans rfl, (A0.out.cell 1).trans rfl, (A0.out.cell 2).trans rfl⟩ (fun hHeld => ?_)
  refine pure_ (i := 1) (N := some 13) (v := ?_) (a' := ?_) #[false, true, false, false, false] rfl rfl (by kernel_rfl) (fun _ _ _ h => h) (Or.inl ⟨by rfl, ?_⟩) ?_ ?_
  rotate_left
  · intro w'
    go_simp
    with_reducible rfl
  rotate_left
  · simp only [Act.put, sIB, sCz, sCs, i64_w, i32_w]
    rfl
  refine take_ (i := 0) (N := some 12) (v := ?_) (a' := ?_) #[true, true, false, false, false] rfl rfl (by kernel_rfl) (fun _ _ _ h => h) (Or.inl ⟨by rfl, ?_⟩) hHeld ?_ ?_
  rotate_left
  · rintro w' ⟨s0, s1, s2⟩
    go_simp
    with_reducible rfl
  rotate_left
  · simp only [Act.put, sIB, sCz, sCs, i64_w, i32_w]
    rfl
  refine one_ (i := 2) (N := some 14) #[true, true, true, false, false] rfl rfl (by kernel_rfl) (by decide) (fun K hK => ?_)
  refine goes_ Tryz.func78 (by kernel_rfl) rfl #[.pointer (some ⟨gr, 0, none⟩)] (by rfl) rfl rfl (by simp only [List.map_toArray, List.map_cons, List.map_nil]; rfl) ?_
  with_reducible refine (Ref.len_ A0.out.at2).mono ?_
  rintro e w4 ⟨rfl, rfl⟩
  refine ⟨_, rfl, ?_⟩
  refine hK.out _ _ ⟨(A0.out.cell 0).trans rfl, (A0.out.cell 1).trans rfl, (A0.out.cell 2).trans rfl⟩ (fun hHeld => ?_)
  clear hK K
  refine norm_ (a' := ?_) ?_ ?_
  rotate_left
  · show Act.put _ (some 14) _ = _
    simp only [Act.put, sIB, sCz, sCs, i64_w, i32_w]
    rfl
  refine last_ (i := 3) (N := some 15) #[true, true, true, true, false] rfl rfl (by kernel_rfl) (by decide) (fun K hK => ?_)
  refine goes_ Tryz.func77 (by kernel_rfl) rfl #[.agg #[.int .i64 a, .int .i64 b, .int .u32 1], .int .i64 (n : Int)] (by rfl) rfl rfl (by simp only [List.map_toArray, List.map_cons, List.map_nil]; rfl) ?_
  with_reducible refine (rright_ a b 1 (n : Int) _).mono ?_
  rintro e w5 ⟨rfl, hb5⟩
  refine ⟨_, rfl, ?_⟩
  rw [HR.out]
  have A5 := Aside0.mk (A0.out.below hb5)
  clear hb5
  refine hK.out _ _ ?_
  clear hK K
  refine norm_ (a' := ?_) ?_ ?_
  rotate_left
  · show Act.put _ (some 15) _ = _
    simp only [Act.put, sIB, sCz, sCs, i64_w, i32_w]
    rfl
  refine pure_ (i := 4) (N := some 16) (v := ?_) (a' := ?_) #[true, true, true, true, true] rfl rfl (by kernel_rfl) (fun _ _ _ h => h) (Or.inl ⟨by rfl, ?_⟩) ?_ ?_
  rotate_left
  · intro w'
    go_simp
    with_reducible rfl
  rotate_left
  · simp only [Act.put, sIB, sCz, sCs, i64_w, i32_w]
    rfl
  refine done_ (by kernel_rfl) ?_
  go_wp2_with fail
  go_ret
  exact ⟨by first | rfl | (simp; done), A5.out.tail⟩
set_option maxHeartbeats 3200000 in
set_option maxRecDepth 100000 in
theorem rformat_ok (h : Sep w0 W (RT gr n las wt d :: F)) (hl : las.length = 64 * n) (hn : n ≤ 160) (hw : ∀ i b, wt i = some b → b.length = 64) (hd : d ≤ 1000000) (a b : Nat) (hr : rightR (a : Int) (b : Int) 1 n = true) : Calls Tryz.prog 39 #[.pointer (some ⟨gr, 0, none⟩), .int .i64 (a : Int), .int .i64 (b : Int)] W fun e w' => e = .returned (.int .i64 0) ∧ Sep w0 w' (RT gr n (fmtL n las wt a b) (fun _ => none) (d + (a + b + 6)) :: F) := by
  have A0 := Aside0.mk (h.newBlk 80 #[.int .i64 (a : Int), .int .i64 (b : Int), .int .u32 1]).drew
  have HR := Aside0.mk hr
  have HS : Aside0 (OkS n (las, wt)) := ⟨hl, hw⟩
  have h1 := of_decide_eq_true hr
  have HAB : Aside0 (a + b + 2 ≤ n ∧ n ≤ 160) := ⟨by omega⟩
  have HD := Aside0.mk hd
  have hws : wrap64 (2 + (a : Int)) = 2 + (a : Int) := IntWalk.wrap64_in _ (by omega)
  obtain ⟨M, hM⟩ : ∃ M, a + b = M := ⟨_, rfl⟩
  obtain ⟨T, hT⟩ : ∃ T, 2 + M = T := ⟨_, rfl⟩
  have hws2 : wrap64 (2 + (a : Int) + (b : Int)) = (T : Int) := by rw [IntWalk.wrap64_in _ (by omega)]; omega
  have HM := Aside0.mk hM
  have HT := Aside0.mk hT
  have hmk : ∀ W : World, (Instr.makeSlice 24 (.int .i64 64) (.int .i64 64)).run Tryz.prog W = .ok (.slice (some ⟨W.heap.size, 0, none⟩) 64 64) (W.alloc (.cells (madeCells #[.int .u8 0] 64) 5)) := make_ (m := 64) (by omega)
  obtain ⟨G0, hG0⟩ : ∃ G, W.heap.size = G := ⟨_, rfl⟩
  rw [hG0] at A0
  clear h hl hr hn hw h1 hM hT hd
  go_enter Tryz.func39, Tryz.ntmps39
  go_wp2_with fail
  obtain ⟨w1, hw1⟩ : ∃ x, W.alloc (.cells #[.int .i64 (a : Int), .int .i64 (b : Int), .int .u32 1] 80) = x := ⟨_, rfl⟩
  rw [hw1] at A0 ⊢
  clear hw1 hG0
  refine start_ (n := 5) (S := fun w' => w'.cell? ⟨G0, 0, none⟩ = some (.int .i64 (a : Int)) ∧ w'.cell? ⟨G0, 1, none⟩ = some (.int .i64 (b : Int)) ∧ w'.cell? ⟨G0, 2, none⟩ = some (.int .u32 1)) (ds := [3]) #[false, false, false, false, false] (by kernel_rfl) rfl rfl ⟨(A0.out.cell 0).trans rfl, (A0.out.cell 1).trans rfl, (A0.out.cell 2).trans rfl⟩ (fun hHeld => ?_)
  refine pure_ (i := 1) (N := some 13) (v := ?_) (a' := ?_) #[false, true, false, false, false] rfl rfl (by kernel_rfl) (fun _ _ _ h => h) (Or.inl ⟨by rfl, ?_⟩) ?_ ?_
  rotate_left
  · intro w'
    go_simp
    with_reducible rfl
  rotate_left
  · simp only [Act.put, sIB, sCz, sCs, i64_w, i32_w]
    rfl
  refine take_ (i := 0) (N := some 12) (v := ?_) (a' := ?_) #[true, true, false, false, false] rfl rfl (by kernel_rfl) (fun _ _ _ h => h) (Or.inl ⟨by rfl, ?_⟩) hHeld ?_ ?_
  rotate_left
  · rintro w' ⟨s0, s1, s2⟩
    go_simp
    with_reducible rfl
  rotate_left
  · simp only [Act.put, sIB, sCz, sCs, i64_w, i32_w]
    rfl
  refine one_ (i := 2) (N := some 14) #[true, true, true, false, false] rfl rfl (by kernel_rfl) (by decide) (fun K hK => ?_)
  refine goes_ Tryz.func78 (by kernel_rfl) rfl #[.pointer (some ⟨gr, 0, none⟩)] (by rfl) rfl rfl (by simp only [List.map_toArray, List.map_cons, List.map_nil]; rfl) ?_
  with_reducible refine (Ref.len_ A0.out.at2).mono ?_
  rintro e w4 ⟨rfl, rfl⟩
  refine ⟨_, rfl, ?_⟩
  refine hK.out _ _ ⟨(A0.out.cell 0).trans rfl, (A0.out.cell 1).trans rfl, (A0.out.cell 2).trans rfl⟩ (fun hHeld => ?_)
  clear hK K
  refine norm_ (a' := ?_) ?_ ?_
  rotate_left
  · show Act.put _ (some 14) _ = _
    simp only [Act.put, sIB, sCz, sCs, i64_w, i32_w]
    rfl
  refine last_ (i := 3) (N := some 15) #[true, true, true, true, false] rfl rfl (by kernel_rfl) (by decide) (fun K hK => ?_)
  refine goes_ Tryz.func77 (by kernel_rfl) rfl #[.agg #[.int .i64 (a : Int), .int .i64 (b : Int), .int .u32 1], .int .i64 (n : Int)] (by rfl) rfl rfl (by simp only [List.map_toArray, List.map_cons, List.map_nil]; rfl) ?_
  with_reducible refine (rright_ (a : Int) (b : Int) 1 (n : Int) _).mono ?_
  rintro e w5 ⟨rfl, hb5⟩
  refine ⟨_, rfl, ?_⟩
  rw [HR.out]
  have A5 := Aside0.mk (A0.out.below hb5)
  clear hb5
  refine hK.out _ _ ?_
  clear hK K
  refine norm_ (a' := ?_) ?_ ?_
  rotate_left
  · show Act.put _ (some 15) _ = _
    simp only [Act.put, sIB, sCz, sCs, i64_w, i32_w]
    rfl
  refine pure_ (i := 4) (N := some 16) (v := ?_) (a' := ?_) #[true, true, true, true, true] rfl rfl (by kernel_rfl) (fun _ _ _ h => h) (Or.inl ⟨by rfl, ?_⟩) ?_ ?_
  rotate_left
  · intro w'
    go_simp
    with_reducible rfl
  rotate_left
  · simp only [Act.put, sIB, sCz, sCs, i64_w, i32_w]
    rfl
  refine done_ (by kernel_rfl) ?_
  have B5 : Aside0 (Sep w0 w5 (RQ gr n (las, wt) (-1) d [] :: Blk G0 80 #[.int .i64 (a : Int), .int .i64 (b : Int), .int .u32 1] :: F)) := ⟨rq_start A5.out.at2 (by decide)⟩
  have B6 := Aside0.mk (madeB 64 B5.out (by omega)).at2
  have h0n : 0 < n := by have := HAB.out; omega
  have H0N := Aside0.mk h0n
  have H1N : Aside0 (1 < n) := ⟨by have := HAB.out; omega⟩
  clear h0n
  go_wp2_with fail
  refine (qwrite_ (b := zz64) B6.out HS.out OkD.nil (by decide) (by have := HD.out; simp only [List.length_nil]; omega) 0 H0N.out (fun W' hW => by have h2 := hW.rowC.2.2; rw [List.length_replicate] at h2; exact h2)).mono ?_
  rintro e w6 ⟨rfl, hS6⟩
  have B7 := Aside0.mk (madeB 64 hS6.drop2 (by omega)).at2
  clear hS6
  go_wp2_with fail
  refine (qwrite_ (b := zz64) B7.out HS.out (OkD.nil.write H0N.out rfl) (by decide) (by have := HD.out; simp only [List.length_append, List.length_nil, List.length_singleton]; omega) 1 H1N.out (fun W' hW => by have h2 := hW.rowC.2.2; rw [List.length_replicate] at h2; exact h2)).mono ?_
  rintro e w7 ⟨rfl, hS7⟩
  have B8 : Aside0 (Sep w0 w7 (RQ gr n (las, wt) (-1) d (putsD 0 2) :: _)) := ⟨hS7.drop2⟩
  clear hS7
  go_wp2_with fail
  refine (qflush_ B8.out HS.out (putsD_ok 2 (by have := HAB.out; omega)) (by decide) (by have := HD.out; rw [putsD_len]; omega)).mono ?_
  rintro e w8 ⟨rfl, hS8⟩
  have B9 := Aside0.mk hS8
  clear hS8
  have HO9 : Aside0 (OkD n (putsD 0 2 ++ [none])) := ⟨(putsD_ok 2 (by have := HAB.out; omega)).flush⟩
  obtain ⟨D9, hD9⟩ : ∃ D, putsD 0 2 ++ [none] = D := ⟨_, rfl⟩
  have HL9 : Aside0 (D9.length = 3) := ⟨by rw [← hD9]; rfl⟩
  rw [hD9] at B9 HO9
  have HD9 := Aside0.mk hD9
  clear hD9
  have HOK : Aside0 (∀ j, j ≤ M → OkD n (D9 ++ putsD 2 j)) := ⟨fun j hj i x hm => by
    rcases List.mem_append.1 hm with hm | hm
    · exact HO9.out i x hm
    · exact putsD_ok j (by have := HAB.out; have := HM.out; omega) i x hm⟩
  go_wp2_with fail
  go_loopg [8] M (fun k_ p wr => ∃ j i : Nat, p = .int .i64 (i : Int) ∧ i = 2 + j ∧ j + k_ = M ∧ Sep w0 wr (RQ gr n (las, wt) (-1) d (D9 ++ putsD 2 j) :: Blk G0 80 #[.int .i64 (a : Int), .int .i64 (b : Int), .int .u32 1] :: F))
  case atStart => exact ⟨0, 2, rfl, rfl, by omega, by show Sep w0 _ (RQ gr n (las, wt) (-1) d (D9 ++ []) :: _); rw [List.append_nil]; exact B9.out⟩
  case round =>
    obtain ⟨j, i, rfl, hij, hjk, hS⟩ := hrel
    obtain ⟨w10, rfl⟩ : ∃ x, x = wr := ⟨_, rfl⟩
    have AK := Aside0.mk (And.intro hij hjk)
    have AS := Aside0.mk hS
    clear hS
    by_cases cj : j < M
    case pos =>
      have hil : (i : Int) < (T : Int) := by have := HT.out; omega
      have HIN : Aside0 (i < n) := ⟨by have := HAB.out; have := HM.out; omega⟩
      have hw1j : wrap64 ((i : Int) + 1) = (i : Int) + 1 := by have := HAB.out; have := HIN.out; exact IntWalk.wrap64_in _ (by omega)
      have B10 := Aside0.mk (madeB 64 AS.out (by omega)).at2
      have HLE : Aside0 (d + (D9 ++ putsD 2 j).length ≤ 2000000) := ⟨by rw [List.length_append, putsD_len, HL9.out]; have := HD.out; have := HAB.out; have := HM.out; omega⟩
      have HPS : Aside0 (D9 ++ putsD 2 (j + 1) = (D9 ++ putsD 2 j) ++ [some (i, zz64)]) := ⟨by rw [putsD_snoc, hij, List.append_assoc]⟩
      have HJM : Aside0 (j ≤ M) := ⟨by omega⟩
      clear hjk cj hij
      go_wp2_with fail
      refine (qwrite_ (b := zz64) B10.out HS.out (HOK.out j HJM.out) (by decide) HLE.out i HIN.out (fun W' hW => by have h2 := hW.rowC.2.2; rw [List.length_replicate] at h2; exact h2)).mono ?_
      rintro e w11 ⟨rfl, hS11⟩
      have B11 := Aside0.mk hS11.drop2
      clear hS11
      go_wp2_with fail
      go_roundg (gk - 1)
      case measure => have := AK.out; have := HT.out; omega
      case rel => exact ⟨j + 1, i + 1, by go_num, by have := AK.out; omega, by have := AK.out; have := HT.out; omega, by rw [HPS.out]; exact B11.out⟩
    case neg =>
    have hil : ¬ (i : Int) < (T : Int) := by have := HT.out; omega
    obtain rfl : j = M := by omega
    have HO10 : Aside0 (OkD n (D9 ++ putsD 2 j)) := ⟨HOK.out j (Nat.le_refl _)⟩
    have HL10 : Aside0 ((D9 ++ putsD 2 j).length ≤ 163) := ⟨by rw [List.length_append, putsD_len, HL9.out]; have := HAB.out; have := HM.out; omega⟩
    obtain ⟨D10, hD10⟩ : ∃ D, D9 ++ putsD 2 j = D := ⟨_, rfl⟩
    rw [hD10] at AS HO10 HL10
    have HD10 := Aside0.mk hD10
    clear hjk cj hij hD10 HOK
    go_wp2_with fail
    refine (qflush_ AS.out HS.out HO10.out (by decide) (by have := HD.out; have := HL10.out; omega)).mono ?_
    rintro e w12 ⟨rfl, hS12⟩
    have B12 := Aside0.mk hS12
    clear hS12
    have z0 := (B12.out.at2.cell 0).trans rfl
    have z1 := (B12.out.at2.cell 1).trans rfl
    have z2 := (B12.out.at2.cell 2).trans rfl
    go_wp2_with fail
    refine (rroot_ (a : Int) (b : Int) 1 (by decide) _).mono ?_
    rintro e w13 ⟨v13, rfl, hS13⟩
    obtain ⟨R, hR⟩ : ∃ R, rootF (m32 (a : Int)) (m32 (b : Int)) 1 = R := ⟨_, rfl⟩
    have HRL : Aside0 (R.length = 64) := ⟨by rw [← hR]; exact rootF_len _ _ _⟩
    rw [hR] at hS13
    have HRR := Aside0.mk hR
    obtain ⟨A13, c13, rfl⟩ := hS13.rowN HRL.out
    have B13 := Aside0.mk (B12.out.lift1 hS13).at2
    clear hS13 hR z0 z1 z2
    go_wp2_with fail
    refine (qwrite_ (b := R) B13.out HS.out HO10.out.flush (by decide) (by have := HD.out; have := HL10.out; rw [List.length_append, List.length_singleton]; omega) 1 H1N.out (fun W' hW => hW.rowC')).mono ?_
    rintro e w14 ⟨rfl, hS14⟩
    have B14 := Aside0.mk hS14.drop2
    clear hS14
    go_wp2_with fail
    refine (qflush_ B14.out HS.out (HO10.out.flush.write H1N.out HRL.out) (by decide) (by have := HD.out; have := HL10.out; rw [List.length_append, List.length_append, List.length_singleton, List.length_singleton]; omega)).mono ?_
    rintro e w15 ⟨rfl, hS15⟩
    have HFD : Aside0 (((D10 ++ [none]) ++ [some (1, R)]) ++ [none] = fmtD a b) := ⟨by
      unfold fmtD
      rw [← HD10.out, ← HD9.out, ← HRR.out, HM.out]
      simp⟩
    rw [HFD.out] at hS15
    have hfin := rq_all hS15.drop2
    rw [fmtD_run HR.out, fmtD_len] at hfin
    have B15 := Aside0.mk hfin
    clear hS15 hfin
    go_wp2_with fail
    go_ret
    exact ⟨by first | rfl | (simp; done), B15.out⟩
end
end Go.Proofs.YtjngnigelkgekaaGreat.RStore
namespace Go.Proofs.YtjngnigelkgekaaGreat.RStore
open Go.RowKit Go.Proofs.YtjngnigelkgekaaGreatW.PrintWords Go.Proofs.YtjngnigelkgekaaGreatW.PrintLast Go.Proofs.YtjngnigelkgekaaGreatW.PrintMore Go.Proofs.YtjngnigelkgekaaGreat.Kit Go.Proofs.YtjngnigelkgekaaGreat.Plain Go.Proofs.YtjngnigelkgekaaGreat.Disk Go.Proofs.YtjngnigelkgekaaGreat.Root
open Go.Proofs.YtjngnigelkgekaaGreat.Store (fmtL fmt_len format_bad format_ok putsW_bytes putsW_len zz64 no_bytes)
open Go.Proofs.YtjngnigelkgekaaGreat.Home (RT RTL)
open Go.Proofs.YtjngnigelkgekaaGreat.Deed
def fmtE (n : Nat) (log pages : Int) : Int := if rightR log pages 1 n = true then 0 else 25
def fmtS (n : Nat) (las : List Int) (wt : Wt) (log pages : Int) : DS := if rightR log pages 1 n = true then (fmtL n las wt log.toNat pages.toNat, fun _ => none) else (las, wt)
theorem zz_bytes : Bytes zz64 := fun x hx => by
  have := List.eq_of_mem_replicate hx
  omega
theorem Dk.fmt {n : Nat} {las : List Int} {wt : Wt} (h : Dk n las wt) (log pages : Int) : Dk n (fmtS n las wt log pages).1 (fmtS n las wt log pages).2 := by
  unfold fmtS
  split
  · refine ⟨fmt_len h.len h.wl, Ref.none_len, ?_, no_bytes⟩
    show Bytes (fmtL n las wt log.toNat pages.toNat)
    unfold fmtL
    exact Redo.flushed_bytes (Redo.flushed_bytes (Redo.flushed_bytes h.byt (putsW_bytes zz_bytes 2 h.wb)) (putsW_bytes zz_bytes _ no_bytes)) (putW_bytes no_bytes (rootF_bytes _ _ _))
  · exact h
section
variable {w0 W : World} {F : List HP} {g gr n d : Nat} {las : List Int} {wt : Wt}
theorem rformat_ (h : Sep w0 W (RT gr n las wt d :: F)) (hk : Dk n las wt) (hn : n ≤ 160) (hd : d ≤ 1000000) (log pages : Int) :
    Calls Tryz.prog 39 #[.pointer (some ⟨gr, 0, none⟩), .int .i64 log, .int .i64 pages] W fun e w' => e = .returned (.int .i64 (fmtE n log pages)) ∧ ∃ d' : Nat, d' ≤ d + 200 ∧ Sep w0 w' (RT gr n (fmtS n las wt log pages).1 (fmtS n las wt log pages).2 d' :: F) := by
  unfold fmtE fmtS
  cases hr : rightR log pages 1 n with
  | false =>
    rw [if_neg (by decide), if_neg (by decide)]
    exact (rformat_bad h log pages hr).mono (by rintro e w' ⟨rfl, hS⟩; exact ⟨rfl, d, by omega, hS⟩)
  | true =>
    have h1 := of_decide_eq_true hr
    obtain ⟨a, rfl⟩ := Int.eq_ofNat_of_zero_le (show 0 ≤ log by omega)
    obtain ⟨b, rfl⟩ := Int.eq_ofNat_of_zero_le (show 0 ≤ pages by omega)
    rw [if_pos rfl, if_pos rfl, Int.toNat_natCast, Int.toNat_natCast]
    exact (rformat_ok h hk.len hn hk.wl hd a b hr).mono (by rintro e w' ⟨rfl, hS⟩; exact ⟨rfl, _, by omega, hS⟩)
end
end Go.Proofs.YtjngnigelkgekaaGreat.RStore
namespace Go.Proofs.YtjngnigelkgekaaGreat.RStore
open Go.RowKit Go.Proofs.YtjngnigelkgekaaGreatW.PrintWords Go.Proofs.YtjngnigelkgekaaGreatW.PrintLast Go.Proofs.YtjngnigelkgekaaGreatW.PrintMore Go.Proofs.YtjngnigelkgekaaGreat.Kit Go.Proofs.YtjngnigelkgekaaGreat.Plain Go.Proofs.YtjngnigelkgekaaGreat.Disk Go.Proofs.YtjngnigelkgekaaGreat.Root
open Go.Proofs.YtjngnigelkgekaaGreat.Delta (Chg KC deltaF rightF)
open Go.Proofs.YtjngnigelkgekaaGreat.Store (KP StB applyF insAll commit_bad commit_full commit_ok fitsF)
open Go.Proofs.YtjngnigelkgekaaGreat.Home (RT RTL)
open Go.Proofs.YtjngnigelkgekaaGreat.Redo (appR sizeF)
open Go.Proofs.YtjngnigelkgekaaGreat.Frame (frameF)
structure Cm where
  pages : List (List Int)
  named : List Int
  nm : List Bool
  used : Nat
  seq : Nat
  wt : Wt
def cmE (a b : Int) (used : Nat) (l : List Chg) : Int := if rightF l b = true then (if fitsF a used l.length = true then 0 else 24) else 1
def cmR (n : Nat) (a b ep : Int) (las : List Int) (c : Cm) (l : List Chg) : Cm :=
  if rightF l b = true then (if fitsF a c.used l.length = true then ⟨applyF c.pages l, insAll c.named l, nmF c.nm l, c.used + (18 + 66 * l.length), c.seq + 1, appR n las c.wt a b ep (c.used : Int) (frameF ep (c.seq : Int) (deltaF l))⟩ else c) else c
section
variable {n a b : Nat} {ep : Int} {las : List Int} {c : Cm}
theorem St.cm {l : List Chg} (h : St n a b ep c.pages c.named c.nm c.used c.seq las c.wt) (hB : ∀ x ∈ l, Bytes x.2) : St n a b ep (cmR n a b ep las c l).pages (cmR n a b ep las c l).named (cmR n a b ep las c l).nm (cmR n a b ep las c l).used (cmR n a b ep las c l).seq las (cmR n a b ep las c l).wt ∧ (cmR n a b ep las c l).seq ≤ c.seq + 1 := by
  unfold cmR
  split
  · rename_i hr
    split
    · rename_i hf
      exact ⟨h.commit hr hf hB, Nat.le_refl _⟩
    · exact ⟨h, Nat.le_succ _⟩
  · exact ⟨h, Nat.le_succ _⟩
end
section
variable {w0 W : World} {F : List HP} {g gr gs gx m n a b : Nat} {ep : Int} {las : List Int} {c : Cm}
theorem rcommit_ {d : Nat} {A2 : Option Addr} {n2 c2 : Nat} {l : List Chg} (h : Sep w0 W (RStB gx gr (a : Int) (b : Int) ep c.pages c.nm c.used c.seq :: RT gr n las c.wt d :: F)) (hs : St n a b ep c.pages c.named c.nm c.used c.seq las c.wt) (hq : c.seq ≤ 1000) (hd : d ≤ 900000) (hC : ∀ W', Sep w0 W' F → KC.C W' A2 n2 l) :
    Calls Tryz.prog 43 #[.pointer (some ⟨gx, 0, none⟩), .slice A2 n2 c2] W fun e w' => e = .returned (.int .i64 (cmE a b c.used l)) ∧ ∃ d' : Nat, d' ≤ d + 64 ∧ Sep w0 w' (RStB gx gr (a : Int) (b : Int) ep (cmR n a b ep las c l).pages (cmR n a b ep las c l).nm (cmR n a b ep las c l).used (cmR n a b ep las c l).seq :: RT gr n las (cmR n a b ep las c l).wt d' :: F) := by
  have hC0 := hC W h.tail.tail
  obtain rfl : l.length = n2 := hC0.1
  have hnu := hs.nums
  unfold cmE cmR
  cases hr : rightF l (b : Int) with
  | false =>
    rw [if_neg (by decide), if_neg (by decide)]
    exact (rcommit_bad h hC0 hr).mono (by rintro e w' ⟨rfl, hS⟩; exact ⟨rfl, d, by omega, hS⟩)
  | true =>
    rw [if_pos rfl, if_pos rfl]
    cases hf : fitsF (a : Int) c.used l.length with
    | false =>
      rw [if_neg (by decide), if_neg (by decide)]
      exact (rcommit_full h hC0 hr hs.us hf).mono (by rintro e w' ⟨rfl, hS⟩; exact ⟨rfl, d, by omega, hS⟩)
    | true =>
      rw [if_pos rfl, if_pos rfl]
      exact rcommit_ok h hs.dk.len hs.n160 hd hs.dk.wl hC hr hs.us hf ⟨by omega, hs.e32⟩ (by omega) (by rw [hs.pl])
end
end Go.Proofs.YtjngnigelkgekaaGreat.RStore
