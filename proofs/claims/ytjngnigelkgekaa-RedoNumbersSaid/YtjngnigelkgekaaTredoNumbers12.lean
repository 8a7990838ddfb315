/- Redo10, Redo8: what RedoNumbers needs. -/
import Derived.Test.YtjngnigelkgekaaTredoNumbers11
import Derived.Lib.SliceRun
namespace Go.Proofs.Ytjngnigelkgekaa.Redo
set_option linter.unusedVariables false
set_option linter.unusedSimpArgs false
open Go.RowKit Go.Proofs.YtjngnigelkgekaaW.PrintWords Go.Proofs.YtjngnigelkgekaaW.PrintLast Go.Proofs.YtjngnigelkgekaaW.PrintMore Go.Proofs.Ytjngnigelkgekaa.Kit Go.Proofs.Ytjngnigelkgekaa.Plain Go.Proofs.Ytjngnigelkgekaa.Disk Go.Proofs.Ytjngnigelkgekaa.Root Go.Proofs.Ytjngnigelkgekaa.Frame
open Go.Proofs.Ytjngnigelkgekaa.Home (K2 RT)
open Go.Proofs.Ytjngnigelkgekaa.Delta (Chg KC undeltaF)
theorem at6 {w0 W : World} {p q r s t u : HP} {F : List HP} (h : Sep w0 W (p :: q :: r :: s :: t :: u :: F)) : Sep w0 W (u :: p :: q :: r :: s :: t :: F) := (h.perm (.cons p (.cons q (.cons r ((List.Perm.cons s (.swap _ _ _)).trans (.swap _ _ _)))))).at4
theorem strE {w0 W : World} {F : List HP} {v : Value} {xs : List Int} {s : ByteArray} (h : Sep w0 W (Row U8 5 v xs :: F)) (hs : strOfNums xs = s) : (convert 30 9 v).run Try.prog W = .ok (.string s) W := by
  obtain ⟨A, c, rfl⟩ := h.rowV
  rw [← hs]
  exact str_ h
section
variable {w0 W : World} {F : List HP} {g gr n d : Nat} {las : List Int} {wt : Wt}
theorem rlogE {c : Int} {a b : Int} {lg : List Int} (h : Sep w0 W (RT g n las wt d :: F)) (hlg : logF n las wt a b c = lg) (hl : las.length = 64 * n) (hw : ∀ i b, wt i = some b → b.length = 64) :
    Calls Try.prog 129 #[.pointer (some ⟨g, 0, none⟩), .agg #[.int .i64 a, .int .i64 b, .int .u32 c]] W fun e w' => ∃ v, e = .returned v ∧ Sep w0 w' (Row U8 5 v lg :: RT g n las wt d :: F) := by
  rw [← hlg]
  exact rlog_ h hl hw a b c
set_option maxHeartbeats 1600000 in
set_option maxRecDepth 100000 in
theorem lrecords_ (h : Sep w0 W (Dsk g las wt :: RT gr n las wt d :: F)) (hl : las.length = 64 * n) (hn : n ≤ 160) (hw : WtOk wt) (hlb : Bytes las) (a b c : Int) :
    Calls Try.prog 109 #[.pointer (some ⟨g, 0, none⟩), .pointer (some ⟨gr, 0, none⟩), .agg #[.int .i64 a, .int .i64 b, .int .u32 c]] W fun e w' => e = .returned (.bool true) ∧ Sep w0 w' (Dsk g las wt :: RT gr n las wt d :: F) := by
  have A0 := Aside0.mk (h.newBlk 26 #[.int .i64 a, .int .i64 b, .int .u32 c])
  have HB := Aside0.mk (logF_bytes (n := n) hlb hw.2 a b c)
  have HBR := Aside0.mk (recs_bytes b _ (scan_facts HB.out c).1)
  have HL := Aside0.mk (And.intro hl (And.intro hn hw.1))
  have z0 := (A0.out.cell 0).trans rfl
  have z1 := (A0.out.cell 1).trans rfl
  have z2 := (A0.out.cell 2).trans rfl
  clear h hl hn hw hlb
  go_enter Try.func109, Try.ntmps109
  go_wp2_with fail
  refine (records_ A0.out.at2 HL.out.1 HL.out.2.1 HL.out.2.2 a b c HB.out).mono ?_
  rintro e w1 ⟨v1, rfl, hS1⟩
  obtain ⟨rr, hrr⟩ : ∃ r, (recR n las wt a b c).1 = r := ⟨_, rfl⟩
  obtain ⟨tt, htt⟩ : ∃ r, (recR n las wt a b c).2 = r := ⟨_, rfl⟩
  have HTT := Aside0.mk htt
  have HBB : Aside0 (∀ l ∈ rr, ∀ c ∈ l, Bytes c.2) := ⟨by rw [← hrr]; exact HBR.out⟩
  have HRR := Aside0.mk hrr
  rw [hrr] at hS1
  rw [htt]
  obtain ⟨N, hN⟩ : ∃ N, rr.length = N := ⟨_, rfl⟩
  have HN := Aside0.mk hN
  obtain ⟨A1, c1, rfl⟩ := hS1.rowN hN
  have B1 := Aside0.mk hS1
  have z0 := (B1.out.at3.cell 0).trans rfl
  have z1 := (B1.out.at3.cell 1).trans rfl
  have z2 := (B1.out.at3.cell 2).trans rfl
  clear hS1 hrr htt hN
  go_wp2_with fail
  refine (rrecords_ B1.out.at4 HL.out.1 HL.out.2.1 HL.out.2.2 a b c HB.out).mono ?_
  rintro e w2 ⟨v2, rfl, hS2⟩
  rw [HRR.out] at hS2
  rw [HTT.out]
  obtain ⟨A2, c2, rfl⟩ := hS2.rowN HN.out
  have B2 := Aside0.mk hS2.drew
  obtain ⟨lg, hlg⟩ : ∃ l, logF n las wt a b c = l := ⟨_, rfl⟩
  have HLG := Aside0.mk hlg
  obtain ⟨sl, hsl⟩ : ∃ s, strOfNums lg = s := ⟨_, rfl⟩
  have HSL := Aside0.mk hsl
  have hss : (sl.toList == sl.toList) = true := by simp
  have hsn : (tt != tt) = false := by simp
  have hnn : (N != N) = false := by simp
  clear hS2 hlg hsl z0 z1 z2
  go_wp2_with fail
  refine start_ (n := 21) (S := fun w' => w'.cell? ⟨W.heap.size, 0, none⟩ = some (.int .i64 a) ∧ w'.cell? ⟨W.heap.size, 1, none⟩ = some (.int .i64 b) ∧ w'.cell? ⟨W.heap.size, 2, none⟩ = some (.int .u32 c)) (ds := []) #[false, false, false, false, false, false, false, false, false, false, false, false, false, false, false, false, false, false, false, false, false] (by kernel_rfl) rfl rfl ⟨(B2.out.at5.cell 0).trans rfl, (B2.out.at5.cell 1).trans rfl, (B2.out.at5.cell 2).trans rfl⟩ (fun hHeld => ?_)
  refine pure_ (i := 0) (N := some 24) (v := ?_) (a' := ?_) #[true, false, false, false, false, false, false, false, false, false, false, false, false, false, false, false, false, false, false, false, false] rfl rfl (by kernel_rfl) (fun _ _ _ h => h) (Or.inl ⟨by rfl, ?_⟩) ?_ ?_
  rotate_left
  · intro w'
    go_simp
    with_reducible rfl
  rotate_left
  · simp only [Act.put, List.setIfInBounds_toArray, List.set_cons_zero, List.set_cons_succ, i64_w, i32_w]
    rfl
  refine pure_ (i := 1) (N := some 25) (v := ?_) (a' := ?_) #[true, true, false, false, false, false, false, false, false, false, false, false, false, false, false, false, false, false, false, false, false] rfl rfl (by kernel_rfl) (fun _ _ _ h => h) (Or.inl ⟨by rfl, ?_⟩) ?_ ?_
  rotate_left
  · intro w'
    go_simp
    with_reducible rfl
  rotate_left
  · simp only [Act.put, List.setIfInBounds_toArray, List.set_cons_zero, List.set_cons_succ, i64_w, i32_w]
    rfl
  refine pure_ (i := 2) (N := some 26) (v := ?_) (a' := ?_) #[true, true, true, false, false, false, false, false, false, false, false, false, false, false, false, false, false, false, false, false, false] rfl rfl (by kernel_rfl) (fun _ _ _ h => h) (Or.inl ⟨by rfl, ?_⟩) ?_ ?_
  rotate_left
  · intro w'
    go_simp
    with_reducible rfl
  rotate_left
  · simp only [Act.put, List.setIfInBounds_toArray, List.set_cons_zero, List.set_cons_succ, i64_w, i32_w]
    rfl
  refine pure_ (i := 3) (N := some 27) (v := ?_) (a' := ?_) #[true, true, true, true, false, false, false, false, false, false, false, false, false, false, false, false, false, false, false, false, false] rfl rfl (by kernel_rfl) (fun _ _ _ h => h) (Or.inl ⟨by rfl, ?_⟩) ?_ ?_
  rotate_left
  · intro w'
    go_simp
    with_reducible rfl
  rotate_left
  · simp only [Act.put, List.setIfInBounds_toArray, List.set_cons_zero, List.set_cons_succ, i64_w, i32_w]
    rfl
  refine pure_ (i := 4) (N := some 28) (v := ?_) (a' := ?_) #[true, true, true, true, true, false, false, false, false, false, false, false, false, false, false, false, false, false, false, false, false] rfl rfl (by kernel_rfl) (fun _ _ _ h => h) (Or.inl ⟨by rfl, ?_⟩) ?_ ?_
  rotate_left
  · intro w'
    go_simp
    with_reducible rfl
  rotate_left
  · simp only [Act.put, List.setIfInBounds_toArray, List.set_cons_zero, List.set_cons_succ, i64_w, i32_w]
    rfl
  refine pure_ (i := 5) (N := some 29) (v := ?_) (a' := ?_) #[true, true, true, true, true, true, false, false, false, false, false, false, false, false, false, false, false, false, false, false, false] rfl rfl (by kernel_rfl) (fun _ _ _ h => h) (Or.inl ⟨by rfl, ?_⟩) ?_ ?_
  rotate_left
  · intro w'
    go_simp
    with_reducible rfl
  rotate_left
  · simp only [Act.put, List.setIfInBounds_toArray, List.set_cons_zero, List.set_cons_succ, i64_w, i32_w]
    rfl
  refine pure_ (i := 6) (N := some 30) (v := ?_) (a' := ?_) #[true, true, true, true, true, true, true, false, false, false, false, false, false, false, false, false, false, false, false, false, false] rfl rfl (by kernel_rfl) (fun _ _ _ h => h) (Or.inl ⟨by rfl, ?_⟩) ?_ ?_
  rotate_left
  · intro w'
    go_simp
    with_reducible rfl
  rotate_left
  · simp only [Act.put, List.setIfInBounds_toArray, List.set_cons_zero, List.set_cons_succ, i64_w, i32_w]
    rfl
  refine pure_ (i := 7) (N := some 31) (v := ?_) (a' := ?_) #[true, true, true, true, true, true, true, true, false, false, false, false, false, false, false, false, false, false, false, false, false] rfl rfl (by kernel_rfl) (fun _ _ _ h => h) (Or.inl ⟨by rfl, ?_⟩) ?_ ?_
  rotate_left
  · intro w'
    go_simp
    with_reducible rfl
  rotate_left
  · simp only [Act.put, List.setIfInBounds_toArray, List.set_cons_zero, List.set_cons_succ, i64_w, i32_w]
    rfl
  refine pure_ (i := 8) (N := some 32) (v := ?_) (a' := ?_) #[true, true, true, true, true, true, true, true, true, false, false, false, false, false, false, false, false, false, false, false, false] rfl rfl (by kernel_rfl) (fun _ _ _ h => h) (Or.inl ⟨by rfl, ?_⟩) ?_ ?_
  rotate_left
  · intro w'
    go_simp
    with_reducible rfl
  rotate_left
  · simp only [Act.put, List.setIfInBounds_toArray, List.set_cons_zero, List.set_cons_succ, i64_w, i32_w]
    rfl
  refine pure_ (i := 9) (N := some 33) (v := ?_) (a' := ?_) #[true, true, true, true, true, true, true, true, true, true, false, false, false, false, false, false, false, false, false, false, false] rfl rfl (by kernel_rfl) (fun _ _ _ h => h) (Or.inl ⟨by rfl, ?_⟩) ?_ ?_
  rotate_left
  · intro w'
    go_simp
    with_reducible rfl
  rotate_left
  · simp only [Act.put, List.setIfInBounds_toArray, List.set_cons_zero, List.set_cons_succ, i64_w, i32_w]
    rfl
  refine pure_ (i := 10) (N := some 34) (v := ?_) (a' := ?_) #[true, true, true, true, true, true, true, true, true, true, true, false, false, false, false, false, false, false, false, false, false] rfl rfl (by kernel_rfl) (fun _ _ _ h => h) (Or.inl ⟨by rfl, ?_⟩) ?_ ?_
  rotate_left
  · intro w'
    go_simp
    with_reducible rfl
  rotate_left
  · simp only [Act.put, List.setIfInBounds_toArray, List.set_cons_zero, List.set_cons_succ, i64_w, i32_w]
    rfl
  refine pure_ (i := 11) (N := some 35) (v := ?_) (a' := ?_) #[true, true, true, true, true, true, true, true, true, true, true, true, false, false, false, false, false, false, false, false, false] rfl rfl (by kernel_rfl) (fun _ _ _ h => h) (Or.inl ⟨by rfl, ?_⟩) ?_ ?_
  rotate_left
  · intro w'
    go_simp
    with_reducible rfl
  rotate_left
  · simp only [Act.put, List.setIfInBounds_toArray, List.set_cons_zero, List.set_cons_succ, i64_w, i32_w]
    rfl
  refine pure_ (i := 15) (N := some 39) (v := ?_) (a' := ?_) #[true, true, true, true, true, true, true, true, true, true, true, true, false, false, false, true, false, false, false, false, false] rfl rfl (by kernel_rfl) (fun _ _ _ h => h) (Or.inl ⟨by rfl, ?_⟩) ?_ ?_
  rotate_left
  · intro w'
    go_simp
    with_reducible rfl
  rotate_left
  · simp only [Act.put, List.setIfInBounds_toArray, List.set_cons_zero, List.set_cons_succ, i64_w, i32_w]
    rfl
  refine take_ (i := 12) (N := some 36) (v := ?_) (a' := ?_) #[true, true, true, true, true, true, true, true, true, true, true, true, true, false, false, true, false, false, false, false, false] rfl rfl (by kernel_rfl) (fun _ _ _ h => h) (Or.inl ⟨by rfl, ?_⟩) hHeld ?_ ?_
  rotate_left
  · rintro w' ⟨s0, s1, s2⟩
    go_simp
    with_reducible rfl
  rotate_left
  · simp only [Act.put, List.setIfInBounds_toArray, List.set_cons_zero, List.set_cons_succ, i64_w, i32_w]
    rfl
  refine take_ (i := 16) (N := some 40) (v := ?_) (a' := ?_) #[true, true, true, true, true, true, true, true, true, true, true, true, true, false, false, true, true, false, false, false, false] rfl rfl (by kernel_rfl) (fun _ _ _ h => h) (Or.inl ⟨by rfl, ?_⟩) hHeld ?_ ?_
  rotate_left
  · rintro w' ⟨s0, s1, s2⟩
    go_simp
    with_reducible rfl
  rotate_left
  · simp only [Act.put, List.setIfInBounds_toArray, List.set_cons_zero, List.set_cons_succ, i64_w, i32_w]
    rfl
  refine one_ (i := 13) (N := some 37) #[true, true, true, true, true, true, true, true, true, true, true, true, true, true, false, true, true, false, false, false, false] rfl rfl (by kernel_rfl) (by decide) (fun K hK => ?_)
  refine goes_ Try.func64 (by kernel_rfl) rfl #[.pointer (some ⟨g, 0, none⟩), .agg #[.int .i64 a, .int .i64 b, .int .u32 c]] (by rfl) rfl rfl (by simp only [List.map_toArray, List.map_cons, List.map_nil]; rfl) ?_
  with_reducible refine (bytes_ B2.out.at4 HL.out.1 HL.out.2.2 a b c).mono ?_
  rintro e w3 ⟨v3, rfl, hS3⟩
  refine ⟨_, rfl, ?_⟩
  rw [HLG.out] at hS3
  obtain ⟨A3, c3, rfl⟩ := hS3.rowV
  have B3 := Aside0.mk hS3.at4
  clear hS3
  refine hK.out _ _ ⟨((at6 B3.out).cell 0).trans rfl, ((at6 B3.out).cell 1).trans rfl, ((at6 B3.out).cell 2).trans rfl⟩ (fun hHeld => ?_)
  clear hK K
  refine norm_ (a' := ?_) ?_ ?_
  rotate_left
  · show Act.put _ (some 37) _ = _
    simp only [Act.put, List.setIfInBounds_toArray, List.set_cons_zero, List.set_cons_succ, i64_w, i32_w]
    rfl
  refine join_ (σ := Value × Value × Value) 2 #[true, true, true, true, true, true, true, true, true, true, true, true, true, true, true, true, true, true, true, false, false] (fun s_ => [(38, s_.1), (41, s_.2.1), (42, s_.2.2)]) (fun s_ w' => (w'.cell? ⟨W.heap.size, 0, none⟩ = some (.int .i64 a) ∧ w'.cell? ⟨W.heap.size, 1, none⟩ = some (.int .i64 b) ∧ w'.cell? ⟨W.heap.size, 2, none⟩ = some (.int .u32 c)) ∧ Sep w0 w' ((Pu ((s_.1) = .string sl)) :: (Pu ((s_.2.2) = .string sl)) :: (RT gr n las wt d :: Row U8 5 (.slice A3 lg.length c3) lg :: Dsk g las wt :: Row K3 47 (.slice A2 N c2) rr :: Row K3 47 (.slice A1 N c1) rr :: Blk W.heap.size 26 #[.int .i64 a, .int .i64 b, .int .u32 c] :: F))) ?_ ?_
  rotate_left
  · intro hJ14_17_18
    refine join_ (σ := Value × Value) 3 #[true, true, true, true, true, true, true, true, true, true, true, true, true, true, true, true, true, true, false, false, false] (fun s_ => [(38, s_.1), (41, s_.2)]) (fun s_ w' => (w'.cell? ⟨W.heap.size, 0, none⟩ = some (.int .i64 a) ∧ w'.cell? ⟨W.heap.size, 1, none⟩ = some (.int .i64 b) ∧ w'.cell? ⟨W.heap.size, 2, none⟩ = some (.int .u32 c)) ∧ Sep w0 w' ((Pu ((s_.1) = .string sl)) :: (Row U8 5 (s_.2) lg) :: (RT gr n las wt d :: Row U8 5 (.slice A3 lg.length c3) lg :: Dsk g las wt :: Row K3 47 (.slice A2 N c2) rr :: Row K3 47 (.slice A1 N c1) rr :: Blk W.heap.size 26 #[.int .i64 a, .int .i64 b, .int .u32 c] :: F))) ?_ ?_
    rotate_left
    · intro hJ14_17
      refine join_ (σ := Value × Value) 3 #[true, true, true, true, true, true, true, true, true, true, true, true, true, true, false, true, true, true, true, false, false] (fun s_ => [(41, s_.1), (42, s_.2)]) (fun s_ w' => (w'.cell? ⟨W.heap.size, 0, none⟩ = some (.int .i64 a) ∧ w'.cell? ⟨W.heap.size, 1, none⟩ = some (.int .i64 b) ∧ w'.cell? ⟨W.heap.size, 2, none⟩ = some (.int .u32 c)) ∧ Sep w0 w' ((Pu ((s_.2) = .string sl)) :: (RT gr n las wt d :: Row U8 5 (.slice A3 lg.length c3) lg :: Dsk g las wt :: Row K3 47 (.slice A2 N c2) rr :: Row K3 47 (.slice A1 N c1) rr :: Blk W.heap.size 26 #[.int .i64 a, .int .i64 b, .int .u32 c] :: F))) ?_ ?_
      rotate_left
      · intro hJ17_18
        refine join_ (σ := Value) 4 #[true, true, true, true, true, true, true, true, true, true, true, true, true, true, true, true, true, false, false, false, false] (fun s_ => [(38, s_)]) (fun s_ w' => (w'.cell? ⟨W.heap.size, 0, none⟩ = some (.int .i64 a) ∧ w'.cell? ⟨W.heap.size, 1, none⟩ = some (.int .i64 b) ∧ w'.cell? ⟨W.heap.size, 2, none⟩ = some (.int .u32 c)) ∧ Sep w0 w' ((Pu ((s_) = .string sl)) :: (RT gr n las wt d :: Row U8 5 (.slice A3 lg.length c3) lg :: Dsk g las wt :: Row K3 47 (.slice A2 N c2) rr :: Row K3 47 (.slice A1 N c1) rr :: Blk W.heap.size 26 #[.int .i64 a, .int .i64 b, .int .u32 c] :: F))) ?_ ?_
        rotate_left
        · intro hJ14
          refine join_ (σ := Value) 4 #[true, true, true, true, true, true, true, true, true, true, true, true, true, true, false, true, true, true, false, false, false] (fun s_ => [(41, s_)]) (fun s_ w' => (w'.cell? ⟨W.heap.size, 0, none⟩ = some (.int .i64 a) ∧ w'.cell? ⟨W.heap.size, 1, none⟩ = some (.int .i64 b) ∧ w'.cell? ⟨W.heap.size, 2, none⟩ = some (.int .u32 c)) ∧ Sep w0 w' ((Row U8 5 (s_) lg) :: (RT gr n las wt d :: Row U8 5 (.slice A3 lg.length c3) lg :: Dsk g las wt :: Row K3 47 (.slice A2 N c2) rr :: Row K3 47 (.slice A1 N c1) rr :: Blk W.heap.size 26 #[.int .i64 a, .int .i64 b, .int .u32 c] :: F))) ?_ ?_
          rotate_left
          · intro hJ17
            refine two_ (i := 14) (j := 17) (Ni := some 38) (Nj := some 41) #[true, true, true, true, true, true, true, true, true, true, true, true, true, true, true, true, true, false, false, false, false] #[true, true, true, true, true, true, true, true, true, true, true, true, true, true, false, true, true, true, false, false, false] rfl rfl rfl rfl (by kernel_rfl) (by decide) (by decide) (fun K hK => ?_) (fun K hK => ?_)
            · skip
              have hs_ : (convert 30 9 (.slice A3 lg.length c3)).run Try.prog w3 = .ok (.string sl) w3 := by first | exact strE (B3.out).at2 HSL.out | exact strE (B3.out).at3 HSL.out
              refine value_ (w1 := ?_) (v := ?_) (by rfl) rfl ?_ ?_
              rotate_left 2
              · go_simp
                constructor
                · rfl
                · rfl
              have hN := (B3.out).unpu (rfl : (Value.string sl) = .string sl)
              refine hK.out _ _ ⟨((at6 (hN.tail)).cell 0).trans rfl, ((at6 (hN.tail)).cell 1).trans rfl, ((at6 (hN.tail)).cell 2).trans rfl⟩ (fun hHeld => ?_)
              clear hK K
              refine norm_ (a' := ?_) ?_ ?_
              rotate_left
              · show Act.put _ (some 38) _ = _
                simp only [Act.put, List.setIfInBounds_toArray, List.set_cons_zero, List.set_cons_succ, i64_w, i32_w]
                rfl
              exact norm_ (by first | (simp only [putAll, Act.put, List.setIfInBounds_toArray, List.set_cons_zero, List.set_cons_succ]; done) | (simp only [putAll, Act.put, List.setIfInBounds_toArray, List.set_cons_zero, List.set_cons_succ]; rfl)) (hJ14 (.string sl) _ ⟨hHeld, hN⟩)
            · skip
              refine goes_ Try.func129 (by kernel_rfl) rfl #[.pointer (some ⟨gr, 0, none⟩), .agg #[.int .i64 a, .int .i64 b, .int .u32 c]] (by rfl) rfl rfl (by simp only [List.map_toArray, List.map_cons, List.map_nil]; rfl) ?_
              with_reducible refine (rlogE (n := n) (las := las) (wt := wt) (d := d) (w0 := w0) (by first | exact (B3.out) | exact (B3.out).at2) HLG.out HL.out.1 HL.out.2.2).mono ?_
              rintro e wn_ ⟨vn_, rfl, hS_⟩
              refine ⟨_, rfl, ?_⟩
              first | (have hN : Sep w0 wn_ (Row U8 5 vn_ lg :: RT gr n las wt d :: Row U8 5 (.slice A3 lg.length c3) lg :: Dsk g las wt :: _) := hS_) | (have hN := hS_.sw23)
              clear hS_
              refine hK.out _ _ ⟨((at6 (hN.tail)).cell 0).trans rfl, ((at6 (hN.tail)).cell 1).trans rfl, ((at6 (hN.tail)).cell 2).trans rfl⟩ (fun hHeld => ?_)
              clear hK K
              refine norm_ (a' := ?_) ?_ ?_
              rotate_left
              · show Act.put _ (some 41) _ = _
                simp only [Act.put, List.setIfInBounds_toArray, List.set_cons_zero, List.set_cons_succ, i64_w, i32_w]
                rfl
              exact norm_ (by first | (simp only [putAll, Act.put, List.setIfInBounds_toArray, List.set_cons_zero, List.set_cons_succ]; done) | (simp only [putAll, Act.put, List.setIfInBounds_toArray, List.set_cons_zero, List.set_cons_succ]; rfl)) (hJ17 vn_ _ ⟨hHeld, hN⟩)
          · skip
            rintro v17_ W_ ⟨hS_, hQ_⟩
            have hSep : Aside0 (Sep w0 W_ ((Row U8 5 (v17_) lg) :: (RT gr n las wt d :: Row U8 5 (.slice A3 lg.length c3) lg :: Dsk g las wt :: Row K3 47 (.slice A2 N c2) rr :: Row K3 47 (.slice A1 N c1) rr :: Blk W.heap.size 26 #[.int .i64 a, .int .i64 b, .int .u32 c] :: F))) := ⟨hQ_⟩
            clear hQ_
            have hHeld : W_.cell? ⟨W.heap.size, 0, none⟩ = some (.int .i64 a) ∧ W_.cell? ⟨W.heap.size, 1, none⟩ = some (.int .i64 b) ∧ W_.cell? ⟨W.heap.size, 2, none⟩ = some (.int .u32 c) := hS_
            refine norm_ (a' := ?_) ?_ ?_
            rotate_left
            · simp only [putAll, Act.put, List.setIfInBounds_toArray, List.set_cons_zero, List.set_cons_succ]
              rfl
            refine two_ (i := 14) (j := 18) (Ni := some 38) (Nj := some 42) #[true, true, true, true, true, true, true, true, true, true, true, true, true, true, true, true, true, true, false, false, false] #[true, true, true, true, true, true, true, true, true, true, true, true, true, true, false, true, true, true, true, false, false] rfl rfl rfl rfl (by kernel_rfl) (by decide) (by decide) (fun K hK => ?_) (fun K hK => ?_)
            · skip
              have hs_ : (convert 30 9 (.slice A3 lg.length c3)).run Try.prog W_ = .ok (.string sl) W_ := by first | exact strE (hSep.out).at2 HSL.out | exact strE (hSep.out).at3 HSL.out
              refine value_ (w1 := ?_) (v := ?_) (by rfl) rfl ?_ ?_
              rotate_left 2
              · go_simp
                constructor
                · rfl
                · rfl
              have hN := (hSep.out).unpu (rfl : (Value.string sl) = .string sl)
              refine hK.out _ _ ⟨((at6 (hN.tail.tail)).cell 0).trans rfl, ((at6 (hN.tail.tail)).cell 1).trans rfl, ((at6 (hN.tail.tail)).cell 2).trans rfl⟩ (fun hHeld => ?_)
              clear hK K
              refine norm_ (a' := ?_) ?_ ?_
              rotate_left
              · show Act.put _ (some 38) _ = _
                simp only [Act.put, List.setIfInBounds_toArray, List.set_cons_zero, List.set_cons_succ, i64_w, i32_w]
                rfl
              exact norm_ (by first | (simp only [putAll, Act.put, List.setIfInBounds_toArray, List.set_cons_zero, List.set_cons_succ]; done) | (simp only [putAll, Act.put, List.setIfInBounds_toArray, List.set_cons_zero, List.set_cons_succ]; rfl)) (hJ14_17 (.string sl, v17_) _ ⟨hHeld, hN⟩)
            · skip
              have hs_ := strE ((hSep.out)) HSL.out
              refine value_ (w1 := ?_) (v := ?_) (by rfl) rfl ?_ ?_
              rotate_left 2
              · go_simp
                constructor
                · rfl
                · rfl
              have hN := ((hSep.out)).tail.unpu (rfl : (Value.string sl) = .string sl)
              refine hK.out _ _ ⟨((at6 (hN.tail)).cell 0).trans rfl, ((at6 (hN.tail)).cell 1).trans rfl, ((at6 (hN.tail)).cell 2).trans rfl⟩ (fun hHeld => ?_)
              clear hK K
              refine norm_ (a' := ?_) ?_ ?_
              rotate_left
              · show Act.put _ (some 42) _ = _
                simp only [Act.put, List.setIfInBounds_toArray, List.set_cons_zero, List.set_cons_succ, i64_w, i32_w]
                rfl
              exact norm_ (by first | (simp only [putAll, Act.put, List.setIfInBounds_toArray, List.set_cons_zero, List.set_cons_succ]; done) | (simp only [putAll, Act.put, List.setIfInBounds_toArray, List.set_cons_zero, List.set_cons_succ]; rfl)) (hJ17_18 (v17_, .string sl) _ ⟨hHeld, hN⟩)
        · skip
          rintro v14_ W_ ⟨hS_, hQ_⟩
          have hSep : Aside0 (Sep w0 W_ ((Pu ((v14_) = .string sl)) :: (RT gr n las wt d :: Row U8 5 (.slice A3 lg.length c3) lg :: Dsk g las wt :: Row K3 47 (.slice A2 N c2) rr :: Row K3 47 (.slice A1 N c1) rr :: Blk W.heap.size 26 #[.int .i64 a, .int .i64 b, .int .u32 c] :: F))) := ⟨hQ_⟩
          clear hQ_
          have hHeld : W_.cell? ⟨W.heap.size, 0, none⟩ = some (.int .i64 a) ∧ W_.cell? ⟨W.heap.size, 1, none⟩ = some (.int .i64 b) ∧ W_.cell? ⟨W.heap.size, 2, none⟩ = some (.int .u32 c) := hS_
          refine norm_ (a' := ?_) ?_ ?_
          rotate_left
          · simp only [putAll, Act.put, List.setIfInBounds_toArray, List.set_cons_zero, List.set_cons_succ]
            rfl
          refine one_ (i := 17) (N := some 41) #[true, true, true, true, true, true, true, true, true, true, true, true, true, true, true, true, true, true, false, false, false] rfl rfl (by kernel_rfl) (by decide) (fun K hK => ?_)
          refine goes_ Try.func129 (by kernel_rfl) rfl #[.pointer (some ⟨gr, 0, none⟩), .agg #[.int .i64 a, .int .i64 b, .int .u32 c]] (by rfl) rfl rfl (by simp only [List.map_toArray, List.map_cons, List.map_nil]; rfl) ?_
          with_reducible refine (rlogE (n := n) (las := las) (wt := wt) (d := d) (w0 := w0) (by first | exact (hSep.out) | exact (hSep.out).at2) HLG.out HL.out.1 HL.out.2.2).mono ?_
          rintro e wn_ ⟨vn_, rfl, hS_⟩
          refine ⟨_, rfl, ?_⟩
          first | (have hN : Sep w0 wn_ (Row U8 5 vn_ lg :: RT gr n las wt d :: Row U8 5 (.slice A3 lg.length c3) lg :: Dsk g las wt :: _) := hS_) | (have hN := hS_.sw23)
          clear hS_
          refine hK.out _ _ ⟨((at6 (hN.tail.tail)).cell 0).trans rfl, ((at6 (hN.tail.tail)).cell 1).trans rfl, ((at6 (hN.tail.tail)).cell 2).trans rfl⟩ (fun hHeld => ?_)
          clear hK K
          refine norm_ (a' := ?_) ?_ ?_
          rotate_left
          · show Act.put _ (some 41) _ = _
            simp only [Act.put, List.setIfInBounds_toArray, List.set_cons_zero, List.set_cons_succ, i64_w, i32_w]
            rfl
          exact norm_ (by first | (simp only [putAll, Act.put, List.setIfInBounds_toArray, List.set_cons_zero, List.set_cons_succ]; done) | (simp only [putAll, Act.put, List.setIfInBounds_toArray, List.set_cons_zero, List.set_cons_succ]; rfl)) (hJ14_17 (v14_, vn_) _ ⟨hHeld, hN.at2⟩)
      · skip
        rintro ⟨v17_, v18_⟩ W_ ⟨hS_, hQ_⟩
        have hSep : Aside0 (Sep w0 W_ ((Pu ((v18_) = .string sl)) :: (RT gr n las wt d :: Row U8 5 (.slice A3 lg.length c3) lg :: Dsk g las wt :: Row K3 47 (.slice A2 N c2) rr :: Row K3 47 (.slice A1 N c1) rr :: Blk W.heap.size 26 #[.int .i64 a, .int .i64 b, .int .u32 c] :: F))) := ⟨hQ_⟩
        clear hQ_
        have hHeld : W_.cell? ⟨W.heap.size, 0, none⟩ = some (.int .i64 a) ∧ W_.cell? ⟨W.heap.size, 1, none⟩ = some (.int .i64 b) ∧ W_.cell? ⟨W.heap.size, 2, none⟩ = some (.int .u32 c) := hS_
        refine norm_ (a' := ?_) ?_ ?_
        rotate_left
        · simp only [putAll, Act.put, List.setIfInBounds_toArray, List.set_cons_zero, List.set_cons_succ]
          rfl
        refine one_ (i := 14) (N := some 38) #[true, true, true, true, true, true, true, true, true, true, true, true, true, true, true, true, true, true, true, false, false] rfl rfl (by kernel_rfl) (by decide) (fun K hK => ?_)
        have hs_ : (convert 30 9 (.slice A3 lg.length c3)).run Try.prog W_ = .ok (.string sl) W_ := by first | exact strE (hSep.out).at2 HSL.out | exact strE (hSep.out).at3 HSL.out
        refine value_ (w1 := ?_) (v := ?_) (by rfl) rfl ?_ ?_
        rotate_left 2
        · go_simp
          constructor
          · rfl
          · rfl
        have hN := (hSep.out).unpu (rfl : (Value.string sl) = .string sl)
        refine hK.out _ _ ⟨((at6 (hN.tail.tail)).cell 0).trans rfl, ((at6 (hN.tail.tail)).cell 1).trans rfl, ((at6 (hN.tail.tail)).cell 2).trans rfl⟩ (fun hHeld => ?_)
        clear hK K
        refine norm_ (a' := ?_) ?_ ?_
        rotate_left
        · show Act.put _ (some 38) _ = _
          simp only [Act.put, List.setIfInBounds_toArray, List.set_cons_zero, List.set_cons_succ, i64_w, i32_w]
          rfl
        exact norm_ (by first | (simp only [putAll, Act.put, List.setIfInBounds_toArray, List.set_cons_zero, List.set_cons_succ]; done) | (simp only [putAll, Act.put, List.setIfInBounds_toArray, List.set_cons_zero, List.set_cons_succ]; rfl)) (hJ14_17_18 (.string sl, v17_, v18_) _ ⟨hHeld, hN⟩)
    · skip
      rintro ⟨v14_, v17_⟩ W_ ⟨hS_, hQ_⟩
      have hSep : Aside0 (Sep w0 W_ ((Pu ((v14_) = .string sl)) :: (Row U8 5 (v17_) lg) :: (RT gr n las wt d :: Row U8 5 (.slice A3 lg.length c3) lg :: Dsk g las wt :: Row K3 47 (.slice A2 N c2) rr :: Row K3 47 (.slice A1 N c1) rr :: Blk W.heap.size 26 #[.int .i64 a, .int .i64 b, .int .u32 c] :: F))) := ⟨hQ_⟩
      clear hQ_
      have hHeld : W_.cell? ⟨W.heap.size, 0, none⟩ = some (.int .i64 a) ∧ W_.cell? ⟨W.heap.size, 1, none⟩ = some (.int .i64 b) ∧ W_.cell? ⟨W.heap.size, 2, none⟩ = some (.int .u32 c) := hS_
      refine norm_ (a' := ?_) ?_ ?_
      rotate_left
      · simp only [putAll, Act.put, List.setIfInBounds_toArray, List.set_cons_zero, List.set_cons_succ]
        rfl
      refine one_ (i := 18) (N := some 42) #[true, true, true, true, true, true, true, true, true, true, true, true, true, true, true, true, true, true, true, false, false] rfl rfl (by kernel_rfl) (by decide) (fun K hK => ?_)
      have hs_ := strE ((hSep.out).at2) HSL.out
      refine value_ (w1 := ?_) (v := ?_) (by rfl) rfl ?_ ?_
      rotate_left 2
      · go_simp
        constructor
        · rfl
        · rfl
      have hN := ((hSep.out).at2).tail.unpu (rfl : (Value.string sl) = .string sl)
      refine hK.out _ _ ⟨((at6 (hN.tail.tail)).cell 0).trans rfl, ((at6 (hN.tail.tail)).cell 1).trans rfl, ((at6 (hN.tail.tail)).cell 2).trans rfl⟩ (fun hHeld => ?_)
      clear hK K
      refine norm_ (a' := ?_) ?_ ?_
      rotate_left
      · show Act.put _ (some 42) _ = _
        simp only [Act.put, List.setIfInBounds_toArray, List.set_cons_zero, List.set_cons_succ, i64_w, i32_w]
        rfl
      exact norm_ (by first | (simp only [putAll, Act.put, List.setIfInBounds_toArray, List.set_cons_zero, List.set_cons_succ]; done) | (simp only [putAll, Act.put, List.setIfInBounds_toArray, List.set_cons_zero, List.set_cons_succ]; rfl)) (hJ14_17_18 (v14_, v17_, .string sl) _ ⟨hHeld, hN.at2⟩)
  rintro ⟨v14_, v17_, v18_⟩ W_ ⟨hS_, hQ_⟩
  have hSep : Aside0 (Sep w0 W_ ((Pu ((v14_) = .string sl)) :: (Pu ((v18_) = .string sl)) :: (RT gr n las wt d :: Row U8 5 (.slice A3 lg.length c3) lg :: Dsk g las wt :: Row K3 47 (.slice A2 N c2) rr :: Row K3 47 (.slice A1 N c1) rr :: Blk W.heap.size 26 #[.int .i64 a, .int .i64 b, .int .u32 c] :: F))) := ⟨hQ_⟩
  clear hQ_
  have hHeld : W_.cell? ⟨W.heap.size, 0, none⟩ = some (.int .i64 a) ∧ W_.cell? ⟨W.heap.size, 1, none⟩ = some (.int .i64 b) ∧ W_.cell? ⟨W.heap.size, 2, none⟩ = some (.int .u32 c) := hS_
  obtain ⟨h14_, hT_⟩ := hSep.out.pu
  obtain ⟨h18_, hT2_⟩ := hT_.pu
  have B5 := Aside0.mk hT2_
  subst h14_ h18_
  refine norm_ (a' := ?_) ?_ ?_
  rotate_left
  · simp only [putAll, Act.put, List.setIfInBounds_toArray, List.set_cons_zero, List.set_cons_succ]
    rfl
  refine pure_ (i := 19) (N := some 43) (v := ?_) (a' := ?_) #[true, true, true, true, true, true, true, true, true, true, true, true, true, true, true, true, true, true, true, true, false] rfl rfl (by kernel_rfl) (fun _ _ _ h => h) (Or.inl ⟨by rfl, ?_⟩) ?_ ?_
  rotate_left
  · intro w'
    go_simp
    with_reducible rfl
  rotate_left
  · simp only [Act.put, List.setIfInBounds_toArray, List.set_cons_zero, List.set_cons_succ, i64_w, i32_w]
    rfl
  refine pure_ (i := 20) (N := some 44) (v := ?_) (a' := ?_) #[true, true, true, true, true, true, true, true, true, true, true, true, true, true, true, true, true, true, true, true, true] rfl rfl (by kernel_rfl) (fun _ _ _ h => h) (Or.inl ⟨by rfl, ?_⟩) ?_ ?_
  rotate_left
  · intro w'
    go_simp
    with_reducible rfl
  rotate_left
  · simp only [Act.put, List.setIfInBounds_toArray, List.set_cons_zero, List.set_cons_succ, i64_w, i32_w]
    rfl
  refine done_ (by kernel_rfl) ?_
  go_wp2_with fail
  go_loopg [47] N (fun k_ p wr => ∃ j : Nat, p = .int .i64 (j : Int) ∧ j + k_ = N ∧ Sep w0 wr (RT gr n las wt d :: Row U8 5 (.slice A3 lg.length c3) lg :: Dsk g las wt :: Row K3 47 (.slice A2 N c2) rr :: Row K3 47 (.slice A1 N c1) rr :: Blk W.heap.size 26 #[.int .i64 a, .int .i64 b, .int .u32 c] :: F))
  case atStart => exact ⟨0, rfl, by omega, B5.out⟩
  case round =>
    obtain ⟨j, rfl, hjk, hS⟩ := hrel
    have AK := Aside0.mk hjk
    have AS := Aside0.mk hS
    clear hS
    by_cases cj : j < N
    case neg =>
      obtain rfl : j = N := by omega
      have hjl : ¬ (j : Int) < (j : Int) := by omega
      clear hjk cj
      go_wp2_with fail
      go_ret
      exact ⟨by first | rfl | (simp; done), AS.out.drop2.at3.tail.at3.tail.at3.tail.at2⟩
    case pos =>
    have hjl : (j : Int) < (N : Int) := by omega
    have hNb : N ≤ 9223372036854775807 := AS.out.at4.rowC'.2.1
    have AD := Aside0.mk AS.out.drew
    obtain ⟨hx1, ad1, B1', cB1, rfl, hcell1, hlc1, hCB1⟩ := slice_at AD.out.at5.rowC' cj
    obtain ⟨hx2, ad2, B2', cB2, rfl, hcell2, hlc2, hCB2⟩ := slice_at AD.out.at4.rowC' cj
    have HBX := Aside0.mk (HBB.out _ (List.getElem_mem hx1))
    obtain ⟨XL, hXL⟩ : ∃ L, rr[j].length = L := ⟨_, rfl⟩
    rw [hXL] at hcell1 hcell2 hCB1 hCB2
    have HC1 := Aside0.mk hCB1
    have HC2 := Aside0.mk hCB2
    have HE1 := Aside0.mk hcell1
    have HE2 := Aside0.mk hcell2
    clear hjk cj hXL hCB1 hCB2 hlc1 hlc2 hcell1 hcell2
    go_wp2_with fail
    refine start_ (n := 10) (S := fun w' => w'.cell? (ad1.add j) = some (.slice B1' XL cB1) ∧ w'.cell? (ad2.add j) = some (.slice B2' XL cB2)) (ds := [8]) #[false, false, false, false, false, false, false, false, false, false] (by kernel_rfl) rfl rfl ⟨HE1.out, HE2.out⟩ (fun hHeld => ?_)
    refine pure_ (i := 0) (N := some 50) (v := ?_) (a' := ?_) #[true, false, false, false, false, false, false, false, false, false] rfl rfl (by kernel_rfl) (fun _ _ _ h => h) (Or.inl ⟨by rfl, ?_⟩) ?_ ?_
    rotate_left
    · intro w'
      go_simp
      with_reducible rfl
    rotate_left
    · simp only [Act.put, List.setIfInBounds_toArray, List.set_cons_zero, List.set_cons_succ, i64_w, i32_w]
      rfl
    refine pure_ (i := 1) (N := some 51) (v := ?_) (a' := ?_) #[true, true, false, false, false, false, false, false, false, false] rfl rfl (by kernel_rfl) (fun _ _ _ h => h) (Or.inl ⟨by rfl, ?_⟩) ?_ ?_
    rotate_left
    · intro w'
      go_simp
      with_reducible rfl
    rotate_left
    · simp only [Act.put, List.setIfInBounds_toArray, List.set_cons_zero, List.set_cons_succ, i64_w, i32_w]
      rfl
    refine pure_ (i := 2) (N := some 52) (v := ?_) (a' := ?_) #[true, true, true, false, false, false, false, false, false, false] rfl rfl (by kernel_rfl) (fun _ _ _ h => h) (Or.inl ⟨by rfl, ?_⟩) ?_ ?_
    rotate_left
    · intro w'
      go_simp
      with_reducible rfl
    rotate_left
    · simp only [Act.put, List.setIfInBounds_toArray, List.set_cons_zero, List.set_cons_succ, i64_w, i32_w]
      rfl
    refine pure_ (i := 4) (N := some 54) (v := ?_) (a' := ?_) #[true, true, true, false, true, false, false, false, false, false] rfl rfl (by kernel_rfl) (fun _ _ _ h => h) (Or.inl ⟨by rfl, ?_⟩) ?_ ?_
    rotate_left
    · intro w'
      go_simp
      with_reducible rfl
    rotate_left
    · simp only [Act.put, List.setIfInBounds_toArray, List.set_cons_zero, List.set_cons_succ, i64_w, i32_w]
      rfl
    refine pure_ (i := 5) (N := some 55) (v := ?_) (a' := ?_) #[true, true, true, false, true, true, false, false, false, false] rfl rfl (by kernel_rfl) (fun _ _ _ h => h) (Or.inl ⟨by rfl, ?_⟩) ?_ ?_
    rotate_left
    · intro w'
      go_simp
      with_reducible rfl
    rotate_left
    · simp only [Act.put, List.setIfInBounds_toArray, List.set_cons_zero, List.set_cons_succ, i64_w, i32_w]
      rfl
    refine pure_ (i := 6) (N := some 56) (v := ?_) (a' := ?_) #[true, true, true, false, true, true, true, false, false, false] rfl rfl (by kernel_rfl) (fun _ _ _ h => h) (Or.inl ⟨by rfl, ?_⟩) ?_ ?_
    rotate_left
    · intro w'
      go_simp
      with_reducible rfl
    rotate_left
    · simp only [Act.put, List.setIfInBounds_toArray, List.set_cons_zero, List.set_cons_succ, i64_w, i32_w]
      rfl
    refine take_ (i := 3) (N := some 53) (v := ?_) (a' := ?_) #[true, true, true, true, true, true, true, false, false, false] rfl rfl (by kernel_rfl) (fun _ _ _ h => h) (Or.inl ⟨by rfl, ?_⟩) hHeld ?_ ?_
    rotate_left
    · rintro w' ⟨s0, s1⟩
      go_simp
      with_reducible rfl
    rotate_left
    · simp only [Act.put, List.setIfInBounds_toArray, List.set_cons_zero, List.set_cons_succ, i64_w, i32_w]
      rfl
    refine take_ (i := 7) (N := some 57) (v := ?_) (a' := ?_) #[true, true, true, true, true, true, true, true, false, false] rfl rfl (by kernel_rfl) (fun _ _ _ h => h) (Or.inl ⟨by rfl, ?_⟩) hHeld ?_ ?_
    rotate_left
    · rintro w' ⟨s0, s1⟩
      go_simp
      with_reducible rfl
    rotate_left
    · simp only [Act.put, List.setIfInBounds_toArray, List.set_cons_zero, List.set_cons_succ, i64_w, i32_w]
      rfl
    refine last_ (i := 8) (N := some 58) #[true, true, true, true, true, true, true, true, true, false] rfl rfl (by kernel_rfl) (by decide) (fun K hK => ?_)
    refine goes_ Try.func131 (by kernel_rfl) rfl #[.slice B1' XL cB1, .slice B2' XL cB2] (by rfl) rfl rfl (by simp only [List.map_toArray, List.map_cons, List.map_nil]; rfl) ?_
    with_reducible refine (Delta.rsame_ HC1.out HC2.out HBX.out HBX.out).mono ?_
    rintro e w6 ⟨rfl, hb6⟩
    refine ⟨_, rfl, ?_⟩
    rw [decide_eq_true rfl]
    have B6 := Aside0.mk (AD.out.below hb6)
    clear hb6
    refine hK.out _ _ ?_
    clear hK K
    refine norm_ (a' := ?_) ?_ ?_
    rotate_left
    · show Act.put _ (some 58) _ = _
      simp only [Act.put, List.setIfInBounds_toArray, List.set_cons_zero, List.set_cons_succ, i64_w, i32_w]
      rfl
    refine pure_ (i := 9) (N := some 59) (v := ?_) (a' := ?_) #[true, true, true, true, true, true, true, true, true, true] rfl rfl (by kernel_rfl) (fun _ _ _ h => h) (Or.inl ⟨by rfl, ?_⟩) ?_ ?_
    rotate_left
    · intro w'
      go_simp
      with_reducible rfl
    rotate_left
    · simp only [Act.put, List.setIfInBounds_toArray, List.set_cons_zero, List.set_cons_succ, i64_w, i32_w]
      rfl
    refine done_ (by kernel_rfl) ?_
    go_wp2_with fail
    go_roundg (gk - 1)
    case measure => have := AK.out; omega
    case rel => exact ⟨j + 1, by go_num, by have := AK.out; omega, B6.out⟩
end
end Go.Proofs.Ytjngnigelkgekaa.Redo
namespace Go.Proofs.Ytjngnigelkgekaa.Redo
set_option linter.unusedVariables false
set_option linter.unusedSimpArgs false
open Go.RowKit Go.Proofs.YtjngnigelkgekaaW.PrintWords Go.Proofs.YtjngnigelkgekaaW.PrintLast Go.Proofs.YtjngnigelkgekaaW.PrintMore Go.Proofs.Ytjngnigelkgekaa.Kit Go.Proofs.Ytjngnigelkgekaa.Plain Go.Proofs.Ytjngnigelkgekaa.Disk Go.Proofs.Ytjngnigelkgekaa.Root
theorem cutAt {g N c j : Nat} {J : Int} (hJ : J = (j : Int)) (hj : j ≤ N) (hc : N ≤ c) : ∃ o n' c', (∀ W : World, (Instr.slice 30 (.slice (some ⟨g, 0, none⟩) N c) (some (.int .i64 J)) none none).run Try.prog W = .ok (.slice (some ⟨g, o, none⟩) n' c') W) ∧ n' = N - j ∧ o + n' ≤ N ∧ (j < N → o = j) := by
  by_cases h : j < N
  · exact ⟨j, N - j, c - j, fun W => Ref.cutF_ hJ h hc W, rfl, by omega, fun _ => rfl⟩
  · obtain rfl : j = N := by omega
    by_cases h2 : c = j
    · refine ⟨0, 0, 0, fun W => ?_, by omega, by omega, fun h3 => absurd h3 h⟩
      have h4 := cutLo Try.underlying30 Base.infoB (some ⟨g, 0, none⟩) j c j hJ (Nat.le_refl _) hc W
      rw [if_pos h2] at h4
      rw [h4, h2, Nat.sub_self]
    · by_cases h5 : j = 0
      · subst h5
        refine ⟨0, 0, c, fun W => ?_, by omega, by omega, fun h3 => absurd h3 h⟩
        have h4 := cutLo Try.underlying30 Base.infoB (some ⟨g, 0, none⟩) 0 c 0 hJ (Nat.le_refl _) hc W
        rw [if_neg h2] at h4
        rw [h4]
        simp [Addr.add]
      · refine ⟨j, 0, c - j, fun W => ?_, by omega, by omega, fun h3 => absurd h3 h⟩
        have h4 := cutLo Try.underlying30 Base.infoB (some ⟨g, 0, none⟩) j c j hJ (Nat.le_refl _) hc W
        rw [if_neg h2] at h4
        rw [h4]
        simp [Addr.add, h5]
theorem eqNil (w : World) (a : Option Addr) (n c n' c' : Nat) : (binOp .eql 30 (.slice a n c) (.slice none n' c')).run Try.prog w = .ok (.bool a.isNone) w := Lib.run_eql_slice_nil w _ _ a n c n' c' Try.underlying30
theorem over_at {xs ys : List Int} {o p n' N : Nat} (hx : xs.length = N) (hn : n' = N - p) (hy : p + ys.length ≤ N) (ho : p < N → o = p) (hf : o + n' ≤ N) : over xs o (ys.take n') = over xs p ys := by
  rw [List.take_of_length_le (by omega)]
  by_cases h : p < N
  · rw [ho h]
  · obtain rfl : ys = [] := List.eq_nil_of_length_eq_zero (by omega)
    rw [over_nil, over_nil]
theorem ra_nums {p m NL j : Nat} (h : p + m ≤ NL) (hN : NL ≤ 4096) (hj : j ≤ 64) : wrap64 ((NL : Int) - (p : Int)) = (NL : Int) - (p : Int) ∧ wrap64 ((j : Int) * 64) = (j : Int) * 64 ∧ wrap64 ((p : Int) + (m : Int)) = (p : Int) + (m : Int) ∧ wrap64 ((j : Int) + 1) = (j : Int) + 1 ∧ wrap64 (((j : Int) + 1) * 64) = ((j : Int) + 1) * 64 ∧ wrap64 (2 + (j : Int)) = 2 + (j : Int) :=
  ⟨IntWalk.wrap64_in _ (by omega), IntWalk.wrap64_in _ (by omega), IntWalk.wrap64_in _ (by omega), IntWalk.wrap64_in _ (by omega), IntWalk.wrap64_in _ (by omega), IntWalk.wrap64_in _ (by omega)⟩
open Go.Proofs.Ytjngnigelkgekaa.Home (RT)
section
variable {w0 W : World} {F : List HP} {g n d : Nat} {las : List Int} {wt : Wt}
set_option maxHeartbeats 1600000 in
set_option maxRecDepth 100000 in
theorem rappend_no (h : Sep w0 W (RT g n las wt d :: F)) (hl : las.length = 64 * n) (hn : n ≤ 160) (hw : ∀ i b, wt i = some b → b.length = 64) (a b c at_ : Int) (hat : -9223372036854775808 ≤ at_ ∧ at_ ≤ 9223372036854775807) {A : Option Addr} {m cp : Nat} (hm : m ≤ 9223372036854775807) (hno : okA n a b c at_ m = false) :
    Calls Try.prog 107 #[.pointer (some ⟨g, 0, none⟩), .agg #[.int .i64 a, .int .i64 b, .int .u32 c], .int .i64 at_, .slice A m cp] W fun e w' => e = .returned (.bool false) ∧ Sep w0 w' (RT g n las wt d :: F) := by
  have A0 := Aside0.mk (h.newBlk 26 #[.int .i64 a, .int .i64 b, .int .u32 c])
  have HL := Aside0.mk (And.intro hl hw)
  have z0 := (A0.out.cell 0).trans rfl
  have z1 := (A0.out.cell 1).trans rfl
  have z2 := (A0.out.cell 2).trans rfl
  cases hr : rightR a b c n with
  | false =>
    have HR := Aside0.mk hr
    clear h hl hw hr hno
    have qT := eqNil
    go_enter Try.func107, Try.ntmps107
    go_wp2_with fail
    refine (rlog_no A0.out.at2 HL.out.1 HL.out.2 a b c HR.out).mono ?_
    rintro e w1 ⟨rfl, hS1⟩
    have A1 := Aside0.mk hS1.drop2
    clear hS1 z0 z1 z2
    go_wp2_with fail
    go_ret
    exact ⟨by first | rfl | (simp; done), A1.out⟩
  | true =>
    have HR := Aside0.mk hr
    have h1 := of_decide_eq_true hr
    obtain ⟨Lg, rfl⟩ := Int.eq_ofNat_of_zero_le (show 0 ≤ a by omega)
    obtain ⟨NL, hNL⟩ : ∃ N, 64 * Lg = N := ⟨_, rfl⟩
    have hLL : (logF n las wt (Lg : Int) b c).length = NL := by
      unfold logF
      rw [if_pos hr, Int.toNat_natCast, secs_len (fun i hi => by rw [secF_len hl hw, if_pos (by omega)])]
      exact hNL
    have HLL := Aside0.mk hLL
    have hno2 : at_ < 0 ∨ (0 ≤ at_ ∧ (NL : Int) < at_) ∨ (0 ≤ at_ ∧ at_ ≤ (NL : Int) ∧ (NL : Int) - at_ < (m : Int)) := by
      unfold okA at hno
      rw [hr] at hno
      simp only [Bool.true_and, Bool.and_eq_false_iff, decide_eq_false_iff_not] at hno
      have hsz : sizeF (Lg : Int) = (NL : Int) := by unfold sizeF; rw [if_neg (by omega)]; omega
      rw [hsz] at hno
      omega
    have hNp : 0 < NL := by omega
    have hNb : (NL : Int) ≤ 4096 := by omega
    have HNP := Aside0.mk hNp
    clear h hl hw hr hno h1 hLL hNL hn
    rcases hno2 with hc1 | ⟨hc1, hc2⟩ | ⟨hc1, hc2, hc3⟩
    · have hd1 : decide (at_ < 0) = true := decide_eq_true hc1
      have qT := eqNil
      go_enter Try.func107, Try.ntmps107
      go_wp2_with fail
      refine (rlog_yes A0.out.at2 HL.out.1 HL.out.2 (Lg : Int) b c HR.out).mono ?_
      rintro e w1 ⟨v1, rfl, hS1⟩
      obtain ⟨g1, c1, rfl⟩ := hS1.rowFormN HLL.out HNP.out
      have A1 := Aside0.mk hS1.tail.drop2
      clear hS1 z0 z1 z2
      go_wp2_with fail
      go_ret
      exact ⟨by first | rfl | (simp; done), A1.out⟩
    · have hd1 : ¬ at_ < 0 := by omega
      have qT := eqNil
      go_enter Try.func107, Try.ntmps107
      go_wp2_with fail
      refine (rlog_yes A0.out.at2 HL.out.1 HL.out.2 (Lg : Int) b c HR.out).mono ?_
      rintro e w1 ⟨v1, rfl, hS1⟩
      obtain ⟨g1, c1, rfl⟩ := hS1.rowFormN HLL.out HNP.out
      have A1 := Aside0.mk hS1.tail.drop2
      clear hS1 z0 z1 z2
      go_wp2_with fail
      go_ret
      exact ⟨by first | rfl | (simp; done), A1.out⟩
    · have hd1 : ¬ at_ < 0 := by omega
      have hd2 : ¬ (NL : Int) < at_ := by omega
      have hww : wrap64 ((NL : Int) - at_) = (NL : Int) - at_ := IntWalk.wrap64_in _ (by omega)
      have qT := eqNil
      go_enter Try.func107, Try.ntmps107
      go_wp2_with fail
      refine (rlog_yes A0.out.at2 HL.out.1 HL.out.2 (Lg : Int) b c HR.out).mono ?_
      rintro e w1 ⟨v1, rfl, hS1⟩
      obtain ⟨g1, c1, rfl⟩ := hS1.rowFormN HLL.out HNP.out
      have A1 := Aside0.mk hS1.tail.drop2
      clear hS1 z0 z1 z2
      go_wp2_with fail
      go_ret
      exact ⟨by first | rfl | (simp; done), A1.out⟩
set_option maxHeartbeats 1600000 in
set_option maxRecDepth 100000 in
theorem rappend_yes (h : Sep w0 W (RT g n las wt d :: F)) (hl : las.length = 64 * n) (hn : n ≤ 160) (hd : d ≤ 900) (hw : ∀ i b, wt i = some b → b.length = 64) (a b c at_ : Int) (hat : -9223372036854775808 ≤ at_ ∧ at_ ≤ 9223372036854775807) {A : Option Addr} {m cp : Nat} {xs : List Int} (hx : ∀ W', Sep w0 W' F → U8.C W' A m xs) (hcp : m ≤ cp) (hyes : okA n a b c at_ m = true) :
    Calls Try.prog 107 #[.pointer (some ⟨g, 0, none⟩), .agg #[.int .i64 a, .int .i64 b, .int .u32 c], .int .i64 at_, .slice A m cp] W fun e w' => e = .returned (.bool true) ∧ ∃ d' : Nat, d' ≤ d + 64 ∧ Sep w0 w' (RT g n las (appR n las wt a b c at_ xs) d' :: F) := by
  have A0 := Aside0.mk (h.newBlk 26 #[.int .i64 a, .int .i64 b, .int .u32 c])
  have HL := Aside0.mk (And.intro hl hw)
  have z0 := (A0.out.cell 0).trans rfl
  have z1 := (A0.out.cell 1).trans rfl
  have z2 := (A0.out.cell 2).trans rfl
  have hxl := (hx W h.tail).1
  have HXL := Aside0.mk hxl
  have HX := Aside0.mk hx
  have hoi := ok_in hyes
  have hr : rightR a b c n = true := by
    have h := hyes
    unfold okA at h
    simp only [Bool.and_eq_true] at h
    exact h.1
  have HR := Aside0.mk hr
  have HV := Aside0.mk hyes
  obtain ⟨Lg, rfl⟩ := Int.eq_ofNat_of_zero_le (show 0 ≤ a by omega)
  obtain ⟨p, rfl⟩ := Int.eq_ofNat_of_zero_le (show 0 ≤ at_ by omega)
  obtain ⟨NL, hNL⟩ : ∃ N, 64 * Lg = N := ⟨_, rfl⟩
  have hLL : (logF n las wt (Lg : Int) b c).length = NL := by
    unfold logF
    rw [if_pos hr, Int.toNat_natCast, secs_len (fun i hi => by rw [secF_len hl hw, if_pos (by omega)])]
    exact hNL
  have HLL := Aside0.mk hLL
  have hpm : p + m ≤ NL := by omega
  have hNb : NL ≤ 4096 := by omega
  have hLg : Lg ≤ 64 := by omega
  have HB := Aside0.mk (show p + m ≤ NL ∧ NL ≤ 4096 ∧ 0 < NL ∧ Lg ≤ 64 ∧ 64 * Lg = NL ∧ 2 + Lg ≤ n by omega)
  have HRR : Aside0 (appR n las wt (Lg : Int) b c (p : Int) xs = appW las wt p xs) := ⟨by unfold appR; rw [hxl, hyes, Int.toNat_natCast]; rfl⟩
  have HD := Aside0.mk hd
  have hlog := logF_of (c := c) (b := b) hl hw hr
  have hF := Ref.flushed_len hl hw
  have HLOG : Aside0 (∀ j, j < Lg → sec (over (logF n las wt (Lg : Int) b c) p xs) j = sec (over (flushed las wt) (128 + p) xs) (2 + j)) := ⟨fun j hj => by rw [hlog]; exact sec_log (by rw [hxl, hNL]; exact hpm) (by rw [hF]; omega) hj⟩
  have hm63 : m ≤ 9223372036854775807 := by omega
  have hq1 : ¬ (NL : Int) < (p : Int) := by omega
  have hq2 : ¬ (NL : Int) - (p : Int) < (m : Int) := by omega
  have hpi : ¬ (p : Int) < 0 := by omega
  obtain ⟨e1, e2, e3, -, -, -⟩ := ra_nums (j := 0) hpm hNb (by decide)
  clear h hl hw hr hyes hoi hx hLL hNL hn hlog hF hat hd hxl e2
  have qT := eqNil
  go_enter Try.func107, Try.ntmps107
  go_wp2_with fail
  refine (rlog_yes A0.out.at2 HL.out.1 HL.out.2 (Lg : Int) b c HR.out).mono ?_
  rintro e w1 ⟨v1, rfl, hS1⟩
  obtain ⟨g1, c1, rfl⟩ := hS1.rowFormN HLL.out HB.out.2.2.1
  have hcc := hS1.rowC.2.1
  have A1 := Aside0.mk hS1
  obtain ⟨o, n', c', hcut, hn', hon, ho⟩ := cutAt (g := g1) (N := NL) (c := c1) (j := p) (J := (p : Int)) rfl (by omega) hcc
  have HOV := Aside0.mk (over_at (ys := xs) HLL.out hn' (by rw [HXL.out]; exact hpm) ho hon)
  have HON := Aside0.mk hon
  have HCC := Aside0.mk hcc
  clear hS1 z0 z1 z2 hn' hon ho hcc
  go_wp2_with (first | (refine gate_builtin (b := .copy) (xs := #[.tmp 37, .tmp 38]) rfl ?_; go_loud (refine A1.out.copyRow rfl (.tmp 37) (.tmp 38) rfl Try.underlying30 size1 (o := o) (n' := n') (c' := c') (m := m) (c := cp) (A := A) (ys := xs) rfl rfl (HX.out _ A1.out.tail.tail.tail) HON.out ?_); intro W2 hS2; rw [HOV.out] at hS2; have B2 := Aside0.mk hS2.at2; clear hS2))
  have HLG : Aside0 ((over (logF n las wt (Lg : Int) b c) p xs).length = NL) := ⟨by rw [over_len (by rw [HLL.out, HXL.out]; exact HB.out.1)]; exact HLL.out⟩
  obtain ⟨lg, hlg⟩ : ∃ l, over (logF n las wt (Lg : Int) b c) p xs = l := ⟨_, rfl⟩
  rw [hlg] at B2 HLG HLOG
  have HAL : Aside0 (appI las wt p xs Lg = appW las wt p xs) := ⟨appI_all (by rw [HXL.out, HB.out.2.2.2.2.1]; exact HB.out.1)⟩
  have HWL : Aside0 (∀ j, j ≤ Lg → ∀ i b, appI las wt p xs j i = some b → b.length = 64) := ⟨fun j hj i y hy => by
    have hF2 : 128 + p + xs.length ≤ 64 * n := by have h1 := HB.out; rw [HXL.out]; omega
    unfold appI at hy
    split at hy
    · exact appW_len HL.out.1 HL.out.2 hF2 i y hy
    · exact HL.out.2 i y hy⟩
  clear hcut hlg HOV HON hq1 hq2 hpi e1 e3 hpm hNb hm63
  go_loopg [10] Lg (fun k_ v wr => ∃ (j d' : Nat), v = .int .i64 (j : Int) ∧ j + k_ = Lg ∧ d' ≤ d + j ∧ Sep w0 wr (RT g n las (appI las wt p xs j) d' :: Row U8 5 (.slice (some ⟨g1, 0, none⟩) NL c1) lg :: Blk W.heap.size 26 #[.int .i64 (Lg : Int), .int .i64 b, .int .u32 c] :: F))
  case atStart => exact ⟨0, d, rfl, by omega, by omega, by rw [appI_zero]; exact B2.out⟩
  case round =>
    obtain ⟨j, d', rfl, hjk, hd', hS⟩ := hrel
    have AK := Aside0.mk (And.intro hjk hd')
    have AS := Aside0.mk hS
    have z0 := (AS.out.at3.cell 0).trans rfl
    have z1 := (AS.out.at3.cell 1).trans rfl
    have z2 := (AS.out.at3.cell 2).trans rfl
    clear hS
    by_cases cj : j < Lg
    case neg =>
      obtain rfl : j = Lg := by omega
      have hjl : ¬ (j : Int) < (j : Int) := by omega
      clear hjk hd' cj hLg
      go_wp2_with fail
      go_ret
      exact ⟨by first | rfl | (simp; done), d', by have := AK.out; have := HB.out; omega, by rw [HRR.out, ← HAL.out]; exact AS.out.drop2.drop2⟩
    case pos =>
    have AN := Aside0.mk (show j + 1 + (gk - 1) = Lg ∧ d' ≤ d + (j + 1) ∧ d' + 1 ≤ d + (j + 1) ∧ gk - 1 < gk ∧ j ≤ Lg ∧ d' ≤ 1000 ∧ j < Lg by have := HD.out; have := HB.out; omega)
    have hjl : (j : Int) < (Lg : Int) := by omega
    have hjld : decide ((j : Int) < (Lg : Int)) = true := decide_eq_true hjl
    by_cases hm0 : m = 0
    case pos =>
      subst hm0
      have hnl : xs = [] := List.eq_nil_of_length_eq_zero HXL.out
      have HN0 : Aside0 (appI las wt p xs j = appW las wt p xs) := ⟨by rw [hnl, appI_nil, appW_nil]⟩
      clear hjk hd' cj hLg hnl
      go_wp2_with fail
      go_ret
      exact ⟨by first | rfl | (simp; done), d', by have := AK.out; have := HB.out; omega, by rw [HRR.out, ← HN0.out]; exact AS.out.drop2.drop2⟩
    case neg =>
    have hm1 : (0 : Int) < (m : Int) := by omega
    have hm1n : 0 < m := by omega
    have hm1d : decide ((0 : Int) < (m : Int)) = true := decide_eq_true hm1
    have hm1e : decide (0 < m) = true := decide_eq_true hm1n
    have HNE : Aside0 (xs ≠ []) := ⟨fun h => by have h1 := HXL.out; rw [h] at h1; simp at h1; omega⟩
    by_cases qc1 : 64 * j < p + m
    case neg =>
      have HNO : Aside0 (appI las wt p xs (j + 1) = appI las wt p xs j) := ⟨appI_no (fun h => qc1 (by rw [HXL.out] at h; exact h.2.1))⟩
      have hd1 : ¬ (j : Int) * 64 < (p : Int) + (m : Int) := by omega
      have hd1d : decide ((j : Int) * 64 < (p : Int) + (m : Int)) = false := decide_eq_false hd1
      obtain ⟨e1, e2, e3, e4, e5, e6⟩ := ra_nums (j := j) HB.out.1 HB.out.2.1 (by omega)
      clear hjk hd' cj hLg qc1 e1 e5 e6 hm0
      go_wp2_with fail
      go_roundg (gk - 1)
      case measure => exact AN.out.2.2.2.1
      case rel => exact ⟨j + 1, d', by go_num, AN.out.1, AN.out.2.1, by rw [HNO.out]; exact AS.out⟩
    case pos =>
    have hd1 : (j : Int) * 64 < (p : Int) + (m : Int) := by omega
    have hd1d : decide ((j : Int) * 64 < (p : Int) + (m : Int)) = true := decide_eq_true hd1
    by_cases qc2 : p < 64 * (j + 1)
    case neg =>
      have HNO : Aside0 (appI las wt p xs (j + 1) = appI las wt p xs j) := ⟨appI_no (fun h => qc2 h.2.2)⟩
      have hd2 : ¬ (p : Int) < ((j : Int) + 1) * 64 := by omega
      have hd2d : decide ((p : Int) < ((j : Int) + 1) * 64) = false := decide_eq_false hd2
      obtain ⟨e1, e2, e3, e4, e5, e6⟩ := ra_nums (j := j) HB.out.1 HB.out.2.1 (by omega)
      clear hjk hd' cj hLg qc1 qc2 e1 e6 hm0
      go_wp2_with fail
      go_roundg (gk - 1)
      case measure => exact AN.out.2.2.2.1
      case rel => exact ⟨j + 1, d', by go_num, AN.out.1, AN.out.2.1, by rw [HNO.out]; exact AS.out⟩
    case pos =>
    have hd2 : (p : Int) < ((j : Int) + 1) * 64 := by omega
    have hd2d : decide ((p : Int) < ((j : Int) + 1) * 64) = true := decide_eq_true hd2
    have HYE := Aside0.mk (appI_yes (las := las) (wt := wt) (at_ := p) (i := j) (b := xs) ⟨HNE.out, by rw [HXL.out]; exact qc1, qc2⟩)
    obtain ⟨A2, hcut2, hT2⟩ := Base.mid8 (A := some ⟨g1, 0, none⟩) (c := c1) (n := NL) (a := 64 * j) (b := 64 * j + 64) (l := lg) (J := (j : Int) * 64) (K := ((j : Int) + 1) * 64) (by omega) (by omega) HLG.out (by omega) (by have := HB.out.2.2.2.2.1; omega) HCC.out
    rw [show 64 * j + 64 - 64 * j = 64 by omega] at hcut2 hT2
    obtain ⟨y, hy⟩ : ∃ y, (lg.take (64 * j + 64)).drop (64 * j) = y := ⟨_, rfl⟩
    rw [hy] at hT2
    have HFI : Aside0 ((fun k => if k = 2 + j then some y else appI las wt p xs j k) = appI las wt p xs (j + 1)) := ⟨by rw [HYE.out, ← hy, mid_sec, HLOG.out j AN.out.2.2.2.2.2.2]⟩
    have HC2 : Aside0 (∀ W' : World, Sep w0 W' (Row U8 5 (.slice (some ⟨g1, 0, none⟩) NL c1) lg :: Blk W.heap.size 26 #[.int .i64 (Lg : Int), .int .i64 b, .int .u32 c] :: F) → U8.C W' A2 64 y) := ⟨fun W' hW => hT2 _ (by have h := hW.rowC.2.2; rwa [HLG.out] at h)⟩
    have HIN : Aside0 (2 + j < n) := ⟨by have := HB.out.2.2.2.2.2; omega⟩
    obtain ⟨i, hi⟩ : ∃ i, 2 + j = i := ⟨_, rfl⟩
    have hiI : 2 + (j : Int) = (i : Int) := by omega
    obtain ⟨e1, e2, e3, e4, e5, e6⟩ := ra_nums (j := j) HB.out.1 HB.out.2.1 (by omega)
    have e6' := e6.trans hiI
    clear e6
    rw [hi] at HIN HFI
    have HI := Aside0.mk hi
    clear hjk hd' cj hLg qc1 qc2 e1 hm0 hT2 hi hiI hy
    go_wp2_with fail
    refine (Ref.rwrite_ AS.out HL.out.1 (HWL.out j AN.out.2.2.2.2.1) AN.out.2.2.2.2.2.1 i HIN.out HC2.out).mono ?_
    rintro e w5 ⟨rfl, hS5⟩
    rw [HFI.out] at hS5
    have B5 := Aside0.mk hS5
    clear hS5 z0 z1 z2
    go_wp2_with fail
    go_roundg (gk - 1)
    case measure => exact AN.out.2.2.2.1
    case rel => exact ⟨j + 1, d' + 1, by go_num, AN.out.1, AN.out.2.2.1, B5.out⟩
theorem rappend_ (h : Sep w0 W (RT g n las wt d :: F)) (hl : las.length = 64 * n) (hn : n ≤ 160) (hd : d ≤ 900) (hw : ∀ i b, wt i = some b → b.length = 64) (a b c at_ : Int) (hat : -9223372036854775808 ≤ at_ ∧ at_ ≤ 9223372036854775807) {A : Option Addr} {m cp : Nat} {xs : List Int} (hx : ∀ W', Sep w0 W' F → U8.C W' A m xs) (hcp : m ≤ cp) :
    Calls Try.prog 107 #[.pointer (some ⟨g, 0, none⟩), .agg #[.int .i64 a, .int .i64 b, .int .u32 c], .int .i64 at_, .slice A m cp] W fun e w' => e = .returned (.bool (okA n a b c at_ m)) ∧ ∃ d' : Nat, d' ≤ d + 64 ∧ Sep w0 w' (RT g n las (appR n las wt a b c at_ xs) d' :: F) := by
  have hxl := (hx W h.tail).1
  cases ho : okA n a b c at_ m with
  | false =>
    refine (rappend_no h hl hn hw a b c at_ hat (hx W h.tail).2.1 ho).mono ?_
    rintro e w' ⟨rfl, hS⟩
    refine ⟨rfl, d, by omega, ?_⟩
    rw [show appR n las wt a b c at_ xs = wt by unfold appR; rw [hxl, ho]; rfl]
    exact hS
  | true => exact rappend_yes h hl hn hd hw a b c at_ hat hx hcp ho
end
end Go.Proofs.Ytjngnigelkgekaa.Redo
