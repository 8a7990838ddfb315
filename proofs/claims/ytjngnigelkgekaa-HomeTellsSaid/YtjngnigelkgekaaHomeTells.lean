/- HomeTells: the walk. -/
import Derived.Test.YtjngnigelkgekaaHome4
import Derived.Test.YtjngnigelkgekaaRootTells
namespace Go.Proofs.Ytjngnigelkgekaa.Home
set_option linter.unusedVariables false
set_option linter.unusedSimpArgs false
open Go.RowKit Go.Proofs.YtjngnigelkgekaaW.PrintWords Go.Proofs.YtjngnigelkgekaaW.PrintLast Go.Proofs.YtjngnigelkgekaaW.PrintMore Go.Proofs.Ytjngnigelkgekaa.Kit Go.Proofs.Ytjngnigelkgekaa.Plain Go.Proofs.Ytjngnigelkgekaa.Disk Go.Proofs.Ytjngnigelkgekaa.Root
set_option maxHeartbeats 3200000 in
set_option maxRecDepth 100000 in
theorem homeTells_ {A0 A3 : Option Addr} {n0 c0 n3 c3 : Nat} {l xs : List Int} {ra rb rc i : Int} {w : World} (h0 : U8.C w A0 n0 l) (hrc : 0 ≤ rc ∧ rc ≤ 4294967295) (h3 : U8.C w A3 n3 xs) (hc3 : n3 ≤ c3) :
    Calls Try.prog 14 #[.slice A0 n0 c0, .agg #[.int .i64 ra, .int .i64 rb, .int .u32 rc], .int .i64 i, .slice A3 n3 c3] w fun e w' => e = .returned (.bool true) ∧ Below w.heap.size w w' := by
  have hmk1 : ∀ W : World, (Instr.makeSlice 30 (.int .i64 960) (.int .i64 960)).run Try.prog W = .ok (.slice (some ⟨W.heap.size, 0, none⟩) 960 960) (W.alloc (.cells (madeCells #[.int .u8 0] 960) 5)) := make_ (m := 960) (by omega)
  have hmk2 : ∀ W : World, (Instr.makeSlice 30 (.int .i64 64) (.int .i64 64)).run Try.prog W = .ok (.slice (some ⟨W.heap.size, 0, none⟩) 64 64) (W.alloc (.cells (madeCells #[.int .u8 0] 64) 5)) := make_ (m := 64) (by omega)
  have H0 := Aside0.mk h0
  have H3 := Aside0.mk (And.intro h3 hc3)
  have m1 : Go.bits .and .u32 rc 7 = rc % 8 := and32 3 (by decide) (by decide) hrc.1 hrc.2
  obtain ⟨E, hE⟩ : ∃ E, 1 + rc % 8 = E := ⟨_, rfl⟩
  have w1 : IntKind.u32.wrap (1 + rc % 8) = E := by rw [IntKind.wrap_u32]; omega
  have A1 := Aside0.mk (madeB 960 ((Sep.start w).newBlk 26 #[.int .i64 ra, .int .i64 rb, .int .u32 rc]) (by omega))
  rw [show ∀ o : Obj, (w.alloc o).heap.size = w.heap.size + 1 from fun o => by simp] at A1
  clear h0 h3 hc3 hrc hE
  go_enter Try.func14, Try.ntmps14
  go_wp2_with (first | (refine gate_builtin (b := .copy) (xs := #[.tmp 13, .tmp 14]) rfl ?_; refine A1.out.copyRow rfl (.tmp 13) (.tmp 14) rfl Try.underlying30 size1 (o := 0) (n' := 960) (c' := 960) (m := n0) (c := c0) (A := A0) (ys := l) rfl rfl (Kd.C_below H0.out A1.out.toBelow) (by omega) ?_; intro W2 hS2; have A2 := Aside0.mk hS2.drew; clear hS2))
  generalize over (List.replicate 960 0) 0 (l.take 960) = x at A2
  obtain ⟨ka, hka⟩ : ∃ ka, Book.withinF ra 1 6 = ka := ⟨_, rfl⟩
  obtain ⟨kb, hkb⟩ : ∃ kb, Book.withinF rb 1 6 = kb := ⟨_, rfl⟩
  have HK := Aside0.mk (And.intro hka hkb)
  clear hka hkb
  refine start_ (n := 13) (S := fun w' => w'.cell? ⟨w.heap.size, 0, none⟩ = some (.int .i64 ra) ∧ w'.cell? ⟨w.heap.size, 1, none⟩ = some (.int .i64 rb) ∧ w'.cell? ⟨w.heap.size, 2, none⟩ = some (.int .u32 rc)) (ds := [12]) #[false, false, false, false, false, false, false, false, false, false, false, false, false] (by kernel_rfl) rfl rfl ⟨(A2.out.at2.cell 0).trans rfl, (A2.out.at2.cell 1).trans rfl, (A2.out.at2.cell 2).trans rfl⟩ (fun hHeld => ?_)
  refine pure_ (i := 0) (N := some 16) (v := ?_) (a' := ?_) #[true, false, false, false, false, false, false, false, false, false, false, false, false] rfl rfl (by kernel_rfl) (fun _ _ _ h => h) (Or.inl ⟨by rfl, ?_⟩) ?_ ?_
  rotate_left
  · intro w'
    go_simp
    with_reducible rfl
  rotate_left
  · simp only [Act.put, List.setIfInBounds_toArray, List.set_cons_zero, List.set_cons_succ, i64_w, i32_w]
    rfl
  refine pure_ (i := 3) (N := some 19) (v := ?_) (a' := ?_) #[true, false, false, true, false, false, false, false, false, false, false, false, false] rfl rfl (by kernel_rfl) (fun _ _ _ h => h) (Or.inl ⟨by rfl, ?_⟩) ?_ ?_
  rotate_left
  · intro w'
    go_simp
    with_reducible rfl
  rotate_left
  · simp only [Act.put, List.setIfInBounds_toArray, List.set_cons_zero, List.set_cons_succ, i64_w, i32_w]
    rfl
  refine pure_ (i := 6) (N := some 22) (v := ?_) (a' := ?_) #[true, false, false, true, false, false, true, false, false, false, false, false, false] rfl rfl (by kernel_rfl) (fun _ _ _ h => h) (Or.inl ⟨by rfl, ?_⟩) ?_ ?_
  rotate_left
  · intro w'
    go_simp
    with_reducible rfl
  rotate_left
  · simp only [Act.put, List.setIfInBounds_toArray, List.set_cons_zero, List.set_cons_succ, i64_w, i32_w]
    rfl
  refine take_ (i := 1) (N := some 17) (v := ?_) (a' := ?_) #[true, true, false, true, false, false, true, false, false, false, false, false, false] rfl rfl (by kernel_rfl) (fun _ _ _ h => h) (Or.inl ⟨by rfl, ?_⟩) hHeld ?_ ?_
  rotate_left
  · rintro w' ⟨s0, s1, s2⟩
    go_simp
    with_reducible rfl
  rotate_left
  · simp only [Act.put, List.setIfInBounds_toArray, List.set_cons_zero, List.set_cons_succ, i64_w, i32_w]
    rfl
  refine take_ (i := 4) (N := some 20) (v := ?_) (a' := ?_) #[true, true, false, true, true, false, true, false, false, false, false, false, false] rfl rfl (by kernel_rfl) (fun _ _ _ h => h) (Or.inl ⟨by rfl, ?_⟩) hHeld ?_ ?_
  rotate_left
  · rintro w' ⟨s0, s1, s2⟩
    go_simp
    with_reducible rfl
  rotate_left
  · simp only [Act.put, List.setIfInBounds_toArray, List.set_cons_zero, List.set_cons_succ, i64_w, i32_w]
    rfl
  refine take_ (i := 7) (N := some 23) (v := ?_) (a' := ?_) #[true, true, false, true, true, false, true, true, false, false, false, false, false] rfl rfl (by kernel_rfl) (fun _ _ _ h => h) (Or.inl ⟨by rfl, ?_⟩) hHeld ?_ ?_
  rotate_left
  · rintro w' ⟨s0, s1, s2⟩
    go_simp
    with_reducible rfl
  rotate_left
  · simp only [Act.put, List.setIfInBounds_toArray, List.set_cons_zero, List.set_cons_succ, i64_w, i32_w]
    rfl
  refine pure_ (i := 8) (N := some 24) (v := ?_) (a' := ?_) #[true, true, false, true, true, false, true, true, true, false, false, false, false] rfl rfl (by kernel_rfl) (fun _ _ _ h => h) (Or.inl ⟨by rfl, ?_⟩) ?_ ?_
  rotate_left
  · intro w'
    go_simp
    with_reducible rfl
  rotate_left
  · simp only [Act.put, List.setIfInBounds_toArray, List.set_cons_zero, List.set_cons_succ, i64_w, i32_w]
    rfl
  refine pure_ (i := 9) (N := some 25) (v := ?_) (a' := ?_) #[true, true, false, true, true, false, true, true, true, true, false, false, false] rfl rfl (by kernel_rfl) (fun _ _ _ h => h) (Or.inl ⟨by rfl, ?_⟩) ?_ ?_
  rotate_left
  · intro w'
    go_simp
    with_reducible rfl
  rotate_left
  · simp only [Act.put, List.setIfInBounds_toArray, List.set_cons_zero, List.set_cons_succ, i64_w, i32_w]
    rfl
  refine join_ (σ := Int × Int × Nat) 1 #[true, true, true, true, true, true, true, true, true, true, true, true, false] (fun s_ => [(18, .int .i64 s_.1), (21, .int .i64 s_.2.1), (10, .pointer (some ⟨s_.2.2, 0, none⟩)), (26, .agg #[.int .i64 s_.1, .int .i64 s_.2.1, .int .u32 E])]) (fun s_ w' => (w'.cell? ⟨w.heap.size, 0, none⟩ = some (.int .i64 ra) ∧ w'.cell? ⟨w.heap.size, 1, none⟩ = some (.int .i64 rb) ∧ w'.cell? ⟨w.heap.size, 2, none⟩ = some (.int .u32 rc)) ∧ Sep w w' ((Pu ((s_.1) = ka)) :: (Pu ((s_.2.1) = kb)) :: (Blk (s_.2.2) 26 #[.int .i64 0, .int .i64 0, .int .u32 0]) :: [Row (Kd.scalar (Value.int .u8) (fun _ => rfl)) 5 (.slice (some ⟨w.heap.size + 1, 0, none⟩) 960 960) x, Blk w.heap.size 26 #[.int .i64 ra, .int .i64 rb, .int .u32 rc]])) ?_ ?_
  rotate_left
  · intro hJ2_5_11
    refine join_ (σ := Int × Int) 2 #[true, true, true, true, true, true, true, true, true, true, true, false, false] (fun s_ => [(18, .int .i64 s_.1), (21, .int .i64 s_.2), (26, .agg #[.int .i64 s_.1, .int .i64 s_.2, .int .u32 E])]) (fun s_ w' => (w'.cell? ⟨w.heap.size, 0, none⟩ = some (.int .i64 ra) ∧ w'.cell? ⟨w.heap.size, 1, none⟩ = some (.int .i64 rb) ∧ w'.cell? ⟨w.heap.size, 2, none⟩ = some (.int .u32 rc)) ∧ Sep w w' ((Pu ((s_.1) = ka)) :: (Pu ((s_.2) = kb)) :: [Row (Kd.scalar (Value.int .u8) (fun _ => rfl)) 5 (.slice (some ⟨w.heap.size + 1, 0, none⟩) 960 960) x, Blk w.heap.size 26 #[.int .i64 ra, .int .i64 rb, .int .u32 rc]])) ?_ ?_
    rotate_left
    · intro hJ2_5
      refine join_ (σ := Int × Nat) 3 #[true, true, true, true, true, false, true, true, true, true, false, true, false] (fun s_ => [(18, .int .i64 s_.1), (10, .pointer (some ⟨s_.2, 0, none⟩))]) (fun s_ w' => (w'.cell? ⟨w.heap.size, 0, none⟩ = some (.int .i64 ra) ∧ w'.cell? ⟨w.heap.size, 1, none⟩ = some (.int .i64 rb) ∧ w'.cell? ⟨w.heap.size, 2, none⟩ = some (.int .u32 rc)) ∧ Sep w w' ((Pu ((s_.1) = ka)) :: (Blk (s_.2) 26 #[.int .i64 0, .int .i64 0, .int .u32 0]) :: [Row (Kd.scalar (Value.int .u8) (fun _ => rfl)) 5 (.slice (some ⟨w.heap.size + 1, 0, none⟩) 960 960) x, Blk w.heap.size 26 #[.int .i64 ra, .int .i64 rb, .int .u32 rc]])) ?_ ?_
      rotate_left
      · intro hJ2_11
        refine join_ (σ := Int) 4 #[true, true, true, true, true, false, true, true, true, true, false, false, false] (fun s_ => [(18, .int .i64 s_)]) (fun s_ w' => (w'.cell? ⟨w.heap.size, 0, none⟩ = some (.int .i64 ra) ∧ w'.cell? ⟨w.heap.size, 1, none⟩ = some (.int .i64 rb) ∧ w'.cell? ⟨w.heap.size, 2, none⟩ = some (.int .u32 rc)) ∧ Sep w w' ((Pu ((s_) = ka)) :: [Row (Kd.scalar (Value.int .u8) (fun _ => rfl)) 5 (.slice (some ⟨w.heap.size + 1, 0, none⟩) 960 960) x, Blk w.heap.size 26 #[.int .i64 ra, .int .i64 rb, .int .u32 rc]])) ?_ ?_
        rotate_left
        · intro hJ2
          refine join_ (σ := Nat) 4 #[true, true, false, true, true, false, true, true, true, true, false, true, false] (fun s_ => [(10, .pointer (some ⟨s_, 0, none⟩))]) (fun s_ w' => (w'.cell? ⟨w.heap.size, 0, none⟩ = some (.int .i64 ra) ∧ w'.cell? ⟨w.heap.size, 1, none⟩ = some (.int .i64 rb) ∧ w'.cell? ⟨w.heap.size, 2, none⟩ = some (.int .u32 rc)) ∧ Sep w w' ((Blk (s_) 26 #[.int .i64 0, .int .i64 0, .int .u32 0]) :: [Row (Kd.scalar (Value.int .u8) (fun _ => rfl)) 5 (.slice (some ⟨w.heap.size + 1, 0, none⟩) 960 960) x, Blk w.heap.size 26 #[.int .i64 ra, .int .i64 rb, .int .u32 rc]])) ?_ ?_
          rotate_left
          · intro hJ11
            refine two_ (i := 2) (j := 11) (Ni := some 18) (Nj := some 10) #[true, true, true, true, true, false, true, true, true, true, false, false, false] #[true, true, false, true, true, false, true, true, true, true, false, true, false] rfl rfl rfl rfl (by kernel_rfl) (by decide) (by decide) (fun K hK => ?_) (fun K hK => ?_)
            · skip
              refine goes_ Try.func19 (by kernel_rfl) rfl #[.int .i64 ra, .int .i64 1, .int .i64 6] (by rfl) rfl rfl (by simp only [List.map_toArray, List.map_cons, List.map_nil]; rfl) ?_
              with_reducible refine (withinK ra 1 6 ka _ HK.out.1 (by decide) (by decide) (by decide)).mono ?_
              rintro e wn_ ⟨vn_, rfl, hS_⟩
              refine ⟨_, rfl, ?_⟩
              have hN := (A2.out).lift1 hS_
              clear hS_
              refine hK.out _ _ ⟨(hN.tail.at2.cell 0).trans rfl, (hN.tail.at2.cell 1).trans rfl, (hN.tail.at2.cell 2).trans rfl⟩ (fun hHeld => ?_)
              clear hK K
              refine norm_ (a' := ?_) ?_ ?_
              rotate_left
              · show Act.put _ (some 18) _ = _
                simp only [Act.put, List.setIfInBounds_toArray, List.set_cons_zero, List.set_cons_succ, i64_w, i32_w]
                rfl
              exact norm_ (by first | (simp only [putAll, Act.put, List.setIfInBounds_toArray, List.set_cons_zero, List.set_cons_succ]; done) | (simp only [putAll, Act.put, List.setIfInBounds_toArray, List.set_cons_zero, List.set_cons_succ]; rfl)) (hJ2 vn_ _ ⟨hHeld, hN⟩)
            · skip
              refine value_ (w1 := ?_) (v := ?_) (by rfl) rfl ?_ ?_
              rotate_left 2
              · go_simp
                constructor
                · rfl
                · rfl
              have hN := (A2.out).newBlk 26 #[.int .i64 0, .int .i64 0, .int .u32 0]
              refine hK.out _ _ ⟨(hN.tail.at2.cell 0).trans rfl, (hN.tail.at2.cell 1).trans rfl, (hN.tail.at2.cell 2).trans rfl⟩ (fun hHeld => ?_)
              clear hK K
              refine norm_ (a' := ?_) ?_ ?_
              rotate_left
              · show Act.put _ (some 10) _ = _
                simp only [Act.put, List.setIfInBounds_toArray, List.set_cons_zero, List.set_cons_succ, i64_w, i32_w]
                rfl
              exact norm_ (by first | (simp only [putAll, Act.put, List.setIfInBounds_toArray, List.set_cons_zero, List.set_cons_succ]; done) | (simp only [putAll, Act.put, List.setIfInBounds_toArray, List.set_cons_zero, List.set_cons_succ]; rfl)) (hJ11 (W2.drew).heap.size _ ⟨hHeld, hN⟩)
          · skip
            rintro v11_ W_ ⟨hS_, hQ_⟩
            have hSep : Aside0 (Sep w W_ ((Blk (v11_) 26 #[.int .i64 0, .int .i64 0, .int .u32 0]) :: [Row (Kd.scalar (Value.int .u8) (fun _ => rfl)) 5 (.slice (some ⟨w.heap.size + 1, 0, none⟩) 960 960) x, Blk w.heap.size 26 #[.int .i64 ra, .int .i64 rb, .int .u32 rc]])) := ⟨hQ_⟩
            clear hQ_
            have hHeld : W_.cell? ⟨w.heap.size, 0, none⟩ = some (.int .i64 ra) ∧ W_.cell? ⟨w.heap.size, 1, none⟩ = some (.int .i64 rb) ∧ W_.cell? ⟨w.heap.size, 2, none⟩ = some (.int .u32 rc) := hS_
            refine norm_ (a' := ?_) ?_ ?_
            rotate_left
            · simp only [putAll, Act.put, List.setIfInBounds_toArray, List.set_cons_zero, List.set_cons_succ]
              rfl
            refine one_ (i := 2) (N := some 18) #[true, true, true, true, true, false, true, true, true, true, false, true, false] rfl rfl (by kernel_rfl) (by decide) (fun K hK => ?_)
            refine goes_ Try.func19 (by kernel_rfl) rfl #[.int .i64 ra, .int .i64 1, .int .i64 6] (by rfl) rfl rfl (by simp only [List.map_toArray, List.map_cons, List.map_nil]; rfl) ?_
            with_reducible refine (withinK ra 1 6 ka _ HK.out.1 (by decide) (by decide) (by decide)).mono ?_
            rintro e wn_ ⟨vn_, rfl, hS_⟩
            refine ⟨_, rfl, ?_⟩
            have hN := (hSep.out).lift1 hS_
            clear hS_
            refine hK.out _ _ ⟨(hN.tail.tail.at2.cell 0).trans rfl, (hN.tail.tail.at2.cell 1).trans rfl, (hN.tail.tail.at2.cell 2).trans rfl⟩ (fun hHeld => ?_)
            clear hK K
            refine norm_ (a' := ?_) ?_ ?_
            rotate_left
            · show Act.put _ (some 18) _ = _
              simp only [Act.put, List.setIfInBounds_toArray, List.set_cons_zero, List.set_cons_succ, i64_w, i32_w]
              rfl
            exact norm_ (by first | (simp only [putAll, Act.put, List.setIfInBounds_toArray, List.set_cons_zero, List.set_cons_succ]; done) | (simp only [putAll, Act.put, List.setIfInBounds_toArray, List.set_cons_zero, List.set_cons_succ]; rfl)) (hJ2_11 (vn_, v11_) _ ⟨hHeld, hN⟩)
        · skip
          rintro v2_ W_ ⟨hS_, hQ_⟩
          have hSep : Aside0 (Sep w W_ ((Pu ((v2_) = ka)) :: [Row (Kd.scalar (Value.int .u8) (fun _ => rfl)) 5 (.slice (some ⟨w.heap.size + 1, 0, none⟩) 960 960) x, Blk w.heap.size 26 #[.int .i64 ra, .int .i64 rb, .int .u32 rc]])) := ⟨hQ_⟩
          clear hQ_
          have hHeld : W_.cell? ⟨w.heap.size, 0, none⟩ = some (.int .i64 ra) ∧ W_.cell? ⟨w.heap.size, 1, none⟩ = some (.int .i64 rb) ∧ W_.cell? ⟨w.heap.size, 2, none⟩ = some (.int .u32 rc) := hS_
          refine norm_ (a' := ?_) ?_ ?_
          rotate_left
          · simp only [putAll, Act.put, List.setIfInBounds_toArray, List.set_cons_zero, List.set_cons_succ]
            rfl
          refine two_ (i := 5) (j := 11) (Ni := some 21) (Nj := some 10) #[true, true, true, true, true, true, true, true, true, true, false, false, false] #[true, true, true, true, true, false, true, true, true, true, false, true, false] rfl rfl rfl rfl (by kernel_rfl) (by decide) (by decide) (fun K hK => ?_) (fun K hK => ?_)
          · skip
            refine goes_ Try.func19 (by kernel_rfl) rfl #[.int .i64 rb, .int .i64 1, .int .i64 6] (by rfl) rfl rfl (by simp only [List.map_toArray, List.map_cons, List.map_nil]; rfl) ?_
            with_reducible refine (withinK rb 1 6 kb _ HK.out.2 (by decide) (by decide) (by decide)).mono ?_
            rintro e wn_ ⟨vn_, rfl, hS_⟩
            refine ⟨_, rfl, ?_⟩
            have hN := (hSep.out).lift1 hS_
            clear hS_
            refine hK.out _ _ ⟨(hN.tail.tail.at2.cell 0).trans rfl, (hN.tail.tail.at2.cell 1).trans rfl, (hN.tail.tail.at2.cell 2).trans rfl⟩ (fun hHeld => ?_)
            clear hK K
            refine norm_ (a' := ?_) ?_ ?_
            rotate_left
            · show Act.put _ (some 21) _ = _
              simp only [Act.put, List.setIfInBounds_toArray, List.set_cons_zero, List.set_cons_succ, i64_w, i32_w]
              rfl
            refine pure_ (i := 10) (N := some 26) (v := ?_) (a' := ?_) #[true, true, true, true, true, true, true, true, true, true, true, false, false] rfl rfl (by kernel_rfl) (fun _ _ _ h => h) (Or.inl ⟨by rfl, ?_⟩) ?_ ?_
            rotate_left
            · intro w'
              go_simp
              with_reducible rfl
            rotate_left
            · simp only [Act.put, List.setIfInBounds_toArray, List.set_cons_zero, List.set_cons_succ, i64_w, i32_w]
              rfl
            exact norm_ (by first | (simp only [putAll, Act.put, List.setIfInBounds_toArray, List.set_cons_zero, List.set_cons_succ]; done) | (simp only [putAll, Act.put, List.setIfInBounds_toArray, List.set_cons_zero, List.set_cons_succ]; rfl)) (hJ2_5 (v2_, vn_) _ ⟨hHeld, hN.at2⟩)
          · skip
            refine value_ (w1 := ?_) (v := ?_) (by rfl) rfl ?_ ?_
            rotate_left 2
            · go_simp
              constructor
              · rfl
              · rfl
            have hN := (hSep.out).newBlk 26 #[.int .i64 0, .int .i64 0, .int .u32 0]
            refine hK.out _ _ ⟨(hN.tail.tail.at2.cell 0).trans rfl, (hN.tail.tail.at2.cell 1).trans rfl, (hN.tail.tail.at2.cell 2).trans rfl⟩ (fun hHeld => ?_)
            clear hK K
            refine norm_ (a' := ?_) ?_ ?_
            rotate_left
            · show Act.put _ (some 10) _ = _
              simp only [Act.put, List.setIfInBounds_toArray, List.set_cons_zero, List.set_cons_succ, i64_w, i32_w]
              rfl
            exact norm_ (by first | (simp only [putAll, Act.put, List.setIfInBounds_toArray, List.set_cons_zero, List.set_cons_succ]; done) | (simp only [putAll, Act.put, List.setIfInBounds_toArray, List.set_cons_zero, List.set_cons_succ]; rfl)) (hJ2_11 (v2_, (W_).heap.size) _ ⟨hHeld, hN.at2⟩)
      · skip
        rintro ⟨v2_, v11_⟩ W_ ⟨hS_, hQ_⟩
        have hSep : Aside0 (Sep w W_ ((Pu ((v2_) = ka)) :: (Blk (v11_) 26 #[.int .i64 0, .int .i64 0, .int .u32 0]) :: [Row (Kd.scalar (Value.int .u8) (fun _ => rfl)) 5 (.slice (some ⟨w.heap.size + 1, 0, none⟩) 960 960) x, Blk w.heap.size 26 #[.int .i64 ra, .int .i64 rb, .int .u32 rc]])) := ⟨hQ_⟩
        clear hQ_
        have hHeld : W_.cell? ⟨w.heap.size, 0, none⟩ = some (.int .i64 ra) ∧ W_.cell? ⟨w.heap.size, 1, none⟩ = some (.int .i64 rb) ∧ W_.cell? ⟨w.heap.size, 2, none⟩ = some (.int .u32 rc) := hS_
        refine norm_ (a' := ?_) ?_ ?_
        rotate_left
        · simp only [putAll, Act.put, List.setIfInBounds_toArray, List.set_cons_zero, List.set_cons_succ]
          rfl
        refine one_ (i := 5) (N := some 21) #[true, true, true, true, true, true, true, true, true, true, false, true, false] rfl rfl (by kernel_rfl) (by decide) (fun K hK => ?_)
        refine goes_ Try.func19 (by kernel_rfl) rfl #[.int .i64 rb, .int .i64 1, .int .i64 6] (by rfl) rfl rfl (by simp only [List.map_toArray, List.map_cons, List.map_nil]; rfl) ?_
        with_reducible refine (withinK rb 1 6 kb _ HK.out.2 (by decide) (by decide) (by decide)).mono ?_
        rintro e wn_ ⟨vn_, rfl, hS_⟩
        refine ⟨_, rfl, ?_⟩
        have hN := (hSep.out).lift1 hS_
        clear hS_
        refine hK.out _ _ ⟨(hN.tail.tail.tail.at2.cell 0).trans rfl, (hN.tail.tail.tail.at2.cell 1).trans rfl, (hN.tail.tail.tail.at2.cell 2).trans rfl⟩ (fun hHeld => ?_)
        clear hK K
        refine norm_ (a' := ?_) ?_ ?_
        rotate_left
        · show Act.put _ (some 21) _ = _
          simp only [Act.put, List.setIfInBounds_toArray, List.set_cons_zero, List.set_cons_succ, i64_w, i32_w]
          rfl
        refine pure_ (i := 10) (N := some 26) (v := ?_) (a' := ?_) #[true, true, true, true, true, true, true, true, true, true, true, true, false] rfl rfl (by kernel_rfl) (fun _ _ _ h => h) (Or.inl ⟨by rfl, ?_⟩) ?_ ?_
        rotate_left
        · intro w'
          go_simp
          with_reducible rfl
        rotate_left
        · simp only [Act.put, List.setIfInBounds_toArray, List.set_cons_zero, List.set_cons_succ, i64_w, i32_w]
          rfl
        exact norm_ (by first | (simp only [putAll, Act.put, List.setIfInBounds_toArray, List.set_cons_zero, List.set_cons_succ]; done) | (simp only [putAll, Act.put, List.setIfInBounds_toArray, List.set_cons_zero, List.set_cons_succ]; rfl)) (hJ2_5_11 (v2_, vn_, v11_) _ ⟨hHeld, hN.at2⟩)
    · skip
      rintro ⟨v2_, v5_⟩ W_ ⟨hS_, hQ_⟩
      have hSep : Aside0 (Sep w W_ ((Pu ((v2_) = ka)) :: (Pu ((v5_) = kb)) :: [Row (Kd.scalar (Value.int .u8) (fun _ => rfl)) 5 (.slice (some ⟨w.heap.size + 1, 0, none⟩) 960 960) x, Blk w.heap.size 26 #[.int .i64 ra, .int .i64 rb, .int .u32 rc]])) := ⟨hQ_⟩
      clear hQ_
      have hHeld : W_.cell? ⟨w.heap.size, 0, none⟩ = some (.int .i64 ra) ∧ W_.cell? ⟨w.heap.size, 1, none⟩ = some (.int .i64 rb) ∧ W_.cell? ⟨w.heap.size, 2, none⟩ = some (.int .u32 rc) := hS_
      refine norm_ (a' := ?_) ?_ ?_
      rotate_left
      · simp only [putAll, Act.put, List.setIfInBounds_toArray, List.set_cons_zero, List.set_cons_succ]
        rfl
      refine one_ (i := 11) (N := some 10) #[true, true, true, true, true, true, true, true, true, true, true, true, false] rfl rfl (by kernel_rfl) (by decide) (fun K hK => ?_)
      refine value_ (w1 := ?_) (v := ?_) (by rfl) rfl ?_ ?_
      rotate_left 2
      · go_simp
        constructor
        · rfl
        · rfl
      have hN := (hSep.out).newBlk 26 #[.int .i64 0, .int .i64 0, .int .u32 0]
      refine hK.out _ _ ⟨(hN.tail.tail.tail.at2.cell 0).trans rfl, (hN.tail.tail.tail.at2.cell 1).trans rfl, (hN.tail.tail.tail.at2.cell 2).trans rfl⟩ (fun hHeld => ?_)
      clear hK K
      refine norm_ (a' := ?_) ?_ ?_
      rotate_left
      · show Act.put _ (some 10) _ = _
        simp only [Act.put, List.setIfInBounds_toArray, List.set_cons_zero, List.set_cons_succ, i64_w, i32_w]
        rfl
      exact norm_ (by first | (simp only [putAll, Act.put, List.setIfInBounds_toArray, List.set_cons_zero, List.set_cons_succ]; done) | (simp only [putAll, Act.put, List.setIfInBounds_toArray, List.set_cons_zero, List.set_cons_succ]; rfl)) (hJ2_5_11 (v2_, v5_, (W_).heap.size) _ ⟨hHeld, hN.to3⟩)
  rintro ⟨v2_, v5_, v11_⟩ W_ ⟨hS_, hQ_⟩
  have hSep : Aside0 (Sep w W_ ((Pu ((v2_) = ka)) :: (Pu ((v5_) = kb)) :: (Blk (v11_) 26 #[.int .i64 0, .int .i64 0, .int .u32 0]) :: [Row (Kd.scalar (Value.int .u8) (fun _ => rfl)) 5 (.slice (some ⟨w.heap.size + 1, 0, none⟩) 960 960) x, Blk w.heap.size 26 #[.int .i64 ra, .int .i64 rb, .int .u32 rc]])) := ⟨hQ_⟩
  clear hQ_
  have hHeld : W_.cell? ⟨w.heap.size, 0, none⟩ = some (.int .i64 ra) ∧ W_.cell? ⟨w.heap.size, 1, none⟩ = some (.int .i64 rb) ∧ W_.cell? ⟨w.heap.size, 2, none⟩ = some (.int .u32 rc) := hS_
  obtain ⟨h2_, hT_⟩ := hSep.out.pu
  obtain ⟨h5_, hT2_⟩ := hT_.pu
  have h2s := h2_.symm
  have h5s := h5_.symm
  subst h2s h5s
  obtain ⟨p10, hp_⟩ : ∃ p, p = v11_ := ⟨_, rfl⟩
  subst hp_
  obtain ⟨d0, f0, d1, f1, d2, f2, hS10⟩ := store3 (.int .i64 ka) (.int .i64 kb) (.int .u32 E) hT2_
  have B1' := Aside0.mk hS10
  clear hS10 hT_ hT2_
  refine norm_ (a' := ?_) ?_ ?_
  rotate_left
  · simp only [putAll, Act.put, List.setIfInBounds_toArray, List.set_cons_zero, List.set_cons_succ]
    rfl
  refine last_ (i := 12) (N := none) #[true, true, true, true, true, true, true, true, true, true, true, true, true] rfl rfl (by kernel_rfl) (by decide) (fun K hK => ?_)
  refine skip_ (w1 := ?_) (by rfl) rfl ?_ ?_
  rotate_left
  · go_simp
    rfl
  refine hK.out _ _ ?_
  clear hK K
  refine done_ (by kernel_rfl) ?_
  obtain ⟨w3, hw_⟩ : ∃ w_, ((W_.setCell ⟨p10, 0, none⟩ (.int .i64 ka)).setCell ⟨p10, 1, none⟩ (.int .i64 kb)).setCell ⟨p10, 2, none⟩ (.int .u32 E) = w_ := ⟨_, rfl⟩
  have B1 : Aside0 (Sep w w3 _) := ⟨by have h_ := B1'.out; rw [hw_] at h_; exact h_⟩
  rw [hw_]
  have B2 := Aside0.mk (madeB 64 B1.out (by omega))
  clear hw_ B1' d0 d1 d2 f0 f1 f2
  go_wp2_with (first | (refine gate_builtin (b := .copy) (xs := #[.tmp 28, .tmp 29]) rfl ?_; refine B2.out.copyRow rfl (.tmp 28) (.tmp 29) rfl Try.underlying30 size1 (o := 0) (n' := 64) (c' := 64) (m := n3) (c := c3) (A := A3) (ys := xs) rfl rfl (Kd.C_below H3.out.1 B2.out.toBelow) (by omega) ?_; intro W5 hS5; have B5 := Aside0.mk hS5.drew; clear hS5))
  generalize over (List.replicate 64 0) 0 (xs.take 64) = y at B5
  replace B5 : Aside0 (Sep w W5.drew [Row U8 5 (.slice (some ⟨w3.heap.size, 0, none⟩) 64 64) y, Blk p10 26 #[.int .i64 ka, .int .i64 kb, .int .u32 E], Row U8 5 (.slice (some ⟨w.heap.size + 1, 0, none⟩) 960 960) x, Blk w.heap.size 26 #[.int .i64 ra, .int .i64 rb, .int .u32 rc]]) := ⟨B5.out⟩
  obtain ⟨ii, hii⟩ : ∃ ii, Book.withinF i (-1) 6 = ii := ⟨_, rfl⟩
  have HI := Aside0.mk hii
  clear hii
  refine start_ (n := 24) (S := fun w' => w'.cell? ⟨p10, 0, none⟩ = some (.int .i64 ka) ∧ w'.cell? ⟨p10, 1, none⟩ = some (.int .i64 kb) ∧ w'.cell? ⟨p10, 2, none⟩ = some (.int .u32 E)) (ds := [5, 8, 11, 15, 18, 21]) #[false, false, false, false, false, false, false, false, false, false, false, false, false, false, false, false, false, false, false, false, false, false, false, false] (by kernel_rfl) rfl rfl ⟨(B5.out.at2.cell 0).trans rfl, (B5.out.at2.cell 1).trans rfl, (B5.out.at2.cell 2).trans rfl⟩ (fun hHeld => ?_)
  refine pure_ (i := 0) (N := some 31) (v := ?_) (a' := ?_) #[true, false, false, false, false, false, false, false, false, false, false, false, false, false, false, false, false, false, false, false, false, false, false, false] rfl rfl (by kernel_rfl) (fun _ _ _ h => h) (Or.inl ⟨by rfl, ?_⟩) ?_ ?_
  rotate_left
  · intro w'
    go_simp
    with_reducible rfl
  rotate_left
  · simp only [Act.put, List.setIfInBounds_toArray, List.set_cons_zero, List.set_cons_succ, i64_w, i32_w]
    rfl
  refine pure_ (i := 2) (N := some 33) (v := ?_) (a' := ?_) #[true, false, true, false, false, false, false, false, false, false, false, false, false, false, false, false, false, false, false, false, false, false, false, false] rfl rfl (by kernel_rfl) (fun _ _ _ h => h) (Or.inl ⟨by rfl, ?_⟩) ?_ ?_
  rotate_left
  · intro w'
    go_simp
    with_reducible rfl
  rotate_left
  · simp only [Act.put, List.setIfInBounds_toArray, List.set_cons_zero, List.set_cons_succ, i64_w, i32_w]
    rfl
  refine pure_ (i := 4) (N := some 35) (v := ?_) (a' := ?_) #[true, false, true, false, true, false, false, false, false, false, false, false, false, false, false, false, false, false, false, false, false, false, false, false] rfl rfl (by kernel_rfl) (fun _ _ _ h => h) (Or.inl ⟨by rfl, ?_⟩) ?_ ?_
  rotate_left
  · intro w'
    go_simp
    with_reducible rfl
  rotate_left
  · simp only [Act.put, List.setIfInBounds_toArray, List.set_cons_zero, List.set_cons_succ, i64_w, i32_w]
    rfl
  refine take_ (i := 1) (N := some 32) (v := ?_) (a' := ?_) #[true, true, true, false, true, false, false, false, false, false, false, false, false, false, false, false, false, false, false, false, false, false, false, false] rfl rfl (by kernel_rfl) (fun _ _ _ h => h) (Or.inl ⟨by rfl, ?_⟩) hHeld ?_ ?_
  rotate_left
  · rintro w' ⟨s0, s1, s2⟩
    go_simp
    with_reducible rfl
  rotate_left
  · simp only [Act.put, List.setIfInBounds_toArray, List.set_cons_zero, List.set_cons_succ, i64_w, i32_w]
    rfl
  refine one_ (i := 3) (N := some 34) #[true, true, true, true, true, false, false, false, false, false, false, false, false, false, false, false, false, false, false, false, false, false, false, false] rfl rfl (by kernel_rfl) (by decide) (fun K hK => ?_)
  refine goes_ Try.func19 (by kernel_rfl) rfl #[.int .i64 i, .int .i64 (-1), .int .i64 6] (by rfl) rfl rfl (by simp only [List.map_toArray, List.map_cons, List.map_nil]; rfl) ?_
  with_reducible refine (Book.within_ i (-1) 6 _ (by decide) (by decide) (by decide)).mono ?_
  rintro e w_ ⟨rfl, rfl⟩
  refine ⟨_, rfl, ?_⟩
  rw [HI.out]
  refine hK.out _ _ ⟨(B5.out.at2.cell 0).trans rfl, (B5.out.at2.cell 1).trans rfl, (B5.out.at2.cell 2).trans rfl⟩ (fun hHeld => ?_)
  clear hK K
  refine norm_ (a' := ?_) ?_ ?_
  rotate_left
  · show Act.put _ (some 34) _ = _
    simp only [Act.put, List.setIfInBounds_toArray, List.set_cons_zero, List.set_cons_succ, i64_w, i32_w]
    rfl
  refine last_ (i := 5) (N := some 36) #[true, true, true, true, true, true, false, false, false, false, false, false, false, false, false, false, false, false, false, false, false, false, false, false] rfl rfl (by kernel_rfl) (by decide) (fun K hK => ?_)
  refine goes_ Try.func58 (by kernel_rfl) rfl #[.slice (some ⟨w.heap.size + 1, 0, none⟩) 960 960, .agg #[.int .i64 ka, .int .i64 kb, .int .u32 E], .int .i64 ii, .slice (some ⟨w3.heap.size, 0, none⟩) 64 64] (by rfl) rfl rfl (by simp only [List.map_toArray, List.map_cons, List.map_nil]; rfl) ?_
  with_reducible refine (same_ (n := 15) B5.out.at3.rowC' (Nat.le_refl _) rfl (by decide) (by decide) B5.out.rowC' (Nat.le_refl _)).mono ?_
  rintro e w6 ⟨rfl, hb6⟩
  refine ⟨_, rfl, ?_⟩
  have B6 := Aside0.mk (B5.out.below hb6)
  clear hb6
  have l0 := (B6.out.at2.cell 0).trans rfl
  have l1 := (B6.out.at2.cell 1).trans rfl
  have l2 := (B6.out.at2.cell 2).trans rfl
  refine hK.out _ _ ?_
  clear hK K
  refine norm_ (a' := ?_) ?_ ?_
  rotate_left
  · show Act.put _ (some 36) _ = _
    simp only [Act.put, List.setIfInBounds_toArray, List.set_cons_zero, List.set_cons_succ, i64_w, i32_w]
    rfl
  refine pure_ (i := 6) (N := some 37) (v := ?_) (a' := ?_) #[true, true, true, true, true, true, true, false, false, false, false, false, false, false, false, false, false, false, false, false, false, false, false, false] rfl rfl (by kernel_rfl) (fun _ _ _ h => h) (Or.inl ⟨by rfl, ?_⟩) ?_ ?_
  rotate_left
  · intro w'
    go_simp
    with_reducible rfl
  rotate_left
  · simp only [Act.put, List.setIfInBounds_toArray, List.set_cons_zero, List.set_cons_succ, i64_w, i32_w]
    rfl
  refine pure_ (i := 7) (N := some 38) (v := ?_) (a' := ?_) #[true, true, true, true, true, true, true, true, false, false, false, false, false, false, false, false, false, false, false, false, false, false, false, false] rfl rfl (by kernel_rfl) (fun _ _ _ h => h) (Or.inl ⟨by rfl, ?_⟩) ?_ ?_
  rotate_left
  · intro w'
    go_simp
    with_reducible rfl
  rotate_left
  · simp only [Act.put, List.setIfInBounds_toArray, List.set_cons_zero, List.set_cons_succ, i64_w, i32_w]
    rfl
  refine pure_ (i := 9) (N := some 40) (v := ?_) (a' := ?_) #[true, true, true, true, true, true, true, true, false, true, false, false, false, false, false, false, false, false, false, false, false, false, false, false] rfl rfl (by kernel_rfl) (fun _ _ _ h => h) (Or.inl ⟨by rfl, ?_⟩) ?_ ?_
  rotate_left
  · intro w'
    go_simp
    with_reducible rfl
  rotate_left
  · simp only [Act.put, List.setIfInBounds_toArray, List.set_cons_zero, List.set_cons_succ, i64_w, i32_w]
    rfl
  refine pure_ (i := 10) (N := some 41) (v := ?_) (a' := ?_) #[true, true, true, true, true, true, true, true, false, true, true, false, false, false, false, false, false, false, false, false, false, false, false, false] rfl rfl (by kernel_rfl) (fun _ _ _ h => h) (Or.inl ⟨by rfl, ?_⟩) ?_ ?_
  rotate_left
  · intro w'
    go_simp
    with_reducible rfl
  rotate_left
  · simp only [Act.put, List.setIfInBounds_toArray, List.set_cons_zero, List.set_cons_succ, i64_w, i32_w]
    rfl
  refine last_ (i := 8) (N := some 39) #[true, true, true, true, true, true, true, true, true, true, true, false, false, false, false, false, false, false, false, false, false, false, false, false] rfl rfl (by kernel_rfl) (by decide) (fun K hK => ?_)
  refine value_ (w1 := ?_) (v := ?_) (by rfl) rfl ?_ ?_
  rotate_left 2
  · go_simp
    constructor
    · rfl
    · rfl
  refine hK.out _ _ ?_
  clear hK K
  refine norm_ (a' := ?_) ?_ ?_
  rotate_left
  · show Act.put _ (some 39) _ = _
    simp only [Act.put, List.setIfInBounds_toArray, List.set_cons_zero, List.set_cons_succ, i64_w, i32_w]
    rfl
  refine last_ (i := 11) (N := some 42) #[true, true, true, true, true, true, true, true, true, true, true, true, false, false, false, false, false, false, false, false, false, false, false, false] rfl rfl (by kernel_rfl) (by decide) (fun K hK => ?_)
  refine goes_ Try.func58 (by kernel_rfl) rfl #[.slice (some ⟨w.heap.size + 1, 0, none⟩) 960 960, .agg #[.int .i64 ka, .int .i64 kb, .int .u32 E], .int .i64 i, .slice A3 n3 c3] (by rfl) rfl rfl (by simp only [List.map_toArray, List.map_cons, List.map_nil]; rfl) ?_
  with_reducible refine (same_ (n := 15) B6.out.at3.rowC' (Nat.le_refl _) rfl (by decide) (by decide) (Kd.C_below H3.out.1 B6.out.toBelow) H3.out.2).mono ?_
  rintro e w7 ⟨rfl, hb7⟩
  refine ⟨_, rfl, ?_⟩
  have B7 := Aside0.mk (B6.out.below hb7)
  clear hb7 l0 l1 l2
  have l0 := (B7.out.at4.cell 0).trans rfl
  have l1 := (B7.out.at4.cell 1).trans rfl
  have l2 := (B7.out.at4.cell 2).trans rfl
  refine hK.out _ _ ?_
  clear hK K
  refine norm_ (a' := ?_) ?_ ?_
  rotate_left
  · show Act.put _ (some 42) _ = _
    simp only [Act.put, List.setIfInBounds_toArray, List.set_cons_zero, List.set_cons_succ, i64_w, i32_w]
    rfl
  refine pure_ (i := 12) (N := some 43) (v := ?_) (a' := ?_) #[true, true, true, true, true, true, true, true, true, true, true, true, true, false, false, false, false, false, false, false, false, false, false, false] rfl rfl (by kernel_rfl) (fun _ _ _ h => h) (Or.inl ⟨by rfl, ?_⟩) ?_ ?_
  rotate_left
  · intro w'
    go_simp
    with_reducible rfl
  rotate_left
  · simp only [Act.put, List.setIfInBounds_toArray, List.set_cons_zero, List.set_cons_succ, i64_w, i32_w]
    rfl
  refine pure_ (i := 13) (N := some 44) (v := ?_) (a' := ?_) #[true, true, true, true, true, true, true, true, true, true, true, true, true, true, false, false, false, false, false, false, false, false, false, false] rfl rfl (by kernel_rfl) (fun _ _ _ h => h) (Or.inl ⟨by rfl, ?_⟩) ?_ ?_
  rotate_left
  · intro w'
    go_simp
    with_reducible rfl
  rotate_left
  · simp only [Act.put, List.setIfInBounds_toArray, List.set_cons_zero, List.set_cons_succ, i64_w, i32_w]
    rfl
  refine pure_ (i := 14) (N := some 45) (v := ?_) (a' := ?_) #[true, true, true, true, true, true, true, true, true, true, true, true, true, true, true, false, false, false, false, false, false, false, false, false] rfl rfl (by kernel_rfl) (fun _ _ _ h => h) (Or.inl ⟨by rfl, ?_⟩) ?_ ?_
  rotate_left
  · intro w'
    go_simp
    with_reducible rfl
  rotate_left
  · simp only [Act.put, List.setIfInBounds_toArray, List.set_cons_zero, List.set_cons_succ, i64_w, i32_w]
    rfl
  refine pure_ (i := 16) (N := some 47) (v := ?_) (a' := ?_) #[true, true, true, true, true, true, true, true, true, true, true, true, true, true, true, false, true, false, false, false, false, false, false, false] rfl rfl (by kernel_rfl) (fun _ _ _ h => h) (Or.inl ⟨by rfl, ?_⟩) ?_ ?_
  rotate_left
  · intro w'
    go_simp
    with_reducible rfl
  rotate_left
  · simp only [Act.put, List.setIfInBounds_toArray, List.set_cons_zero, List.set_cons_succ, i64_w, i32_w]
    rfl
  refine pure_ (i := 17) (N := some 48) (v := ?_) (a' := ?_) #[true, true, true, true, true, true, true, true, true, true, true, true, true, true, true, false, true, true, false, false, false, false, false, false] rfl rfl (by kernel_rfl) (fun _ _ _ h => h) (Or.inl ⟨by rfl, ?_⟩) ?_ ?_
  rotate_left
  · intro w'
    go_simp
    with_reducible rfl
  rotate_left
  · simp only [Act.put, List.setIfInBounds_toArray, List.set_cons_zero, List.set_cons_succ, i64_w, i32_w]
    rfl
  refine last_ (i := 15) (N := some 46) #[true, true, true, true, true, true, true, true, true, true, true, true, true, true, true, true, true, true, false, false, false, false, false, false] rfl rfl (by kernel_rfl) (by decide) (fun K hK => ?_)
  refine value_ (w1 := ?_) (v := ?_) (by rfl) rfl ?_ ?_
  rotate_left 2
  · go_simp
    constructor
    · rfl
    · rfl
  refine hK.out _ _ ?_
  clear hK K
  refine norm_ (a' := ?_) ?_ ?_
  rotate_left
  · show Act.put _ (some 46) _ = _
    simp only [Act.put, List.setIfInBounds_toArray, List.set_cons_zero, List.set_cons_succ, i64_w, i32_w]
    rfl
  refine last_ (i := 18) (N := some 49) #[true, true, true, true, true, true, true, true, true, true, true, true, true, true, true, true, true, true, true, false, false, false, false, false] rfl rfl (by kernel_rfl) (by decide) (fun K hK => ?_)
  refine goes_ Try.func58 (by kernel_rfl) rfl #[.slice (some ⟨w.heap.size + 1, 0, none⟩) 960 960, .agg #[.int .i64 ra, .int .i64 rb, .int .u32 rc], .int .i64 i, .slice (some ⟨w3.heap.size, 0, none⟩) 64 64] (by rfl) rfl rfl (by simp only [List.map_toArray, List.map_cons, List.map_nil]; rfl) ?_
  with_reducible refine (same_ (n := 15) B7.out.at3.rowC' (Nat.le_refl _) rfl (by decide) (by decide) B7.out.rowC' (Nat.le_refl _)).mono ?_
  rintro e w8 ⟨rfl, hb8⟩
  refine ⟨_, rfl, ?_⟩
  have B8 := Aside0.mk (B7.out.below hb8)
  clear hb8 l0 l1 l2
  refine hK.out _ _ ?_
  clear hK K
  refine norm_ (a' := ?_) ?_ ?_
  rotate_left
  · show Act.put _ (some 49) _ = _
    simp only [Act.put, List.setIfInBounds_toArray, List.set_cons_zero, List.set_cons_succ, i64_w, i32_w]
    rfl
  refine pure_ (i := 19) (N := some 50) (v := ?_) (a' := ?_) #[true, true, true, true, true, true, true, true, true, true, true, true, true, true, true, true, true, true, true, true, false, false, false, false] rfl rfl (by kernel_rfl) (fun _ _ _ h => h) (Or.inl ⟨by rfl, ?_⟩) ?_ ?_
  rotate_left
  · intro w'
    go_simp
    with_reducible rfl
  rotate_left
  · simp only [Act.put, List.setIfInBounds_toArray, List.set_cons_zero, List.set_cons_succ, i64_w, i32_w]
    rfl
  refine pure_ (i := 20) (N := some 51) (v := ?_) (a' := ?_) #[true, true, true, true, true, true, true, true, true, true, true, true, true, true, true, true, true, true, true, true, true, false, false, false] rfl rfl (by kernel_rfl) (fun _ _ _ h => h) (Or.inl ⟨by rfl, ?_⟩) ?_ ?_
  rotate_left
  · intro w'
    go_simp
    with_reducible rfl
  rotate_left
  · simp only [Act.put, List.setIfInBounds_toArray, List.set_cons_zero, List.set_cons_succ, i64_w, i32_w]
    rfl
  refine last_ (i := 21) (N := some 52) #[true, true, true, true, true, true, true, true, true, true, true, true, true, true, true, true, true, true, true, true, true, true, false, false] rfl rfl (by kernel_rfl) (by decide) (fun K hK => ?_)
  refine goes_ Try.func25 (by kernel_rfl) rfl #[] (by rfl) rfl rfl (by simp) ?_
  with_reducible refine (known_ _).mono ?_
  rintro e w9 ⟨rfl, hb9⟩
  refine ⟨_, rfl, ?_⟩
  have B9 := Aside0.mk (B8.out.below hb9)
  clear hb9
  refine hK.out _ _ ?_
  clear hK K
  refine norm_ (a' := ?_) ?_ ?_
  rotate_left
  · show Act.put _ (some 52) _ = _
    simp only [Act.put, List.setIfInBounds_toArray, List.set_cons_zero, List.set_cons_succ, i64_w, i32_w]
    rfl
  refine pure_ (i := 22) (N := some 53) (v := ?_) (a' := ?_) #[true, true, true, true, true, true, true, true, true, true, true, true, true, true, true, true, true, true, true, true, true, true, true, false] rfl rfl (by kernel_rfl) (fun _ _ _ h => h) (Or.inl ⟨by rfl, ?_⟩) ?_ ?_
  rotate_left
  · intro w'
    go_simp
    with_reducible rfl
  rotate_left
  · simp only [Act.put, List.setIfInBounds_toArray, List.set_cons_zero, List.set_cons_succ, i64_w, i32_w]
    rfl
  refine pure_ (i := 23) (N := some 8) (v := ?_) (a' := ?_) #[true, true, true, true, true, true, true, true, true, true, true, true, true, true, true, true, true, true, true, true, true, true, true, true] rfl rfl (by kernel_rfl) (fun _ _ _ h => h) (Or.inl ⟨by rfl, ?_⟩) ?_ ?_
  rotate_left
  · intro w'
    go_simp
    with_reducible rfl
  rotate_left
  · simp only [Act.put, List.setIfInBounds_toArray, List.set_cons_zero, List.set_cons_succ, i64_w, i32_w]
    rfl
  refine done_ (by kernel_rfl) ?_
  go_wp2_with fail
  go_ret
  exact ⟨by first | rfl | (simp; done), B9.out.toBelow⟩
end Go.Proofs.Ytjngnigelkgekaa.Home
