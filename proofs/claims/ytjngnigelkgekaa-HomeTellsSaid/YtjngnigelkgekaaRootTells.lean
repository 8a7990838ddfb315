/- RootTells: the walk. -/
import Derived.Test.YtjngnigelkgekaaRoot10
import Derived.Test.YtjngnigelkgekaaKM
namespace Go.Proofs.Ytjngnigelkgekaa.Root
set_option linter.unusedVariables false
set_option linter.unusedSimpArgs false
open Go.RowKit Go.Proofs.YtjngnigelkgekaaW.PrintWords Go.Proofs.YtjngnigelkgekaaW.PrintLast Go.Proofs.YtjngnigelkgekaaW.PrintMore Go.Proofs.Ytjngnigelkgekaa.Kit Go.Proofs.Ytjngnigelkgekaa.Plain Go.Proofs.Ytjngnigelkgekaa.Disk
theorem xor_in {x t : Int} (x0 : 0 ≤ x) (x1 : x ≤ 255) (t0 : 0 ≤ t) (t1 : t ≤ 255) : 0 ≤ Go.bits .xor .u8 x t ∧ Go.bits .xor .u8 x t ≤ 255 := by
  obtain ⟨a, rfl⟩ := Int.eq_ofNat_of_zero_le x0
  obtain ⟨b, rfl⟩ := Int.eq_ofNat_of_zero_le t0
  rw [xor8_nat a b (by omega) (by omega)]
  have := Nat.xor_lt_two_pow (n := 8) (x := a) (y := b) (by omega) (by omega)
  omega
theorem withinK (n lo hi k : Int) (w : World) (hk : Book.withinF n lo hi = k) (h1 : -1073741824 ≤ lo) (h2 : lo ≤ hi) (h3 : hi ≤ 1073741824) :
    Calls Try.prog 19 #[.int .i64 n, .int .i64 lo, .int .i64 hi] w fun e w' => ∃ v, e = .returned (.int .i64 v) ∧ Sep w w' [Pu (v = k)] := by
  refine (Book.within_ n lo hi w h1 h2 h3).mono ?_
  rintro e w' ⟨rfl, rfl⟩
  exact ⟨_, rfl, (Sep.start w).unpu (by rw [hk])⟩
set_option maxHeartbeats 1600000 in
set_option maxRecDepth 100000 in
theorem rootTells_ {ra rb rc oa ob oc n page at_ turn : Int} {A4 : Option Addr} {n4 c4 : Nat} {b : List Int} {w : World} (hrc : 0 ≤ rc ∧ rc ≤ 4294967295) (hoc : 0 ≤ oc ∧ oc ≤ 4294967295) (h4 : U8.C w A4 n4 b) (hc4 : n4 ≤ c4) (hb4 : Bytes b) (htu : 0 ≤ turn ∧ turn ≤ 255) :
    Calls Try.prog 6 #[.agg #[.int .i64 ra, .int .i64 rb, .int .u32 rc], .agg #[.int .i64 oa, .int .i64 ob, .int .u32 oc], .int .i64 n, .int .i64 page, .slice A4 n4 c4, .int .i64 at_, .int .u8 turn] w fun e w' => e = .returned (.bool true) ∧ Below w.heap.size w w' := by
  have H4 := Aside0.mk (And.intro h4 (And.intro hc4 hb4))
  have HC := Aside0.mk (And.intro hrc (And.intro hoc htu))
  have A1 := ((Sep.start w).newBlk 26 #[.int .i64 ra, .int .i64 rb, .int .u32 rc]).newBlk 26 #[.int .i64 oa, .int .i64 ob, .int .u32 oc]
  rw [show ∀ o : Obj, (w.alloc o).heap.size = w.heap.size + 1 from fun o => by simp] at A1
  have A2 := Aside0.mk A1.drew
  clear A1 h4 hc4 hb4 hrc hoc htu
  go_enter Try.func6, Try.ntmps6
  go_wp2_with fail
  obtain ⟨ka, hka⟩ : ∃ ka, Book.withinF ra 1 8 = ka := ⟨_, rfl⟩
  obtain ⟨kb, hkb⟩ : ∃ kb, Book.withinF rb 1 8 = kb := ⟨_, rfl⟩
  have HK := Aside0.mk (And.intro hka hkb)
  clear hka hkb
  obtain ⟨wz, hwz⟩ : ∃ wz, (w.alloc (.cells #[.int .i64 ra, .int .i64 rb, .int .u32 rc] 26)).alloc (.cells #[.int .i64 oa, .int .i64 ob, .int .u32 oc] 26) = wz := ⟨_, rfl⟩
  rw [hwz] at A2 ⊢
  clear hwz
  refine start_ (n := 11) (S := fun w' => w'.cell? ⟨w.heap.size, 0, none⟩ = some (.int .i64 ra) ∧ w'.cell? ⟨w.heap.size, 1, none⟩ = some (.int .i64 rb) ∧ w'.cell? ⟨w.heap.size, 2, none⟩ = some (.int .u32 rc)) (ds := [10]) #[false, false, false, false, false, false, false, false, false, false, false] (by kernel_rfl) rfl rfl ⟨(A2.out.at2.cell 0).trans rfl, (A2.out.at2.cell 1).trans rfl, (A2.out.at2.cell 2).trans rfl⟩ (fun hHeld => ?_)
  refine pure_ (i := 0) (N := some 20) (v := ?_) (a' := ?_) #[true, false, false, false, false, false, false, false, false, false, false] rfl rfl (by kernel_rfl) (fun _ _ _ h => h) (Or.inl ⟨by rfl, ?_⟩) ?_ ?_
  rotate_left
  · intro w'
    go_simp
    with_reducible rfl
  rotate_left
  · simp only [Act.put, List.setIfInBounds_toArray, List.set_cons_zero, List.set_cons_succ, i64_w, i32_w]
    rfl
  refine pure_ (i := 3) (N := some 23) (v := ?_) (a' := ?_) #[true, false, false, true, false, false, false, false, false, false, false] rfl rfl (by kernel_rfl) (fun _ _ _ h => h) (Or.inl ⟨by rfl, ?_⟩) ?_ ?_
  rotate_left
  · intro w'
    go_simp
    with_reducible rfl
  rotate_left
  · simp only [Act.put, List.setIfInBounds_toArray, List.set_cons_zero, List.set_cons_succ, i64_w, i32_w]
    rfl
  refine pure_ (i := 6) (N := some 26) (v := ?_) (a' := ?_) #[true, false, false, true, false, false, true, false, false, false, false] rfl rfl (by kernel_rfl) (fun _ _ _ h => h) (Or.inl ⟨by rfl, ?_⟩) ?_ ?_
  rotate_left
  · intro w'
    go_simp
    with_reducible rfl
  rotate_left
  · simp only [Act.put, List.setIfInBounds_toArray, List.set_cons_zero, List.set_cons_succ, i64_w, i32_w]
    rfl
  refine take_ (i := 1) (N := some 21) (v := ?_) (a' := ?_) #[true, true, false, true, false, false, true, false, false, false, false] rfl rfl (by kernel_rfl) (fun _ _ _ h => h) (Or.inl ⟨by rfl, ?_⟩) hHeld ?_ ?_
  rotate_left
  · rintro w' ⟨s0, s1, s2⟩
    go_simp
    with_reducible rfl
  rotate_left
  · simp only [Act.put, List.setIfInBounds_toArray, List.set_cons_zero, List.set_cons_succ, i64_w, i32_w]
    rfl
  refine take_ (i := 4) (N := some 24) (v := ?_) (a' := ?_) #[true, true, false, true, true, false, true, false, false, false, false] rfl rfl (by kernel_rfl) (fun _ _ _ h => h) (Or.inl ⟨by rfl, ?_⟩) hHeld ?_ ?_
  rotate_left
  · rintro w' ⟨s0, s1, s2⟩
    go_simp
    with_reducible rfl
  rotate_left
  · simp only [Act.put, List.setIfInBounds_toArray, List.set_cons_zero, List.set_cons_succ, i64_w, i32_w]
    rfl
  refine take_ (i := 7) (N := some 27) (v := ?_) (a' := ?_) #[true, true, false, true, true, false, true, true, false, false, false] rfl rfl (by kernel_rfl) (fun _ _ _ h => h) (Or.inl ⟨by rfl, ?_⟩) hHeld ?_ ?_
  rotate_left
  · rintro w' ⟨s0, s1, s2⟩
    go_simp
    with_reducible rfl
  rotate_left
  · simp only [Act.put, List.setIfInBounds_toArray, List.set_cons_zero, List.set_cons_succ, i64_w, i32_w]
    rfl
  refine join_ (σ := Int × Int × Nat) 1 #[true, true, true, true, true, true, true, true, true, true, false] (fun s_ => [(22, .int .i64 s_.1), (25, .int .i64 s_.2.1), (15, .pointer (some ⟨s_.2.2, 0, none⟩)), (28, .agg #[.int .i64 s_.1, .int .i64 s_.2.1, .int .u32 rc])]) (fun s_ w' => (w'.cell? ⟨w.heap.size, 0, none⟩ = some (.int .i64 ra) ∧ w'.cell? ⟨w.heap.size, 1, none⟩ = some (.int .i64 rb) ∧ w'.cell? ⟨w.heap.size, 2, none⟩ = some (.int .u32 rc)) ∧ Sep w w' ((Pu ((s_.1) = ka)) :: (Pu ((s_.2.1) = kb)) :: (Blk (s_.2.2) 26 #[.int .i64 0, .int .i64 0, .int .u32 0]) :: [Blk (w.heap.size + 1) 26 #[.int .i64 oa, .int .i64 ob, .int .u32 oc], Blk w.heap.size 26 #[.int .i64 ra, .int .i64 rb, .int .u32 rc]])) ?_ ?_
  rotate_left
  · intro hJ2_5_9
    refine join_ (σ := Int × Int) 2 #[true, true, true, true, true, true, true, true, true, false, false] (fun s_ => [(22, .int .i64 s_.1), (25, .int .i64 s_.2), (28, .agg #[.int .i64 s_.1, .int .i64 s_.2, .int .u32 rc])]) (fun s_ w' => (w'.cell? ⟨w.heap.size, 0, none⟩ = some (.int .i64 ra) ∧ w'.cell? ⟨w.heap.size, 1, none⟩ = some (.int .i64 rb) ∧ w'.cell? ⟨w.heap.size, 2, none⟩ = some (.int .u32 rc)) ∧ Sep w w' ((Pu ((s_.1) = ka)) :: (Pu ((s_.2) = kb)) :: [Blk (w.heap.size + 1) 26 #[.int .i64 oa, .int .i64 ob, .int .u32 oc], Blk w.heap.size 26 #[.int .i64 ra, .int .i64 rb, .int .u32 rc]])) ?_ ?_
    rotate_left
    · intro hJ2_5
      refine join_ (σ := Int × Nat) 3 #[true, true, true, true, true, false, true, true, false, true, false] (fun s_ => [(22, .int .i64 s_.1), (15, .pointer (some ⟨s_.2, 0, none⟩))]) (fun s_ w' => (w'.cell? ⟨w.heap.size, 0, none⟩ = some (.int .i64 ra) ∧ w'.cell? ⟨w.heap.size, 1, none⟩ = some (.int .i64 rb) ∧ w'.cell? ⟨w.heap.size, 2, none⟩ = some (.int .u32 rc)) ∧ Sep w w' ((Pu ((s_.1) = ka)) :: (Blk (s_.2) 26 #[.int .i64 0, .int .i64 0, .int .u32 0]) :: [Blk (w.heap.size + 1) 26 #[.int .i64 oa, .int .i64 ob, .int .u32 oc], Blk w.heap.size 26 #[.int .i64 ra, .int .i64 rb, .int .u32 rc]])) ?_ ?_
      rotate_left
      · intro hJ2_9
        refine join_ (σ := Int) 4 #[true, true, true, true, true, false, true, true, false, false, false] (fun s_ => [(22, .int .i64 s_)]) (fun s_ w' => (w'.cell? ⟨w.heap.size, 0, none⟩ = some (.int .i64 ra) ∧ w'.cell? ⟨w.heap.size, 1, none⟩ = some (.int .i64 rb) ∧ w'.cell? ⟨w.heap.size, 2, none⟩ = some (.int .u32 rc)) ∧ Sep w w' ((Pu ((s_) = ka)) :: [Blk (w.heap.size + 1) 26 #[.int .i64 oa, .int .i64 ob, .int .u32 oc], Blk w.heap.size 26 #[.int .i64 ra, .int .i64 rb, .int .u32 rc]])) ?_ ?_
        rotate_left
        · intro hJ2
          refine join_ (σ := Nat) 4 #[true, true, false, true, true, false, true, true, false, true, false] (fun s_ => [(15, .pointer (some ⟨s_, 0, none⟩))]) (fun s_ w' => (w'.cell? ⟨w.heap.size, 0, none⟩ = some (.int .i64 ra) ∧ w'.cell? ⟨w.heap.size, 1, none⟩ = some (.int .i64 rb) ∧ w'.cell? ⟨w.heap.size, 2, none⟩ = some (.int .u32 rc)) ∧ Sep w w' ((Blk (s_) 26 #[.int .i64 0, .int .i64 0, .int .u32 0]) :: [Blk (w.heap.size + 1) 26 #[.int .i64 oa, .int .i64 ob, .int .u32 oc], Blk w.heap.size 26 #[.int .i64 ra, .int .i64 rb, .int .u32 rc]])) ?_ ?_
          rotate_left
          · intro hJ9
            refine two_ (i := 2) (j := 9) (Ni := some 22) (Nj := some 15) #[true, true, true, true, true, false, true, true, false, false, false] #[true, true, false, true, true, false, true, true, false, true, false] rfl rfl rfl rfl (by kernel_rfl) (by decide) (by decide) (fun K hK => ?_) (fun K hK => ?_)
            · skip
              refine goes_ Try.func19 (by kernel_rfl) rfl #[.int .i64 ra, .int .i64 1, .int .i64 8] (by rfl) rfl rfl (by simp only [List.map_toArray, List.map_cons, List.map_nil]; rfl) ?_
              with_reducible refine (withinK ra 1 8 ka _ HK.out.1 (by decide) (by decide) (by decide)).mono ?_
              rintro e wn_ ⟨vn_, rfl, hS_⟩
              refine ⟨_, rfl, ?_⟩
              have hN := (A2.out).lift1 hS_
              clear hS_
              refine hK.out _ _ ⟨(hN.tail.at2.cell 0).trans rfl, (hN.tail.at2.cell 1).trans rfl, (hN.tail.at2.cell 2).trans rfl⟩ (fun hHeld => ?_)
              clear hK K
              refine norm_ (a' := ?_) ?_ ?_
              rotate_left
              · show Act.put _ (some 22) _ = _
                simp only [Act.put, List.setIfInBounds_toArray, List.set_cons_zero, List.set_cons_succ, i64_w, i32_w]
                rfl
              exact norm_ (by first | (simp only [putAll, Act.put, List.setIfInBounds_toArray, List.set_cons_zero, List.set_cons_succ]; done) | (simp only [putAll, Act.put, List.setIfInBounds_toArray, List.set_cons_zero, List.set_cons_succ]; rfl)) (hJ2 vn_ _ ⟨hHeld, hN⟩)
            · skip
              refine value_ (w1 := ?_) (v := ?_) (by rfl) rfl ?_ ?_
              rotate_left 2
              · go_simp
                constructor
                · rfl
                · rfl
              have hN := (A2.out).newBlk 26 #[.int .i64 0, .int .i64 0, .int .u32 0]
              refine hK.out _ _ ⟨(hN.tail.at2.cell 0).trans rfl, (hN.tail.at2.cell 1).trans rfl, (hN.tail.at2.cell 2).trans rfl⟩ (fun hHeld => ?_)
              clear hK K
              refine norm_ (a' := ?_) ?_ ?_
              rotate_left
              · show Act.put _ (some 15) _ = _
                simp only [Act.put, List.setIfInBounds_toArray, List.set_cons_zero, List.set_cons_succ, i64_w, i32_w]
                rfl
              exact norm_ (by first | (simp only [putAll, Act.put, List.setIfInBounds_toArray, List.set_cons_zero, List.set_cons_succ]; done) | (simp only [putAll, Act.put, List.setIfInBounds_toArray, List.set_cons_zero, List.set_cons_succ]; rfl)) (hJ9 (wz.drew).heap.size _ ⟨hHeld, hN⟩)
          · skip
            rintro v9_ W_ ⟨hS_, hQ_⟩
            have hSep : Aside0 (Sep w W_ ((Blk (v9_) 26 #[.int .i64 0, .int .i64 0, .int .u32 0]) :: [Blk (w.heap.size + 1) 26 #[.int .i64 oa, .int .i64 ob, .int .u32 oc], Blk w.heap.size 26 #[.int .i64 ra, .int .i64 rb, .int .u32 rc]])) := ⟨hQ_⟩
            clear hQ_
            have hHeld : W_.cell? ⟨w.heap.size, 0, none⟩ = some (.int .i64 ra) ∧ W_.cell? ⟨w.heap.size, 1, none⟩ = some (.int .i64 rb) ∧ W_.cell? ⟨w.heap.size, 2, none⟩ = some (.int .u32 rc) := hS_
            refine norm_ (a' := ?_) ?_ ?_
            rotate_left
            · simp only [putAll, Act.put, List.setIfInBounds_toArray, List.set_cons_zero, List.set_cons_succ]
              rfl
            refine one_ (i := 2) (N := some 22) #[true, true, true, true, true, false, true, true, false, true, false] rfl rfl (by kernel_rfl) (by decide) (fun K hK => ?_)
            refine goes_ Try.func19 (by kernel_rfl) rfl #[.int .i64 ra, .int .i64 1, .int .i64 8] (by rfl) rfl rfl (by simp only [List.map_toArray, List.map_cons, List.map_nil]; rfl) ?_
            with_reducible refine (withinK ra 1 8 ka _ HK.out.1 (by decide) (by decide) (by decide)).mono ?_
            rintro e wn_ ⟨vn_, rfl, hS_⟩
            refine ⟨_, rfl, ?_⟩
            have hN := (hSep.out).lift1 hS_
            clear hS_
            refine hK.out _ _ ⟨(hN.tail.tail.at2.cell 0).trans rfl, (hN.tail.tail.at2.cell 1).trans rfl, (hN.tail.tail.at2.cell 2).trans rfl⟩ (fun hHeld => ?_)
            clear hK K
            refine norm_ (a' := ?_) ?_ ?_
            rotate_left
            · show Act.put _ (some 22) _ = _
              simp only [Act.put, List.setIfInBounds_toArray, List.set_cons_zero, List.set_cons_succ, i64_w, i32_w]
              rfl
            exact norm_ (by first | (simp only [putAll, Act.put, List.setIfInBounds_toArray, List.set_cons_zero, List.set_cons_succ]; done) | (simp only [putAll, Act.put, List.setIfInBounds_toArray, List.set_cons_zero, List.set_cons_succ]; rfl)) (hJ2_9 (vn_, v9_) _ ⟨hHeld, hN⟩)
        · skip
          rintro v2_ W_ ⟨hS_, hQ_⟩
          have hSep : Aside0 (Sep w W_ ((Pu ((v2_) = ka)) :: [Blk (w.heap.size + 1) 26 #[.int .i64 oa, .int .i64 ob, .int .u32 oc], Blk w.heap.size 26 #[.int .i64 ra, .int .i64 rb, .int .u32 rc]])) := ⟨hQ_⟩
          clear hQ_
          have hHeld : W_.cell? ⟨w.heap.size, 0, none⟩ = some (.int .i64 ra) ∧ W_.cell? ⟨w.heap.size, 1, none⟩ = some (.int .i64 rb) ∧ W_.cell? ⟨w.heap.size, 2, none⟩ = some (.int .u32 rc) := hS_
          refine norm_ (a' := ?_) ?_ ?_
          rotate_left
          · simp only [putAll, Act.put, List.setIfInBounds_toArray, List.set_cons_zero, List.set_cons_succ]
            rfl
          refine two_ (i := 5) (j := 9) (Ni := some 25) (Nj := some 15) #[true, true, true, true, true, true, true, true, false, false, false] #[true, true, true, true, true, false, true, true, false, true, false] rfl rfl rfl rfl (by kernel_rfl) (by decide) (by decide) (fun K hK => ?_) (fun K hK => ?_)
          · skip
            refine goes_ Try.func19 (by kernel_rfl) rfl #[.int .i64 rb, .int .i64 1, .int .i64 8] (by rfl) rfl rfl (by simp only [List.map_toArray, List.map_cons, List.map_nil]; rfl) ?_
            with_reducible refine (withinK rb 1 8 kb _ HK.out.2 (by decide) (by decide) (by decide)).mono ?_
            rintro e wn_ ⟨vn_, rfl, hS_⟩
            refine ⟨_, rfl, ?_⟩
            have hN := (hSep.out).lift1 hS_
            clear hS_
            refine hK.out _ _ ⟨(hN.tail.tail.at2.cell 0).trans rfl, (hN.tail.tail.at2.cell 1).trans rfl, (hN.tail.tail.at2.cell 2).trans rfl⟩ (fun hHeld => ?_)
            clear hK K
            refine norm_ (a' := ?_) ?_ ?_
            rotate_left
            · show Act.put _ (some 25) _ = _
              simp only [Act.put, List.setIfInBounds_toArray, List.set_cons_zero, List.set_cons_succ, i64_w, i32_w]
              rfl
            refine pure_ (i := 8) (N := some 28) (v := ?_) (a' := ?_) #[true, true, true, true, true, true, true, true, true, false, false] rfl rfl (by kernel_rfl) (fun _ _ _ h => h) (Or.inl ⟨by rfl, ?_⟩) ?_ ?_
            rotate_left
            · intro w'
              go_simp
              with_reducible rfl
            rotate_left
            · simp only [Act.put, List.setIfInBounds_toArray, List.set_cons_zero, List.set_cons_succ, i64_w, i32_w]
              rfl
            exact norm_ (by first | (simp only [putAll, Act.put, List.setIfInBounds_toArray, List.set_cons_zero, List.set_cons_succ]; done) | (simp only [putAll, Act.put, List.setIfInBounds_toArray, List.set_cons_zero, List.set_cons_succ]; rfl)) (hJ2_5 (v2_, vn_) _ ⟨hHeld, hN.at2⟩)
          · skip
            refine value_ (w1 := ?_) (v := ?_) (by rfl) rfl ?_ ?_
            rotate_left 2
            · go_simp
              constructor
              · rfl
              · rfl
            have hN := (hSep.out).newBlk 26 #[.int .i64 0, .int .i64 0, .int .u32 0]
            refine hK.out _ _ ⟨(hN.tail.tail.at2.cell 0).trans rfl, (hN.tail.tail.at2.cell 1).trans rfl, (hN.tail.tail.at2.cell 2).trans rfl⟩ (fun hHeld => ?_)
            clear hK K
            refine norm_ (a' := ?_) ?_ ?_
            rotate_left
            · show Act.put _ (some 15) _ = _
              simp only [Act.put, List.setIfInBounds_toArray, List.set_cons_zero, List.set_cons_succ, i64_w, i32_w]
              rfl
            exact norm_ (by first | (simp only [putAll, Act.put, List.setIfInBounds_toArray, List.set_cons_zero, List.set_cons_succ]; done) | (simp only [putAll, Act.put, List.setIfInBounds_toArray, List.set_cons_zero, List.set_cons_succ]; rfl)) (hJ2_9 (v2_, (W_).heap.size) _ ⟨hHeld, hN.at2⟩)
      · skip
        rintro ⟨v2_, v9_⟩ W_ ⟨hS_, hQ_⟩
        have hSep : Aside0 (Sep w W_ ((Pu ((v2_) = ka)) :: (Blk (v9_) 26 #[.int .i64 0, .int .i64 0, .int .u32 0]) :: [Blk (w.heap.size + 1) 26 #[.int .i64 oa, .int .i64 ob, .int .u32 oc], Blk w.heap.size 26 #[.int .i64 ra, .int .i64 rb, .int .u32 rc]])) := ⟨hQ_⟩
        clear hQ_
        have hHeld : W_.cell? ⟨w.heap.size, 0, none⟩ = some (.int .i64 ra) ∧ W_.cell? ⟨w.heap.size, 1, none⟩ = some (.int .i64 rb) ∧ W_.cell? ⟨w.heap.size, 2, none⟩ = some (.int .u32 rc) := hS_
        refine norm_ (a' := ?_) ?_ ?_
        rotate_left
        · simp only [putAll, Act.put, List.setIfInBounds_toArray, List.set_cons_zero, List.set_cons_succ]
          rfl
        refine one_ (i := 5) (N := some 25) #[true, true, true, true, true, true, true, true, false, true, false] rfl rfl (by kernel_rfl) (by decide) (fun K hK => ?_)
        refine goes_ Try.func19 (by kernel_rfl) rfl #[.int .i64 rb, .int .i64 1, .int .i64 8] (by rfl) rfl rfl (by simp only [List.map_toArray, List.map_cons, List.map_nil]; rfl) ?_
        with_reducible refine (withinK rb 1 8 kb _ HK.out.2 (by decide) (by decide) (by decide)).mono ?_
        rintro e wn_ ⟨vn_, rfl, hS_⟩
        refine ⟨_, rfl, ?_⟩
        have hN := (hSep.out).lift1 hS_
        clear hS_
        refine hK.out _ _ ⟨(hN.tail.tail.tail.at2.cell 0).trans rfl, (hN.tail.tail.tail.at2.cell 1).trans rfl, (hN.tail.tail.tail.at2.cell 2).trans rfl⟩ (fun hHeld => ?_)
        clear hK K
        refine norm_ (a' := ?_) ?_ ?_
        rotate_left
        · show Act.put _ (some 25) _ = _
          simp only [Act.put, List.setIfInBounds_toArray, List.set_cons_zero, List.set_cons_succ, i64_w, i32_w]
          rfl
        refine pure_ (i := 8) (N := some 28) (v := ?_) (a' := ?_) #[true, true, true, true, true, true, true, true, true, true, false] rfl rfl (by kernel_rfl) (fun _ _ _ h => h) (Or.inl ⟨by rfl, ?_⟩) ?_ ?_
        rotate_left
        · intro w'
          go_simp
          with_reducible rfl
        rotate_left
        · simp only [Act.put, List.setIfInBounds_toArray, List.set_cons_zero, List.set_cons_succ, i64_w, i32_w]
          rfl
        exact norm_ (by first | (simp only [putAll, Act.put, List.setIfInBounds_toArray, List.set_cons_zero, List.set_cons_succ]; done) | (simp only [putAll, Act.put, List.setIfInBounds_toArray, List.set_cons_zero, List.set_cons_succ]; rfl)) (hJ2_5_9 (v2_, vn_, v9_) _ ⟨hHeld, hN.at2⟩)
    · skip
      rintro ⟨v2_, v5_⟩ W_ ⟨hS_, hQ_⟩
      have hSep : Aside0 (Sep w W_ ((Pu ((v2_) = ka)) :: (Pu ((v5_) = kb)) :: [Blk (w.heap.size + 1) 26 #[.int .i64 oa, .int .i64 ob, .int .u32 oc], Blk w.heap.size 26 #[.int .i64 ra, .int .i64 rb, .int .u32 rc]])) := ⟨hQ_⟩
      clear hQ_
      have hHeld : W_.cell? ⟨w.heap.size, 0, none⟩ = some (.int .i64 ra) ∧ W_.cell? ⟨w.heap.size, 1, none⟩ = some (.int .i64 rb) ∧ W_.cell? ⟨w.heap.size, 2, none⟩ = some (.int .u32 rc) := hS_
      refine norm_ (a' := ?_) ?_ ?_
      rotate_left
      · simp only [putAll, Act.put, List.setIfInBounds_toArray, List.set_cons_zero, List.set_cons_succ]
        rfl
      refine one_ (i := 9) (N := some 15) #[true, true, true, true, true, true, true, true, true, true, false] rfl rfl (by kernel_rfl) (by decide) (fun K hK => ?_)
      refine value_ (w1 := ?_) (v := ?_) (by rfl) rfl ?_ ?_
      rotate_left 2
      · go_simp
        constructor
        · rfl
        · rfl
      have hN := (hSep.out).newBlk 26 #[.int .i64 0, .int .i64 0, .int .u32 0]
      refine hK.out _ _ ⟨(hN.tail.tail.tail.at2.cell 0).trans rfl, (hN.tail.tail.tail.at2.cell 1).trans rfl, (hN.tail.tail.tail.at2.cell 2).trans rfl⟩ (fun hHeld => ?_)
      clear hK K
      refine norm_ (a' := ?_) ?_ ?_
      rotate_left
      · show Act.put _ (some 15) _ = _
        simp only [Act.put, List.setIfInBounds_toArray, List.set_cons_zero, List.set_cons_succ, i64_w, i32_w]
        rfl
      exact norm_ (by first | (simp only [putAll, Act.put, List.setIfInBounds_toArray, List.set_cons_zero, List.set_cons_succ]; done) | (simp only [putAll, Act.put, List.setIfInBounds_toArray, List.set_cons_zero, List.set_cons_succ]; rfl)) (hJ2_5_9 (v2_, v5_, (W_).heap.size) _ ⟨hHeld, hN.to3⟩)
  rintro ⟨v2_, v5_, v9_⟩ W_ ⟨hS_, hQ_⟩
  have hSep : Aside0 (Sep w W_ ((Pu ((v2_) = ka)) :: (Pu ((v5_) = kb)) :: (Blk (v9_) 26 #[.int .i64 0, .int .i64 0, .int .u32 0]) :: [Blk (w.heap.size + 1) 26 #[.int .i64 oa, .int .i64 ob, .int .u32 oc], Blk w.heap.size 26 #[.int .i64 ra, .int .i64 rb, .int .u32 rc]])) := ⟨hQ_⟩
  clear hQ_
  have hHeld : W_.cell? ⟨w.heap.size, 0, none⟩ = some (.int .i64 ra) ∧ W_.cell? ⟨w.heap.size, 1, none⟩ = some (.int .i64 rb) ∧ W_.cell? ⟨w.heap.size, 2, none⟩ = some (.int .u32 rc) := hS_
  obtain ⟨h2_, hT_⟩ := hSep.out.pu
  obtain ⟨h5_, hT2_⟩ := hT_.pu
  have h2s := h2_.symm
  have h5s := h5_.symm
  subst h2s h5s
  obtain ⟨p15, hp_⟩ : ∃ p, p = v9_ := ⟨_, rfl⟩
  subst hp_
  obtain ⟨d0, f0, d1, f1, d2, f2, hS10⟩ := store3 (.int .i64 ka) (.int .i64 kb) (.int .u32 rc) hT2_
  have B1' := Aside0.mk hS10
  clear hS10 hT_ hT2_
  refine norm_ (a' := ?_) ?_ ?_
  rotate_left
  · simp only [putAll, Act.put, List.setIfInBounds_toArray, List.set_cons_zero, List.set_cons_succ]
    rfl
  refine last_ (i := 10) (N := none) #[true, true, true, true, true, true, true, true, true, true, true] rfl rfl (by kernel_rfl) (by decide) (fun K hK => ?_)
  refine skip_ (w1 := ?_) (by rfl) rfl ?_ ?_
  rotate_left
  · go_simp
    rfl
  refine hK.out _ _ ?_
  clear hK K
  refine done_ (by kernel_rfl) ?_
  obtain ⟨wp15, hw_⟩ : ∃ w_, ((W_.setCell ⟨p15, 0, none⟩ (.int .i64 ka)).setCell ⟨p15, 1, none⟩ (.int .i64 kb)).setCell ⟨p15, 2, none⟩ (.int .u32 rc) = w_ := ⟨_, rfl⟩
  have B1 : Aside0 (Sep w wp15 _) := ⟨by have h_ := B1'.out; rw [hw_] at h_; exact h_⟩
  rw [hw_]
  clear hw_ B1' d0 d1 d2 f0 f1 f2
  obtain ⟨ja, hja⟩ : ∃ ja, Book.withinF oa 1 8 = ja := ⟨_, rfl⟩
  obtain ⟨jb, hjb⟩ : ∃ jb, Book.withinF ob 1 8 = jb := ⟨_, rfl⟩
  have HJ := Aside0.mk (And.intro hja hjb)
  have B1d := Aside0.mk B1.out.drew
  clear hja hjb
  go_wp2_with fail
  refine start_ (n := 11) (S := fun w' => w'.cell? ⟨(w.heap.size + 1), 0, none⟩ = some (.int .i64 oa) ∧ w'.cell? ⟨(w.heap.size + 1), 1, none⟩ = some (.int .i64 ob) ∧ w'.cell? ⟨(w.heap.size + 1), 2, none⟩ = some (.int .u32 oc)) (ds := [10]) #[false, false, false, false, false, false, false, false, false, false, false] (by kernel_rfl) rfl rfl ⟨(B1d.out.at2.cell 0).trans rfl, (B1d.out.at2.cell 1).trans rfl, (B1d.out.at2.cell 2).trans rfl⟩ (fun hHeld => ?_)
  refine pure_ (i := 0) (N := some 29) (v := ?_) (a' := ?_) #[true, false, false, false, false, false, false, false, false, false, false] rfl rfl (by kernel_rfl) (fun _ _ _ h => h) (Or.inl ⟨by rfl, ?_⟩) ?_ ?_
  rotate_left
  · intro w'
    go_simp
    with_reducible rfl
  rotate_left
  · simp only [Act.put, List.setIfInBounds_toArray, List.set_cons_zero, List.set_cons_succ, i64_w, i32_w]
    rfl
  refine pure_ (i := 3) (N := some 32) (v := ?_) (a' := ?_) #[true, false, false, true, false, false, false, false, false, false, false] rfl rfl (by kernel_rfl) (fun _ _ _ h => h) (Or.inl ⟨by rfl, ?_⟩) ?_ ?_
  rotate_left
  · intro w'
    go_simp
    with_reducible rfl
  rotate_left
  · simp only [Act.put, List.setIfInBounds_toArray, List.set_cons_zero, List.set_cons_succ, i64_w, i32_w]
    rfl
  refine pure_ (i := 6) (N := some 35) (v := ?_) (a' := ?_) #[true, false, false, true, false, false, true, false, false, false, false] rfl rfl (by kernel_rfl) (fun _ _ _ h => h) (Or.inl ⟨by rfl, ?_⟩) ?_ ?_
  rotate_left
  · intro w'
    go_simp
    with_reducible rfl
  rotate_left
  · simp only [Act.put, List.setIfInBounds_toArray, List.set_cons_zero, List.set_cons_succ, i64_w, i32_w]
    rfl
  refine take_ (i := 1) (N := some 30) (v := ?_) (a' := ?_) #[true, true, false, true, false, false, true, false, false, false, false] rfl rfl (by kernel_rfl) (fun _ _ _ h => h) (Or.inl ⟨by rfl, ?_⟩) hHeld ?_ ?_
  rotate_left
  · rintro w' ⟨s0, s1, s2⟩
    go_simp
    with_reducible rfl
  rotate_left
  · simp only [Act.put, List.setIfInBounds_toArray, List.set_cons_zero, List.set_cons_succ, i64_w, i32_w]
    rfl
  refine take_ (i := 4) (N := some 33) (v := ?_) (a' := ?_) #[true, true, false, true, true, false, true, false, false, false, false] rfl rfl (by kernel_rfl) (fun _ _ _ h => h) (Or.inl ⟨by rfl, ?_⟩) hHeld ?_ ?_
  rotate_left
  · rintro w' ⟨s0, s1, s2⟩
    go_simp
    with_reducible rfl
  rotate_left
  · simp only [Act.put, List.setIfInBounds_toArray, List.set_cons_zero, List.set_cons_succ, i64_w, i32_w]
    rfl
  refine take_ (i := 7) (N := some 36) (v := ?_) (a' := ?_) #[true, true, false, true, true, false, true, true, false, false, false] rfl rfl (by kernel_rfl) (fun _ _ _ h => h) (Or.inl ⟨by rfl, ?_⟩) hHeld ?_ ?_
  rotate_left
  · rintro w' ⟨s0, s1, s2⟩
    go_simp
    with_reducible rfl
  rotate_left
  · simp only [Act.put, List.setIfInBounds_toArray, List.set_cons_zero, List.set_cons_succ, i64_w, i32_w]
    rfl
  refine join_ (σ := Int × Int × Nat) 1 #[true, true, true, true, true, true, true, true, true, true, false] (fun s_ => [(31, .int .i64 s_.1), (34, .int .i64 s_.2.1), (16, .pointer (some ⟨s_.2.2, 0, none⟩)), (37, .agg #[.int .i64 s_.1, .int .i64 s_.2.1, .int .u32 oc])]) (fun s_ w' => (w'.cell? ⟨(w.heap.size + 1), 0, none⟩ = some (.int .i64 oa) ∧ w'.cell? ⟨(w.heap.size + 1), 1, none⟩ = some (.int .i64 ob) ∧ w'.cell? ⟨(w.heap.size + 1), 2, none⟩ = some (.int .u32 oc)) ∧ Sep w w' ((Pu ((s_.1) = ja)) :: (Pu ((s_.2.1) = jb)) :: (Blk (s_.2.2) 26 #[.int .i64 0, .int .i64 0, .int .u32 0]) :: [Blk p15 26 #[.int .i64 ka, .int .i64 kb, .int .u32 rc], Blk (w.heap.size + 1) 26 #[.int .i64 oa, .int .i64 ob, .int .u32 oc], Blk w.heap.size 26 #[.int .i64 ra, .int .i64 rb, .int .u32 rc]])) ?_ ?_
  rotate_left
  · intro hJ2_5_9
    refine join_ (σ := Int × Int) 2 #[true, true, true, true, true, true, true, true, true, false, false] (fun s_ => [(31, .int .i64 s_.1), (34, .int .i64 s_.2), (37, .agg #[.int .i64 s_.1, .int .i64 s_.2, .int .u32 oc])]) (fun s_ w' => (w'.cell? ⟨(w.heap.size + 1), 0, none⟩ = some (.int .i64 oa) ∧ w'.cell? ⟨(w.heap.size + 1), 1, none⟩ = some (.int .i64 ob) ∧ w'.cell? ⟨(w.heap.size + 1), 2, none⟩ = some (.int .u32 oc)) ∧ Sep w w' ((Pu ((s_.1) = ja)) :: (Pu ((s_.2) = jb)) :: [Blk p15 26 #[.int .i64 ka, .int .i64 kb, .int .u32 rc], Blk (w.heap.size + 1) 26 #[.int .i64 oa, .int .i64 ob, .int .u32 oc], Blk w.heap.size 26 #[.int .i64 ra, .int .i64 rb, .int .u32 rc]])) ?_ ?_
    rotate_left
    · intro hJ2_5
      refine join_ (σ := Int × Nat) 3 #[true, true, true, true, true, false, true, true, false, true, false] (fun s_ => [(31, .int .i64 s_.1), (16, .pointer (some ⟨s_.2, 0, none⟩))]) (fun s_ w' => (w'.cell? ⟨(w.heap.size + 1), 0, none⟩ = some (.int .i64 oa) ∧ w'.cell? ⟨(w.heap.size + 1), 1, none⟩ = some (.int .i64 ob) ∧ w'.cell? ⟨(w.heap.size + 1), 2, none⟩ = some (.int .u32 oc)) ∧ Sep w w' ((Pu ((s_.1) = ja)) :: (Blk (s_.2) 26 #[.int .i64 0, .int .i64 0, .int .u32 0]) :: [Blk p15 26 #[.int .i64 ka, .int .i64 kb, .int .u32 rc], Blk (w.heap.size + 1) 26 #[.int .i64 oa, .int .i64 ob, .int .u32 oc], Blk w.heap.size 26 #[.int .i64 ra, .int .i64 rb, .int .u32 rc]])) ?_ ?_
      rotate_left
      · intro hJ2_9
        refine join_ (σ := Int) 4 #[true, true, true, true, true, false, true, true, false, false, false] (fun s_ => [(31, .int .i64 s_)]) (fun s_ w' => (w'.cell? ⟨(w.heap.size + 1), 0, none⟩ = some (.int .i64 oa) ∧ w'.cell? ⟨(w.heap.size + 1), 1, none⟩ = some (.int .i64 ob) ∧ w'.cell? ⟨(w.heap.size + 1), 2, none⟩ = some (.int .u32 oc)) ∧ Sep w w' ((Pu ((s_) = ja)) :: [Blk p15 26 #[.int .i64 ka, .int .i64 kb, .int .u32 rc], Blk (w.heap.size + 1) 26 #[.int .i64 oa, .int .i64 ob, .int .u32 oc], Blk w.heap.size 26 #[.int .i64 ra, .int .i64 rb, .int .u32 rc]])) ?_ ?_
        rotate_left
        · intro hJ2
          refine join_ (σ := Nat) 4 #[true, true, false, true, true, false, true, true, false, true, false] (fun s_ => [(16, .pointer (some ⟨s_, 0, none⟩))]) (fun s_ w' => (w'.cell? ⟨(w.heap.size + 1), 0, none⟩ = some (.int .i64 oa) ∧ w'.cell? ⟨(w.heap.size + 1), 1, none⟩ = some (.int .i64 ob) ∧ w'.cell? ⟨(w.heap.size + 1), 2, none⟩ = some (.int .u32 oc)) ∧ Sep w w' ((Blk (s_) 26 #[.int .i64 0, .int .i64 0, .int .u32 0]) :: [Blk p15 26 #[.int .i64 ka, .int .i64 kb, .int .u32 rc], Blk (w.heap.size + 1) 26 #[.int .i64 oa, .int .i64 ob, .int .u32 oc], Blk w.heap.size 26 #[.int .i64 ra, .int .i64 rb, .int .u32 rc]])) ?_ ?_
          rotate_left
          · intro hJ9
            refine two_ (i := 2) (j := 9) (Ni := some 31) (Nj := some 16) #[true, true, true, true, true, false, true, true, false, false, false] #[true, true, false, true, true, false, true, true, false, true, false] rfl rfl rfl rfl (by kernel_rfl) (by decide) (by decide) (fun K hK => ?_) (fun K hK => ?_)
            · skip
              refine goes_ Try.func19 (by kernel_rfl) rfl #[.int .i64 oa, .int .i64 1, .int .i64 8] (by rfl) rfl rfl (by simp only [List.map_toArray, List.map_cons, List.map_nil]; rfl) ?_
              with_reducible refine (withinK oa 1 8 ja _ HJ.out.1 (by decide) (by decide) (by decide)).mono ?_
              rintro e wn_ ⟨vn_, rfl, hS_⟩
              refine ⟨_, rfl, ?_⟩
              have hN := (B1d.out).lift1 hS_
              clear hS_
              refine hK.out _ _ ⟨(hN.tail.at2.cell 0).trans rfl, (hN.tail.at2.cell 1).trans rfl, (hN.tail.at2.cell 2).trans rfl⟩ (fun hHeld => ?_)
              clear hK K
              refine norm_ (a' := ?_) ?_ ?_
              rotate_left
              · show Act.put _ (some 31) _ = _
                simp only [Act.put, List.setIfInBounds_toArray, List.set_cons_zero, List.set_cons_succ, i64_w, i32_w]
                rfl
              exact norm_ (by first | (simp only [putAll, Act.put, List.setIfInBounds_toArray, List.set_cons_zero, List.set_cons_succ]; done) | (simp only [putAll, Act.put, List.setIfInBounds_toArray, List.set_cons_zero, List.set_cons_succ]; rfl)) (hJ2 vn_ _ ⟨hHeld, hN⟩)
            · skip
              refine value_ (w1 := ?_) (v := ?_) (by rfl) rfl ?_ ?_
              rotate_left 2
              · go_simp
                constructor
                · rfl
                · rfl
              have hN := (B1d.out).newBlk 26 #[.int .i64 0, .int .i64 0, .int .u32 0]
              refine hK.out _ _ ⟨(hN.tail.at2.cell 0).trans rfl, (hN.tail.at2.cell 1).trans rfl, (hN.tail.at2.cell 2).trans rfl⟩ (fun hHeld => ?_)
              clear hK K
              refine norm_ (a' := ?_) ?_ ?_
              rotate_left
              · show Act.put _ (some 16) _ = _
                simp only [Act.put, List.setIfInBounds_toArray, List.set_cons_zero, List.set_cons_succ, i64_w, i32_w]
                rfl
              exact norm_ (by first | (simp only [putAll, Act.put, List.setIfInBounds_toArray, List.set_cons_zero, List.set_cons_succ]; done) | (simp only [putAll, Act.put, List.setIfInBounds_toArray, List.set_cons_zero, List.set_cons_succ]; rfl)) (hJ9 (wp15.drew).heap.size _ ⟨hHeld, hN⟩)
          · skip
            rintro v9_ W_ ⟨hS_, hQ_⟩
            have hSep : Aside0 (Sep w W_ ((Blk (v9_) 26 #[.int .i64 0, .int .i64 0, .int .u32 0]) :: [Blk p15 26 #[.int .i64 ka, .int .i64 kb, .int .u32 rc], Blk (w.heap.size + 1) 26 #[.int .i64 oa, .int .i64 ob, .int .u32 oc], Blk w.heap.size 26 #[.int .i64 ra, .int .i64 rb, .int .u32 rc]])) := ⟨hQ_⟩
            clear hQ_
            have hHeld : W_.cell? ⟨(w.heap.size + 1), 0, none⟩ = some (.int .i64 oa) ∧ W_.cell? ⟨(w.heap.size + 1), 1, none⟩ = some (.int .i64 ob) ∧ W_.cell? ⟨(w.heap.size + 1), 2, none⟩ = some (.int .u32 oc) := hS_
            refine norm_ (a' := ?_) ?_ ?_
            rotate_left
            · simp only [putAll, Act.put, List.setIfInBounds_toArray, List.set_cons_zero, List.set_cons_succ]
              rfl
            refine one_ (i := 2) (N := some 31) #[true, true, true, true, true, false, true, true, false, true, false] rfl rfl (by kernel_rfl) (by decide) (fun K hK => ?_)
            refine goes_ Try.func19 (by kernel_rfl) rfl #[.int .i64 oa, .int .i64 1, .int .i64 8] (by rfl) rfl rfl (by simp only [List.map_toArray, List.map_cons, List.map_nil]; rfl) ?_
            with_reducible refine (withinK oa 1 8 ja _ HJ.out.1 (by decide) (by decide) (by decide)).mono ?_
            rintro e wn_ ⟨vn_, rfl, hS_⟩
            refine ⟨_, rfl, ?_⟩
            have hN := (hSep.out).lift1 hS_
            clear hS_
            refine hK.out _ _ ⟨(hN.tail.tail.at2.cell 0).trans rfl, (hN.tail.tail.at2.cell 1).trans rfl, (hN.tail.tail.at2.cell 2).trans rfl⟩ (fun hHeld => ?_)
            clear hK K
            refine norm_ (a' := ?_) ?_ ?_
            rotate_left
            · show Act.put _ (some 31) _ = _
              simp only [Act.put, List.setIfInBounds_toArray, List.set_cons_zero, List.set_cons_succ, i64_w, i32_w]
              rfl
            exact norm_ (by first | (simp only [putAll, Act.put, List.setIfInBounds_toArray, List.set_cons_zero, List.set_cons_succ]; done) | (simp only [putAll, Act.put, List.setIfInBounds_toArray, List.set_cons_zero, List.set_cons_succ]; rfl)) (hJ2_9 (vn_, v9_) _ ⟨hHeld, hN⟩)
        · skip
          rintro v2_ W_ ⟨hS_, hQ_⟩
          have hSep : Aside0 (Sep w W_ ((Pu ((v2_) = ja)) :: [Blk p15 26 #[.int .i64 ka, .int .i64 kb, .int .u32 rc], Blk (w.heap.size + 1) 26 #[.int .i64 oa, .int .i64 ob, .int .u32 oc], Blk w.heap.size 26 #[.int .i64 ra, .int .i64 rb, .int .u32 rc]])) := ⟨hQ_⟩
          clear hQ_
          have hHeld : W_.cell? ⟨(w.heap.size + 1), 0, none⟩ = some (.int .i64 oa) ∧ W_.cell? ⟨(w.heap.size + 1), 1, none⟩ = some (.int .i64 ob) ∧ W_.cell? ⟨(w.heap.size + 1), 2, none⟩ = some (.int .u32 oc) := hS_
          refine norm_ (a' := ?_) ?_ ?_
          rotate_left
          · simp only [putAll, Act.put, List.setIfInBounds_toArray, List.set_cons_zero, List.set_cons_succ]
            rfl
          refine two_ (i := 5) (j := 9) (Ni := some 34) (Nj := some 16) #[true, true, true, true, true, true, true, true, false, false, false] #[true, true, true, true, true, false, true, true, false, true, false] rfl rfl rfl rfl (by kernel_rfl) (by decide) (by decide) (fun K hK => ?_) (fun K hK => ?_)
          · skip
            refine goes_ Try.func19 (by kernel_rfl) rfl #[.int .i64 ob, .int .i64 1, .int .i64 8] (by rfl) rfl rfl (by simp only [List.map_toArray, List.map_cons, List.map_nil]; rfl) ?_
            with_reducible refine (withinK ob 1 8 jb _ HJ.out.2 (by decide) (by decide) (by decide)).mono ?_
            rintro e wn_ ⟨vn_, rfl, hS_⟩
            refine ⟨_, rfl, ?_⟩
            have hN := (hSep.out).lift1 hS_
            clear hS_
            refine hK.out _ _ ⟨(hN.tail.tail.at2.cell 0).trans rfl, (hN.tail.tail.at2.cell 1).trans rfl, (hN.tail.tail.at2.cell 2).trans rfl⟩ (fun hHeld => ?_)
            clear hK K
            refine norm_ (a' := ?_) ?_ ?_
            rotate_left
            · show Act.put _ (some 34) _ = _
              simp only [Act.put, List.setIfInBounds_toArray, List.set_cons_zero, List.set_cons_succ, i64_w, i32_w]
              rfl
            refine pure_ (i := 8) (N := some 37) (v := ?_) (a' := ?_) #[true, true, true, true, true, true, true, true, true, false, false] rfl rfl (by kernel_rfl) (fun _ _ _ h => h) (Or.inl ⟨by rfl, ?_⟩) ?_ ?_
            rotate_left
            · intro w'
              go_simp
              with_reducible rfl
            rotate_left
            · simp only [Act.put, List.setIfInBounds_toArray, List.set_cons_zero, List.set_cons_succ, i64_w, i32_w]
              rfl
            exact norm_ (by first | (simp only [putAll, Act.put, List.setIfInBounds_toArray, List.set_cons_zero, List.set_cons_succ]; done) | (simp only [putAll, Act.put, List.setIfInBounds_toArray, List.set_cons_zero, List.set_cons_succ]; rfl)) (hJ2_5 (v2_, vn_) _ ⟨hHeld, hN.at2⟩)
          · skip
            refine value_ (w1 := ?_) (v := ?_) (by rfl) rfl ?_ ?_
            rotate_left 2
            · go_simp
              constructor
              · rfl
              · rfl
            have hN := (hSep.out).newBlk 26 #[.int .i64 0, .int .i64 0, .int .u32 0]
            refine hK.out _ _ ⟨(hN.tail.tail.at2.cell 0).trans rfl, (hN.tail.tail.at2.cell 1).trans rfl, (hN.tail.tail.at2.cell 2).trans rfl⟩ (fun hHeld => ?_)
            clear hK K
            refine norm_ (a' := ?_) ?_ ?_
            rotate_left
            · show Act.put _ (some 16) _ = _
              simp only [Act.put, List.setIfInBounds_toArray, List.set_cons_zero, List.set_cons_succ, i64_w, i32_w]
              rfl
            exact norm_ (by first | (simp only [putAll, Act.put, List.setIfInBounds_toArray, List.set_cons_zero, List.set_cons_succ]; done) | (simp only [putAll, Act.put, List.setIfInBounds_toArray, List.set_cons_zero, List.set_cons_succ]; rfl)) (hJ2_9 (v2_, (W_).heap.size) _ ⟨hHeld, hN.at2⟩)
      · skip
        rintro ⟨v2_, v9_⟩ W_ ⟨hS_, hQ_⟩
        have hSep : Aside0 (Sep w W_ ((Pu ((v2_) = ja)) :: (Blk (v9_) 26 #[.int .i64 0, .int .i64 0, .int .u32 0]) :: [Blk p15 26 #[.int .i64 ka, .int .i64 kb, .int .u32 rc], Blk (w.heap.size + 1) 26 #[.int .i64 oa, .int .i64 ob, .int .u32 oc], Blk w.heap.size 26 #[.int .i64 ra, .int .i64 rb, .int .u32 rc]])) := ⟨hQ_⟩
        clear hQ_
        have hHeld : W_.cell? ⟨(w.heap.size + 1), 0, none⟩ = some (.int .i64 oa) ∧ W_.cell? ⟨(w.heap.size + 1), 1, none⟩ = some (.int .i64 ob) ∧ W_.cell? ⟨(w.heap.size + 1), 2, none⟩ = some (.int .u32 oc) := hS_
        refine norm_ (a' := ?_) ?_ ?_
        rotate_left
        · simp only [putAll, Act.put, List.setIfInBounds_toArray, List.set_cons_zero, List.set_cons_succ]
          rfl
        refine one_ (i := 5) (N := some 34) #[true, true, true, true, true, true, true, true, false, true, false] rfl rfl (by kernel_rfl) (by decide) (fun K hK => ?_)
        refine goes_ Try.func19 (by kernel_rfl) rfl #[.int .i64 ob, .int .i64 1, .int .i64 8] (by rfl) rfl rfl (by simp only [List.map_toArray, List.map_cons, List.map_nil]; rfl) ?_
        with_reducible refine (withinK ob 1 8 jb _ HJ.out.2 (by decide) (by decide) (by decide)).mono ?_
        rintro e wn_ ⟨vn_, rfl, hS_⟩
        refine ⟨_, rfl, ?_⟩
        have hN := (hSep.out).lift1 hS_
        clear hS_
        refine hK.out _ _ ⟨(hN.tail.tail.tail.at2.cell 0).trans rfl, (hN.tail.tail.tail.at2.cell 1).trans rfl, (hN.tail.tail.tail.at2.cell 2).trans rfl⟩ (fun hHeld => ?_)
        clear hK K
        refine norm_ (a' := ?_) ?_ ?_
        rotate_left
        · show Act.put _ (some 34) _ = _
          simp only [Act.put, List.setIfInBounds_toArray, List.set_cons_zero, List.set_cons_succ, i64_w, i32_w]
          rfl
        refine pure_ (i := 8) (N := some 37) (v := ?_) (a' := ?_) #[true, true, true, true, true, true, true, true, true, true, false] rfl rfl (by kernel_rfl) (fun _ _ _ h => h) (Or.inl ⟨by rfl, ?_⟩) ?_ ?_
        rotate_left
        · intro w'
          go_simp
          with_reducible rfl
        rotate_left
        · simp only [Act.put, List.setIfInBounds_toArray, List.set_cons_zero, List.set_cons_succ, i64_w, i32_w]
          rfl
        exact norm_ (by first | (simp only [putAll, Act.put, List.setIfInBounds_toArray, List.set_cons_zero, List.set_cons_succ]; done) | (simp only [putAll, Act.put, List.setIfInBounds_toArray, List.set_cons_zero, List.set_cons_succ]; rfl)) (hJ2_5_9 (v2_, vn_, v9_) _ ⟨hHeld, hN.at2⟩)
    · skip
      rintro ⟨v2_, v5_⟩ W_ ⟨hS_, hQ_⟩
      have hSep : Aside0 (Sep w W_ ((Pu ((v2_) = ja)) :: (Pu ((v5_) = jb)) :: [Blk p15 26 #[.int .i64 ka, .int .i64 kb, .int .u32 rc], Blk (w.heap.size + 1) 26 #[.int .i64 oa, .int .i64 ob, .int .u32 oc], Blk w.heap.size 26 #[.int .i64 ra, .int .i64 rb, .int .u32 rc]])) := ⟨hQ_⟩
      clear hQ_
      have hHeld : W_.cell? ⟨(w.heap.size + 1), 0, none⟩ = some (.int .i64 oa) ∧ W_.cell? ⟨(w.heap.size + 1), 1, none⟩ = some (.int .i64 ob) ∧ W_.cell? ⟨(w.heap.size + 1), 2, none⟩ = some (.int .u32 oc) := hS_
      refine norm_ (a' := ?_) ?_ ?_
      rotate_left
      · simp only [putAll, Act.put, List.setIfInBounds_toArray, List.set_cons_zero, List.set_cons_succ]
        rfl
      refine one_ (i := 9) (N := some 16) #[true, true, true, true, true, true, true, true, true, true, false] rfl rfl (by kernel_rfl) (by decide) (fun K hK => ?_)
      refine value_ (w1 := ?_) (v := ?_) (by rfl) rfl ?_ ?_
      rotate_left 2
      · go_simp
        constructor
        · rfl
        · rfl
      have hN := (hSep.out).newBlk 26 #[.int .i64 0, .int .i64 0, .int .u32 0]
      refine hK.out _ _ ⟨(hN.tail.tail.tail.at2.cell 0).trans rfl, (hN.tail.tail.tail.at2.cell 1).trans rfl, (hN.tail.tail.tail.at2.cell 2).trans rfl⟩ (fun hHeld => ?_)
      clear hK K
      refine norm_ (a' := ?_) ?_ ?_
      rotate_left
      · show Act.put _ (some 16) _ = _
        simp only [Act.put, List.setIfInBounds_toArray, List.set_cons_zero, List.set_cons_succ, i64_w, i32_w]
        rfl
      exact norm_ (by first | (simp only [putAll, Act.put, List.setIfInBounds_toArray, List.set_cons_zero, List.set_cons_succ]; done) | (simp only [putAll, Act.put, List.setIfInBounds_toArray, List.set_cons_zero, List.set_cons_succ]; rfl)) (hJ2_5_9 (v2_, v5_, (W_).heap.size) _ ⟨hHeld, hN.to3⟩)
  rintro ⟨v2_, v5_, v9_⟩ W_ ⟨hS_, hQ_⟩
  have hSep : Aside0 (Sep w W_ ((Pu ((v2_) = ja)) :: (Pu ((v5_) = jb)) :: (Blk (v9_) 26 #[.int .i64 0, .int .i64 0, .int .u32 0]) :: [Blk p15 26 #[.int .i64 ka, .int .i64 kb, .int .u32 rc], Blk (w.heap.size + 1) 26 #[.int .i64 oa, .int .i64 ob, .int .u32 oc], Blk w.heap.size 26 #[.int .i64 ra, .int .i64 rb, .int .u32 rc]])) := ⟨hQ_⟩
  clear hQ_
  have hHeld : W_.cell? ⟨(w.heap.size + 1), 0, none⟩ = some (.int .i64 oa) ∧ W_.cell? ⟨(w.heap.size + 1), 1, none⟩ = some (.int .i64 ob) ∧ W_.cell? ⟨(w.heap.size + 1), 2, none⟩ = some (.int .u32 oc) := hS_
  obtain ⟨h2_, hT_⟩ := hSep.out.pu
  obtain ⟨h5_, hT2_⟩ := hT_.pu
  have h2s := h2_.symm
  have h5s := h5_.symm
  subst h2s h5s
  obtain ⟨p16, hp_⟩ : ∃ p, p = v9_ := ⟨_, rfl⟩
  subst hp_
  obtain ⟨d0, f0, d1, f1, d2, f2, hS10⟩ := store3 (.int .i64 ja) (.int .i64 jb) (.int .u32 oc) hT2_
  have B2' := Aside0.mk hS10
  clear hS10 hT_ hT2_
  refine norm_ (a' := ?_) ?_ ?_
  rotate_left
  · simp only [putAll, Act.put, List.setIfInBounds_toArray, List.set_cons_zero, List.set_cons_succ]
    rfl
  refine last_ (i := 10) (N := none) #[true, true, true, true, true, true, true, true, true, true, true] rfl rfl (by kernel_rfl) (by decide) (fun K hK => ?_)
  refine skip_ (w1 := ?_) (by rfl) rfl ?_ ?_
  rotate_left
  · go_simp
    rfl
  refine hK.out _ _ ?_
  clear hK K
  refine done_ (by kernel_rfl) ?_
  obtain ⟨wp16, hw_⟩ : ∃ w_, ((W_.setCell ⟨p16, 0, none⟩ (.int .i64 ja)).setCell ⟨p16, 1, none⟩ (.int .i64 jb)).setCell ⟨p16, 2, none⟩ (.int .u32 oc) = w_ := ⟨_, rfl⟩
  have B2 : Aside0 (Sep w wp16 _) := ⟨by have h_ := B2'.out; rw [hw_] at h_; exact h_⟩
  rw [hw_]
  clear hw_ B2' d0 d1 d2 f0 f1 f2
  have HJK := HJ.out
  have B3 := Aside0.mk (Sep.at3 B2.out).tail
  have B3 : Aside0 (Sep w wp16 [Blk p16 26 #[.int .i64 ja, .int .i64 jb, .int .u32 oc], Blk p15 26 #[.int .i64 ka, .int .i64 kb, .int .u32 rc], Blk w.heap.size 26 #[.int .i64 ra, .int .i64 rb, .int .u32 rc]]) := ⟨by have h_ := B2.out.at3; exact h_.tail⟩
  have B3d := Aside0.mk B3.out.drew
  clear HJK
  go_wp2_with fail
  refine start_ (n := 6) (S := fun w' => w'.cell? ⟨p15, 0, none⟩ = some (.int .i64 ka) ∧ w'.cell? ⟨p15, 1, none⟩ = some (.int .i64 kb) ∧ w'.cell? ⟨p15, 2, none⟩ = some (.int .u32 rc) ∧ w'.cell? ⟨p16, 0, none⟩ = some (.int .i64 ja) ∧ w'.cell? ⟨p16, 1, none⟩ = some (.int .i64 jb) ∧ w'.cell? ⟨p16, 2, none⟩ = some (.int .u32 oc)) (ds := [3]) #[false, false, false, false, false, false] (by kernel_rfl) rfl rfl ⟨(B3d.out.at2.cell 0).trans rfl, (B3d.out.at2.cell 1).trans rfl, (B3d.out.at2.cell 2).trans rfl, (B3d.out.cell 0).trans rfl, (B3d.out.cell 1).trans rfl, (B3d.out.cell 2).trans rfl⟩ (fun hHeld => ?_)
  refine take_ (i := 0) (N := some 38) (v := ?_) (a' := ?_) #[true, false, false, false, false, false] rfl rfl (by kernel_rfl) (fun _ _ _ h => h) (Or.inl ⟨by rfl, ?_⟩) hHeld ?_ ?_
  rotate_left
  · rintro w' ⟨s0, s1, s2, s3, s4, s5⟩
    go_simp
    with_reducible rfl
  rotate_left
  · simp only [Act.put, List.setIfInBounds_toArray, List.set_cons_zero, List.set_cons_succ, i64_w, i32_w]
    rfl
  refine take_ (i := 2) (N := some 40) (v := ?_) (a' := ?_) #[true, false, true, false, false, false] rfl rfl (by kernel_rfl) (fun _ _ _ h => h) (Or.inl ⟨by rfl, ?_⟩) hHeld ?_ ?_
  rotate_left
  · rintro w' ⟨s0, s1, s2, s3, s4, s5⟩
    go_simp
    with_reducible rfl
  rotate_left
  · simp only [Act.put, List.setIfInBounds_toArray, List.set_cons_zero, List.set_cons_succ, i64_w, i32_w]
    rfl
  refine one_ (i := 1) (N := some 39) #[true, true, true, false, false, false] rfl rfl (by kernel_rfl) (by decide) (fun K hK => ?_)
  refine goes_ Try.func39 (by kernel_rfl) rfl #[.agg #[.int .i64 ka, .int .i64 kb, .int .u32 rc]] (by rfl) rfl rfl (by simp only [List.map_toArray, List.map_cons, List.map_nil]; rfl) ?_
  with_reducible refine (rroot_ ka kb rc HC.out.1 _).mono ?_
  rintro e w3 ⟨v3, rfl, hS3⟩
  refine ⟨_, rfl, ?_⟩
  obtain ⟨A5, c5, rfl⟩ := hS3.rowN (n := 64) (rootF_len _ _ _)
  have B4 := Aside0.mk (B3d.out.lift1 hS3)
  clear hS3
  refine hK.out _ _ ⟨(B4.out.at3.cell 0).trans rfl, (B4.out.at3.cell 1).trans rfl, (B4.out.at3.cell 2).trans rfl, (B4.out.at2.cell 0).trans rfl, (B4.out.at2.cell 1).trans rfl, (B4.out.at2.cell 2).trans rfl⟩ (fun hHeld => ?_)
  clear hK K
  refine norm_ (a' := ?_) ?_ ?_
  rotate_left
  · show Act.put _ (some 39) _ = _
    simp only [Act.put, List.setIfInBounds_toArray, List.set_cons_zero, List.set_cons_succ, i64_w, i32_w]
    rfl
  refine last_ (i := 3) (N := some 41) #[true, true, true, true, false, false] rfl rfl (by kernel_rfl) (by decide) (fun K hK => ?_)
  refine goes_ Try.func39 (by kernel_rfl) rfl #[.agg #[.int .i64 ja, .int .i64 jb, .int .u32 oc]] (by rfl) rfl rfl (by simp only [List.map_toArray, List.map_cons, List.map_nil]; rfl) ?_
  with_reducible refine (rroot_ ja jb oc HC.out.2.1 _).mono ?_
  rintro e w4 ⟨v4, rfl, hS4⟩
  refine ⟨_, rfl, ?_⟩
  obtain ⟨g6, c6, rfl⟩ := hS4.rowFormN (n := 64) (rootF_len _ _ _) (by decide)
  have B5 := Aside0.mk (B4.out.lift1 hS4)
  clear hS4
  refine hK.out _ _ ?_
  clear hK K
  refine norm_ (a' := ?_) ?_ ?_
  rotate_left
  · show Act.put _ (some 41) _ = _
    simp only [Act.put, List.setIfInBounds_toArray, List.set_cons_zero, List.set_cons_succ, i64_w, i32_w]
    rfl
  refine pure_ (i := 4) (N := some 17) (v := ?_) (a' := ?_) #[true, true, true, true, true, false] rfl rfl (by kernel_rfl) (fun _ _ _ h => h) (Or.inl ⟨by rfl, ?_⟩) ?_ ?_
  rotate_left
  · intro w'
    go_simp
    with_reducible rfl
  rotate_left
  · simp only [Act.put, List.setIfInBounds_toArray, List.set_cons_zero, List.set_cons_succ, i64_w, i32_w]
    rfl
  refine pure_ (i := 5) (N := some 18) (v := ?_) (a' := ?_) #[true, true, true, true, true, true] rfl rfl (by kernel_rfl) (fun _ _ _ h => h) (Or.inl ⟨by rfl, ?_⟩) ?_ ?_
  rotate_left
  · intro w'
    go_simp
    with_reducible rfl
  rotate_left
  · simp only [Act.put, List.setIfInBounds_toArray, List.set_cons_zero, List.set_cons_succ, i64_w, i32_w]
    rfl
  refine done_ (by kernel_rfl) ?_
  have HX : Aside0 (Bytes (rootF (m32 ka) (m32 kb) rc) ∧ (rootF (m32 ka) (m32 kb) rc).length = 64) := ⟨rootF_bytes _ _ _, rootF_len _ _ _⟩
  have HY : Aside0 (Bytes (rootF (m32 ja) (m32 jb) oc) ∧ (rootF (m32 ja) (m32 jb) oc).length = 64) := ⟨rootF_bytes _ _ _, rootF_len _ _ _⟩
  generalize hyy : rootF (m32 ja) (m32 jb) oc = y at B5 HY
  generalize hxx : rootF (m32 ka) (m32 kb) rc = x at B5 HX
  clear hxx hyy
  have hin := Book.withinF_in (n := at_) (lo := 0) (hi := 63) (by decide)
  obtain ⟨q, hq⟩ := Int.eq_ofNat_of_zero_le hin.1
  have hq64 : q < 64 := by omega
  have HQ := Aside0.mk hq
  have hql : (q : Int) < 64 := by omega
  clear hin hq
  go_wp2_with fail
  refine (Book.within_ at_ 0 63 _ (by decide) (by decide) (by decide)).mono ?_
  rintro e w5 ⟨rfl, rfl⟩
  rw [HQ.out]
  obtain ⟨e1, e2⟩ := B5.out.rowCell (enc := Value.int .u8) 0 q hq64
  have hyr : Aside0 (0 ≤ y.getD q 0 ∧ y.getD q 0 ≤ 255) := ⟨by have := HY.out.1.at (q : Int); unfold rd at this; rwa [Int.toNat_natCast] at this⟩
  obtain ⟨u, hu⟩ : ∃ u, y.getD q 0 = u := ⟨_, rfl⟩
  rw [hu] at e1 hyr
  have HXU := Aside0.mk (xor_in hyr.out.1 hyr.out.2 HC.out.2.2.1 HC.out.2.2.2)
  have B6 := Aside0.mk (B5.out.putRow (enc := Value.int .u8) q (Go.bits .xor .u8 u turn))
  have HYB : Aside0 (Bytes (y.set q (Go.bits .xor .u8 u turn)) ∧ (y.set q (Go.bits .xor .u8 u turn)).length = 64) := ⟨set_bytes q HY.out.1 HXU.out.1 HXU.out.2, by rw [List.length_set]; exact HY.out.2⟩
  generalize y.set q (Go.bits .xor .u8 u turn) = y2 at B6 HYB
  clear hu
  go_wp2_with fail
  obtain ⟨nn, hnn⟩ : ∃ nn, Book.withinF n 1 24 = nn := ⟨_, rfl⟩
  obtain ⟨pp, hpp⟩ : ∃ pp, Book.withinF page (-1) 9 = pp := ⟨_, rfl⟩
  have HNP := Aside0.mk (And.intro hnn hpp)
  clear hnn hpp
  refine (Book.within_ n 1 24 _ (by decide) (by decide) (by decide)).mono ?_
  rintro e w6 ⟨rfl, rfl⟩
  rw [HNP.out.1]
  obtain ⟨wq, hwq⟩ : ∃ wq, w4.setCell ⟨g6, q, none⟩ (.int .u8 (Go.bits .xor .u8 u turn)) = wq := ⟨_, rfl⟩
  have B7 : Aside0 (Sep w wq.drew (Row U8 5 (.slice (some ⟨g6, 0, none⟩) 64 c6) y2 :: _)) := ⟨by have h_ := B6.out; rw [hwq] at h_; exact h_.drew⟩
  rw [hwq]
  clear hwq e1 e2
  have l0 := (B7.out.at5.cell 0).trans rfl
  have l1 := (B7.out.at5.cell 1).trans rfl
  have l2 := (B7.out.at5.cell 2).trans rfl
  go_wp2_with fail
  refine start_ (n := 52) (S := fun w' => True) (ds := [0, 3, 5, 8, 15, 19, 23, 27, 33, 39, 43, 44, 46, 49]) #[false, false, false, false, false, false, false, false, false, false, false, false, false, false, false, false, false, false, false, false, false, false, false, false, false, false, false, false, false, false, false, false, false, false, false, false, false, false, false, false, false, false, false, false, false, false, false, false, false, false, false, false] (by kernel_rfl) rfl rfl trivial (fun hHeld => ?_)
  refine pure_ (i := 1) (N := some 56) (v := ?_) (a' := ?_) #[false, true, false, false, false, false, false, false, false, false, false, false, false, false, false, false, false, false, false, false, false, false, false, false, false, false, false, false, false, false, false, false, false, false, false, false, false, false, false, false, false, false, false, false, false, false, false, false, false, false, false, false] rfl rfl (by kernel_rfl) (fun _ _ _ h => h) (Or.inl ⟨by rfl, ?_⟩) ?_ ?_
  rotate_left
  · intro w'
    go_simp
    with_reducible rfl
  rotate_left
  · simp only [Act.put, List.setIfInBounds_toArray, List.set_cons_zero, List.set_cons_succ, i64_w, i32_w]
    rfl
  refine pure_ (i := 2) (N := some 57) (v := ?_) (a' := ?_) #[false, true, true, false, false, false, false, false, false, false, false, false, false, false, false, false, false, false, false, false, false, false, false, false, false, false, false, false, false, false, false, false, false, false, false, false, false, false, false, false, false, false, false, false, false, false, false, false, false, false, false, false] rfl rfl (by kernel_rfl) (fun _ _ _ h => h) (Or.inl ⟨by rfl, ?_⟩) ?_ ?_
  rotate_left
  · intro w'
    go_simp
    with_reducible rfl
  rotate_left
  · simp only [Act.put, List.setIfInBounds_toArray, List.set_cons_zero, List.set_cons_succ, i64_w, i32_w]
    rfl
  refine last_ (i := 0) (N := some 55) #[true, true, true, false, false, false, false, false, false, false, false, false, false, false, false, false, false, false, false, false, false, false, false, false, false, false, false, false, false, false, false, false, false, false, false, false, false, false, false, false, false, false, false, false, false, false, false, false, false, false, false, false] rfl rfl (by kernel_rfl) (by decide) (fun K hK => ?_)
  refine value_ (w1 := ?_) (v := ?_) (by rfl) rfl ?_ ?_
  rotate_left 2
  · go_simp
    constructor
    · rfl
    · rfl
  refine hK.out _ _ ?_
  clear hK K
  refine norm_ (a' := ?_) ?_ ?_
  rotate_left
  · show Act.put _ (some 55) _ = _
    simp only [Act.put, List.setIfInBounds_toArray, List.set_cons_zero, List.set_cons_succ, i64_w, i32_w]
    rfl
  refine last_ (i := 3) (N := some 58) #[true, true, true, true, false, false, false, false, false, false, false, false, false, false, false, false, false, false, false, false, false, false, false, false, false, false, false, false, false, false, false, false, false, false, false, false, false, false, false, false, false, false, false, false, false, false, false, false, false, false, false, false] rfl rfl (by kernel_rfl) (by decide) (fun K hK => ?_)
  refine goes_ Try.func38 (by kernel_rfl) rfl #[.agg #[.int .i64 ra, .int .i64 rb, .int .u32 rc], .int .i64 n, .int .i64 page] (by rfl) rfl rfl (by simp only [List.map_toArray, List.map_cons, List.map_nil]; rfl) ?_
  with_reducible refine (same_ ra rb rc n page HC.out.1 _).mono ?_
  rintro e w3' ⟨rfl, hb3⟩
  refine ⟨_, rfl, ?_⟩
  have B1003 := Aside0.mk (B7.out.below hb3)
  clear hb3 l0 l1 l2
  have l0 := (B1003.out.at4.cell 0).trans rfl
  have l1 := (B1003.out.at4.cell 1).trans rfl
  have l2 := (B1003.out.at4.cell 2).trans rfl
  refine hK.out _ _ ?_
  clear hK K
  refine norm_ (a' := ?_) ?_ ?_
  rotate_left
  · show Act.put _ (some 58) _ = _
    simp only [Act.put, List.setIfInBounds_toArray, List.set_cons_zero, List.set_cons_succ, i64_w, i32_w]
    rfl
  refine pure_ (i := 4) (N := some 59) (v := ?_) (a' := ?_) #[true, true, true, true, true, false, false, false, false, false, false, false, false, false, false, false, false, false, false, false, false, false, false, false, false, false, false, false, false, false, false, false, false, false, false, false, false, false, false, false, false, false, false, false, false, false, false, false, false, false, false, false] rfl rfl (by kernel_rfl) (fun _ _ _ h => h) (Or.inl ⟨by rfl, ?_⟩) ?_ ?_
  rotate_left
  · intro w'
    go_simp
    with_reducible rfl
  rotate_left
  · simp only [Act.put, List.setIfInBounds_toArray, List.set_cons_zero, List.set_cons_succ, i64_w, i32_w]
    rfl
  refine pure_ (i := 6) (N := some 61) (v := ?_) (a' := ?_) #[true, true, true, true, true, false, true, false, false, false, false, false, false, false, false, false, false, false, false, false, false, false, false, false, false, false, false, false, false, false, false, false, false, false, false, false, false, false, false, false, false, false, false, false, false, false, false, false, false, false, false, false] rfl rfl (by kernel_rfl) (fun _ _ _ h => h) (Or.inl ⟨by rfl, ?_⟩) ?_ ?_
  rotate_left
  · intro w'
    go_simp
    with_reducible rfl
  rotate_left
  · simp only [Act.put, List.setIfInBounds_toArray, List.set_cons_zero, List.set_cons_succ, i64_w, i32_w]
    rfl
  refine pure_ (i := 7) (N := some 62) (v := ?_) (a' := ?_) #[true, true, true, true, true, false, true, true, false, false, false, false, false, false, false, false, false, false, false, false, false, false, false, false, false, false, false, false, false, false, false, false, false, false, false, false, false, false, false, false, false, false, false, false, false, false, false, false, false, false, false, false] rfl rfl (by kernel_rfl) (fun _ _ _ h => h) (Or.inl ⟨by rfl, ?_⟩) ?_ ?_
  rotate_left
  · intro w'
    go_simp
    with_reducible rfl
  rotate_left
  · simp only [Act.put, List.setIfInBounds_toArray, List.set_cons_zero, List.set_cons_succ, i64_w, i32_w]
    rfl
  refine last_ (i := 5) (N := some 60) #[true, true, true, true, true, true, true, true, false, false, false, false, false, false, false, false, false, false, false, false, false, false, false, false, false, false, false, false, false, false, false, false, false, false, false, false, false, false, false, false, false, false, false, false, false, false, false, false, false, false, false, false] rfl rfl (by kernel_rfl) (by decide) (fun K hK => ?_)
  refine value_ (w1 := ?_) (v := ?_) (by rfl) rfl ?_ ?_
  rotate_left 2
  · go_simp
    constructor
    · rfl
    · rfl
  refine hK.out _ _ ?_
  clear hK K
  refine norm_ (a' := ?_) ?_ ?_
  rotate_left
  · show Act.put _ (some 60) _ = _
    simp only [Act.put, List.setIfInBounds_toArray, List.set_cons_zero, List.set_cons_succ, i64_w, i32_w]
    rfl
  refine last_ (i := 8) (N := some 63) #[true, true, true, true, true, true, true, true, true, false, false, false, false, false, false, false, false, false, false, false, false, false, false, false, false, false, false, false, false, false, false, false, false, false, false, false, false, false, false, false, false, false, false, false, false, false, false, false, false, false, false, false] rfl rfl (by kernel_rfl) (by decide) (fun K hK => ?_)
  refine goes_ Try.func38 (by kernel_rfl) rfl #[.agg #[.int .i64 ka, .int .i64 kb, .int .u32 rc], .int .i64 nn, .int .i64 page] (by rfl) rfl rfl (by simp only [List.map_toArray, List.map_cons, List.map_nil]; rfl) ?_
  with_reducible refine (same_ ka kb rc nn page HC.out.1 _).mono ?_
  rintro e w8' ⟨rfl, hb8⟩
  refine ⟨_, rfl, ?_⟩
  have B1008 := Aside0.mk (B1003.out.below hb8)
  clear hb8 l0 l1 l2
  refine hK.out _ _ ?_
  clear hK K
  refine norm_ (a' := ?_) ?_ ?_
  rotate_left
  · show Act.put _ (some 63) _ = _
    simp only [Act.put, List.setIfInBounds_toArray, List.set_cons_zero, List.set_cons_succ, i64_w, i32_w]
    rfl
  refine pure_ (i := 9) (N := some 64) (v := ?_) (a' := ?_) #[true, true, true, true, true, true, true, true, true, true, false, false, false, false, false, false, false, false, false, false, false, false, false, false, false, false, false, false, false, false, false, false, false, false, false, false, false, false, false, false, false, false, false, false, false, false, false, false, false, false, false, false] rfl rfl (by kernel_rfl) (fun _ _ _ h => h) (Or.inl ⟨by rfl, ?_⟩) ?_ ?_
  rotate_left
  · intro w'
    go_simp
    with_reducible rfl
  rotate_left
  · simp only [Act.put, List.setIfInBounds_toArray, List.set_cons_zero, List.set_cons_succ, i64_w, i32_w]
    rfl
  refine pure_ (i := 10) (N := some 65) (v := ?_) (a' := ?_) #[true, true, true, true, true, true, true, true, true, true, true, false, false, false, false, false, false, false, false, false, false, false, false, false, false, false, false, false, false, false, false, false, false, false, false, false, false, false, false, false, false, false, false, false, false, false, false, false, false, false, false, false] rfl rfl (by kernel_rfl) (fun _ _ _ h => h) (Or.inl ⟨by rfl, ?_⟩) ?_ ?_
  rotate_left
  · intro w'
    go_simp
    with_reducible rfl
  rotate_left
  · simp only [Act.put, List.setIfInBounds_toArray, List.set_cons_zero, List.set_cons_succ, i64_w, i32_w]
    rfl
  refine pure_ (i := 12) (N := some 67) (v := ?_) (a' := ?_) #[true, true, true, true, true, true, true, true, true, true, true, false, true, false, false, false, false, false, false, false, false, false, false, false, false, false, false, false, false, false, false, false, false, false, false, false, false, false, false, false, false, false, false, false, false, false, false, false, false, false, false, false] rfl rfl (by kernel_rfl) (fun _ _ _ h => h) (Or.inl ⟨by rfl, ?_⟩) ?_ ?_
  rotate_left
  · intro w'
    go_simp
    with_reducible rfl
  rotate_left
  · simp only [Act.put, List.setIfInBounds_toArray, List.set_cons_zero, List.set_cons_succ, i64_w, i32_w]
    rfl
  refine pure_ (i := 13) (N := some 68) (v := ?_) (a' := ?_) #[true, true, true, true, true, true, true, true, true, true, true, false, true, true, false, false, false, false, false, false, false, false, false, false, false, false, false, false, false, false, false, false, false, false, false, false, false, false, false, false, false, false, false, false, false, false, false, false, false, false, false, false] rfl rfl (by kernel_rfl) (fun _ _ _ h => h) (Or.inl ⟨by rfl, ?_⟩) ?_ ?_
  rotate_left
  · intro w'
    go_simp
    with_reducible rfl
  rotate_left
  · simp only [Act.put, List.setIfInBounds_toArray, List.set_cons_zero, List.set_cons_succ, i64_w, i32_w]
    rfl
  refine join_ (σ := Value × Int) 37 #[true, true, true, true, true, true, true, true, true, true, true, true, true, true, true, false, false, false, false, false, false, false, false, false, false, false, false, false, false, false, false, false, false, false, false, false, false, false, false, false, false, false, false, false, false, false, false, false, false, false, false, false] (fun s_ => [(66, s_.1), (69, .int .i64 s_.2)]) (fun s_ w' => Sep w w' ((Pu ((s_.1) = .agg #[.int .i64 ka, .int .i64 kb, .int .u32 rc])) :: (Pu ((s_.2) = pp)) :: [Row U8 5 (.slice (some ⟨g6, 0, none⟩) 64 c6) y2, Row U8 5 (.slice A5 64 c5) x, Blk p16 26 #[.int .i64 ja, .int .i64 jb, .int .u32 oc], Blk p15 26 #[.int .i64 ka, .int .i64 kb, .int .u32 rc], Blk w.heap.size 26 #[.int .i64 ra, .int .i64 rb, .int .u32 rc]])) ?_ ?_
  rotate_left
  · intro hJ11_14
    refine join_ (σ := Value) 38 #[true, true, true, true, true, true, true, true, true, true, true, true, true, true, false, false, false, false, false, false, false, false, false, false, false, false, false, false, false, false, false, false, false, false, false, false, false, false, false, false, false, false, false, false, false, false, false, false, false, false, false, false] (fun s_ => [(66, s_)]) (fun s_ w' => Sep w w' ((Pu ((s_) = .agg #[.int .i64 ka, .int .i64 kb, .int .u32 rc])) :: [Row U8 5 (.slice (some ⟨g6, 0, none⟩) 64 c6) y2, Row U8 5 (.slice A5 64 c5) x, Blk p16 26 #[.int .i64 ja, .int .i64 jb, .int .u32 oc], Blk p15 26 #[.int .i64 ka, .int .i64 kb, .int .u32 rc], Blk w.heap.size 26 #[.int .i64 ra, .int .i64 rb, .int .u32 rc]])) ?_ ?_
    rotate_left
    · intro hJ11
      refine join_ (σ := Int) 38 #[true, true, true, true, true, true, true, true, true, true, true, false, true, true, true, false, false, false, false, false, false, false, false, false, false, false, false, false, false, false, false, false, false, false, false, false, false, false, false, false, false, false, false, false, false, false, false, false, false, false, false, false] (fun s_ => [(69, .int .i64 s_)]) (fun s_ w' => Sep w w' ((Pu ((s_) = pp)) :: [Row U8 5 (.slice (some ⟨g6, 0, none⟩) 64 c6) y2, Row U8 5 (.slice A5 64 c5) x, Blk p16 26 #[.int .i64 ja, .int .i64 jb, .int .u32 oc], Blk p15 26 #[.int .i64 ka, .int .i64 kb, .int .u32 rc], Blk w.heap.size 26 #[.int .i64 ra, .int .i64 rb, .int .u32 rc]])) ?_ ?_
      rotate_left
      · intro hJ14
        refine two_ (i := 11) (j := 14) (Ni := some 66) (Nj := some 69) #[true, true, true, true, true, true, true, true, true, true, true, true, true, true, false, false, false, false, false, false, false, false, false, false, false, false, false, false, false, false, false, false, false, false, false, false, false, false, false, false, false, false, false, false, false, false, false, false, false, false, false, false] #[true, true, true, true, true, true, true, true, true, true, true, false, true, true, true, false, false, false, false, false, false, false, false, false, false, false, false, false, false, false, false, false, false, false, false, false, false, false, false, false, false, false, false, false, false, false, false, false, false, false, false, false] rfl rfl rfl rfl (by kernel_rfl) (by decide) (by decide) (fun K hK => ?_) (fun K hK => ?_)
        · skip
          have l0_ : (w8').cell? ⟨p15, 0, none⟩ = some (.int .i64 ka) := by first | exact ((B1008.out).at4.cell 0).trans rfl | exact ((B1008.out).at5.cell 0).trans rfl
          have l1_ : (w8').cell? ⟨p15, 1, none⟩ = some (.int .i64 kb) := by first | exact ((B1008.out).at4.cell 1).trans rfl | exact ((B1008.out).at5.cell 1).trans rfl
          have l2_ : (w8').cell? ⟨p15, 2, none⟩ = some (.int .u32 rc) := by first | exact ((B1008.out).at4.cell 2).trans rfl | exact ((B1008.out).at5.cell 2).trans rfl
          refine value_ (w1 := ?_) (v := ?_) (by rfl) rfl ?_ ?_
          rotate_left 2
          · go_simp
            constructor
            · rfl
            · rfl
          have hN := (B1008.out).unpu (rfl : (Value.agg #[.int .i64 ka, .int .i64 kb, .int .u32 rc]) = .agg #[.int .i64 ka, .int .i64 kb, .int .u32 rc])
          refine hK.out _ _ trivial (fun hHeld => ?_)
          clear hK K
          refine norm_ (a' := ?_) ?_ ?_
          rotate_left
          · show Act.put _ (some 66) _ = _
            simp only [Act.put, List.setIfInBounds_toArray, List.set_cons_zero, List.set_cons_succ, i64_w, i32_w]
            rfl
          exact norm_ (by first | (simp only [putAll, Act.put, List.setIfInBounds_toArray, List.set_cons_zero, List.set_cons_succ]; done) | (simp only [putAll, Act.put, List.setIfInBounds_toArray, List.set_cons_zero, List.set_cons_succ]; rfl)) (hJ11 (.agg #[.int .i64 ka, .int .i64 kb, .int .u32 rc]) _ hN)
        · skip
          refine goes_ Try.func19 (by kernel_rfl) rfl #[.int .i64 page, .int .i64 (-1), .int .i64 9] (by rfl) rfl rfl (by simp only [List.map_toArray, List.map_cons, List.map_nil]; rfl) ?_
          with_reducible refine (withinK page (-1) 9 pp _ HNP.out.2 (by decide) (by decide) (by decide)).mono ?_
          rintro e wn_ ⟨vn_, rfl, hS_⟩
          refine ⟨_, rfl, ?_⟩
          have hN := (B1008.out).lift1 hS_
          clear hS_
          refine hK.out _ _ trivial (fun hHeld => ?_)
          clear hK K
          refine norm_ (a' := ?_) ?_ ?_
          rotate_left
          · show Act.put _ (some 69) _ = _
            simp only [Act.put, List.setIfInBounds_toArray, List.set_cons_zero, List.set_cons_succ, i64_w, i32_w]
            rfl
          exact norm_ (by first | (simp only [putAll, Act.put, List.setIfInBounds_toArray, List.set_cons_zero, List.set_cons_succ]; done) | (simp only [putAll, Act.put, List.setIfInBounds_toArray, List.set_cons_zero, List.set_cons_succ]; rfl)) (hJ14 vn_ _ hN)
      · skip
        rintro v14_ W_ hQ_
        have hSep : Aside0 (Sep w W_ ((Pu ((v14_) = pp)) :: [Row U8 5 (.slice (some ⟨g6, 0, none⟩) 64 c6) y2, Row U8 5 (.slice A5 64 c5) x, Blk p16 26 #[.int .i64 ja, .int .i64 jb, .int .u32 oc], Blk p15 26 #[.int .i64 ka, .int .i64 kb, .int .u32 rc], Blk w.heap.size 26 #[.int .i64 ra, .int .i64 rb, .int .u32 rc]])) := ⟨hQ_⟩
        clear hQ_
        have hHeld := trivial
        refine norm_ (a' := ?_) ?_ ?_
        rotate_left
        · simp only [putAll, Act.put, List.setIfInBounds_toArray, List.set_cons_zero, List.set_cons_succ]
          rfl
        refine one_ (i := 11) (N := some 66) #[true, true, true, true, true, true, true, true, true, true, true, true, true, true, true, false, false, false, false, false, false, false, false, false, false, false, false, false, false, false, false, false, false, false, false, false, false, false, false, false, false, false, false, false, false, false, false, false, false, false, false, false] rfl rfl (by kernel_rfl) (by decide) (fun K hK => ?_)
        have l0_ : (W_).cell? ⟨p15, 0, none⟩ = some (.int .i64 ka) := by first | exact ((hSep.out).at4.cell 0).trans rfl | exact ((hSep.out).at5.cell 0).trans rfl
        have l1_ : (W_).cell? ⟨p15, 1, none⟩ = some (.int .i64 kb) := by first | exact ((hSep.out).at4.cell 1).trans rfl | exact ((hSep.out).at5.cell 1).trans rfl
        have l2_ : (W_).cell? ⟨p15, 2, none⟩ = some (.int .u32 rc) := by first | exact ((hSep.out).at4.cell 2).trans rfl | exact ((hSep.out).at5.cell 2).trans rfl
        refine value_ (w1 := ?_) (v := ?_) (by rfl) rfl ?_ ?_
        rotate_left 2
        · go_simp
          constructor
          · rfl
          · rfl
        have hN := (hSep.out).unpu (rfl : (Value.agg #[.int .i64 ka, .int .i64 kb, .int .u32 rc]) = .agg #[.int .i64 ka, .int .i64 kb, .int .u32 rc])
        refine hK.out _ _ trivial (fun hHeld => ?_)
        clear hK K
        refine norm_ (a' := ?_) ?_ ?_
        rotate_left
        · show Act.put _ (some 66) _ = _
          simp only [Act.put, List.setIfInBounds_toArray, List.set_cons_zero, List.set_cons_succ, i64_w, i32_w]
          rfl
        exact norm_ (by first | (simp only [putAll, Act.put, List.setIfInBounds_toArray, List.set_cons_zero, List.set_cons_succ]; done) | (simp only [putAll, Act.put, List.setIfInBounds_toArray, List.set_cons_zero, List.set_cons_succ]; rfl)) (hJ11_14 (.agg #[.int .i64 ka, .int .i64 kb, .int .u32 rc], v14_) _ hN)
    · skip
      rintro v11_ W_ hQ_
      have hSep : Aside0 (Sep w W_ ((Pu ((v11_) = .agg #[.int .i64 ka, .int .i64 kb, .int .u32 rc])) :: [Row U8 5 (.slice (some ⟨g6, 0, none⟩) 64 c6) y2, Row U8 5 (.slice A5 64 c5) x, Blk p16 26 #[.int .i64 ja, .int .i64 jb, .int .u32 oc], Blk p15 26 #[.int .i64 ka, .int .i64 kb, .int .u32 rc], Blk w.heap.size 26 #[.int .i64 ra, .int .i64 rb, .int .u32 rc]])) := ⟨hQ_⟩
      clear hQ_
      have hHeld := trivial
      refine norm_ (a' := ?_) ?_ ?_
      rotate_left
      · simp only [putAll, Act.put, List.setIfInBounds_toArray, List.set_cons_zero, List.set_cons_succ]
        rfl
      refine one_ (i := 14) (N := some 69) #[true, true, true, true, true, true, true, true, true, true, true, true, true, true, true, false, false, false, false, false, false, false, false, false, false, false, false, false, false, false, false, false, false, false, false, false, false, false, false, false, false, false, false, false, false, false, false, false, false, false, false, false] rfl rfl (by kernel_rfl) (by decide) (fun K hK => ?_)
      refine goes_ Try.func19 (by kernel_rfl) rfl #[.int .i64 page, .int .i64 (-1), .int .i64 9] (by rfl) rfl rfl (by simp only [List.map_toArray, List.map_cons, List.map_nil]; rfl) ?_
      with_reducible refine (withinK page (-1) 9 pp _ HNP.out.2 (by decide) (by decide) (by decide)).mono ?_
      rintro e wn_ ⟨vn_, rfl, hS_⟩
      refine ⟨_, rfl, ?_⟩
      have hN := (hSep.out).lift1 hS_
      clear hS_
      refine hK.out _ _ trivial (fun hHeld => ?_)
      clear hK K
      refine norm_ (a' := ?_) ?_ ?_
      rotate_left
      · show Act.put _ (some 69) _ = _
        simp only [Act.put, List.setIfInBounds_toArray, List.set_cons_zero, List.set_cons_succ, i64_w, i32_w]
        rfl
      exact norm_ (by first | (simp only [putAll, Act.put, List.setIfInBounds_toArray, List.set_cons_zero, List.set_cons_succ]; done) | (simp only [putAll, Act.put, List.setIfInBounds_toArray, List.set_cons_zero, List.set_cons_succ]; rfl)) (hJ11_14 (v11_, vn_) _ hN.at2)
  rintro ⟨v11_, v14_⟩ W_ hQ_
  have hSep : Aside0 (Sep w W_ ((Pu ((v11_) = .agg #[.int .i64 ka, .int .i64 kb, .int .u32 rc])) :: (Pu ((v14_) = pp)) :: [Row U8 5 (.slice (some ⟨g6, 0, none⟩) 64 c6) y2, Row U8 5 (.slice A5 64 c5) x, Blk p16 26 #[.int .i64 ja, .int .i64 jb, .int .u32 oc], Blk p15 26 #[.int .i64 ka, .int .i64 kb, .int .u32 rc], Blk w.heap.size 26 #[.int .i64 ra, .int .i64 rb, .int .u32 rc]])) := ⟨hQ_⟩
  clear hQ_
  have hHeld := trivial
  obtain ⟨h11_, hT_⟩ := hSep.out.pu
  obtain ⟨h14_, hT2_⟩ := hT_.pu
  have h14s := h14_.symm
  subst h11_ h14s
  have B1014 := Aside0.mk hT2_
  clear hT_ hT2_
  refine norm_ (a' := ?_) ?_ ?_
  rotate_left
  · simp only [putAll, Act.put, List.setIfInBounds_toArray, List.set_cons_zero, List.set_cons_succ]
    rfl
  refine last_ (i := 15) (N := some 70) #[true, true, true, true, true, true, true, true, true, true, true, true, true, true, true, true, false, false, false, false, false, false, false, false, false, false, false, false, false, false, false, false, false, false, false, false, false, false, false, false, false, false, false, false, false, false, false, false, false, false, false, false] rfl rfl (by kernel_rfl) (by decide) (fun K hK => ?_)
  refine goes_ Try.func38 (by kernel_rfl) rfl #[.agg #[.int .i64 ka, .int .i64 kb, .int .u32 rc], .int .i64 nn, .int .i64 pp] (by rfl) rfl rfl (by simp only [List.map_toArray, List.map_cons, List.map_nil]; rfl) ?_
  with_reducible refine (same_ ka kb rc nn pp HC.out.1 _).mono ?_
  rintro e w15' ⟨rfl, hb15⟩
  refine ⟨_, rfl, ?_⟩
  have B1015 := Aside0.mk (B1014.out.below hb15)
  clear hb15
  refine hK.out _ _ ?_
  clear hK K
  refine norm_ (a' := ?_) ?_ ?_
  rotate_left
  · show Act.put _ (some 70) _ = _
    simp only [Act.put, List.setIfInBounds_toArray, List.set_cons_zero, List.set_cons_succ, i64_w, i32_w]
    rfl
  refine pure_ (i := 16) (N := some 71) (v := ?_) (a' := ?_) #[true, true, true, true, true, true, true, true, true, true, true, true, true, true, true, true, true, false, false, false, false, false, false, false, false, false, false, false, false, false, false, false, false, false, false, false, false, false, false, false, false, false, false, false, false, false, false, false, false, false, false, false] rfl rfl (by kernel_rfl) (fun _ _ _ h => h) (Or.inl ⟨by rfl, ?_⟩) ?_ ?_
  rotate_left
  · intro w'
    go_simp
    with_reducible rfl
  rotate_left
  · simp only [Act.put, List.setIfInBounds_toArray, List.set_cons_zero, List.set_cons_succ, i64_w, i32_w]
    rfl
  refine pure_ (i := 17) (N := some 72) (v := ?_) (a' := ?_) #[true, true, true, true, true, true, true, true, true, true, true, true, true, true, true, true, true, true, false, false, false, false, false, false, false, false, false, false, false, false, false, false, false, false, false, false, false, false, false, false, false, false, false, false, false, false, false, false, false, false, false, false] rfl rfl (by kernel_rfl) (fun _ _ _ h => h) (Or.inl ⟨by rfl, ?_⟩) ?_ ?_
  rotate_left
  · intro w'
    go_simp
    with_reducible rfl
  rotate_left
  · simp only [Act.put, List.setIfInBounds_toArray, List.set_cons_zero, List.set_cons_succ, i64_w, i32_w]
    rfl
  refine pure_ (i := 18) (N := some 73) (v := ?_) (a' := ?_) #[true, true, true, true, true, true, true, true, true, true, true, true, true, true, true, true, true, true, true, false, false, false, false, false, false, false, false, false, false, false, false, false, false, false, false, false, false, false, false, false, false, false, false, false, false, false, false, false, false, false, false, false] rfl rfl (by kernel_rfl) (fun _ _ _ h => h) (Or.inl ⟨by rfl, ?_⟩) ?_ ?_
  rotate_left
  · intro w'
    go_simp
    with_reducible rfl
  rotate_left
  · simp only [Act.put, List.setIfInBounds_toArray, List.set_cons_zero, List.set_cons_succ, i64_w, i32_w]
    rfl
  refine last_ (i := 19) (N := some 74) #[true, true, true, true, true, true, true, true, true, true, true, true, true, true, true, true, true, true, true, true, false, false, false, false, false, false, false, false, false, false, false, false, false, false, false, false, false, false, false, false, false, false, false, false, false, false, false, false, false, false, false, false] rfl rfl (by kernel_rfl) (by decide) (fun K hK => ?_)
  refine goes_ Try.func40 (by kernel_rfl) rfl #[.slice A5 64 c5] (by rfl) rfl rfl (by simp only [List.map_toArray, List.map_cons, List.map_nil]; rfl) ?_
  with_reducible refine (reads_ B1015.out.at2.rowC' B1015.out.at2.rowC.2.1 HX.out.1).mono ?_
  rintro e w19' ⟨rfl, hb19⟩
  refine ⟨_, rfl, ?_⟩
  have B1019 := Aside0.mk (B1015.out.below hb19)
  clear hb19
  refine hK.out _ _ ?_
  clear hK K
  refine norm_ (a' := ?_) ?_ ?_
  rotate_left
  · show Act.put _ (some 74) _ = _
    simp only [Act.put, List.setIfInBounds_toArray, List.set_cons_zero, List.set_cons_succ, i64_w, i32_w]
    rfl
  refine pure_ (i := 20) (N := some 75) (v := ?_) (a' := ?_) #[true, true, true, true, true, true, true, true, true, true, true, true, true, true, true, true, true, true, true, true, true, false, false, false, false, false, false, false, false, false, false, false, false, false, false, false, false, false, false, false, false, false, false, false, false, false, false, false, false, false, false, false] rfl rfl (by kernel_rfl) (fun _ _ _ h => h) (Or.inl ⟨by rfl, ?_⟩) ?_ ?_
  rotate_left
  · intro w'
    go_simp
    with_reducible rfl
  rotate_left
  · simp only [Act.put, List.setIfInBounds_toArray, List.set_cons_zero, List.set_cons_succ, i64_w, i32_w]
    rfl
  refine pure_ (i := 21) (N := some 76) (v := ?_) (a' := ?_) #[true, true, true, true, true, true, true, true, true, true, true, true, true, true, true, true, true, true, true, true, true, true, false, false, false, false, false, false, false, false, false, false, false, false, false, false, false, false, false, false, false, false, false, false, false, false, false, false, false, false, false, false] rfl rfl (by kernel_rfl) (fun _ _ _ h => h) (Or.inl ⟨by rfl, ?_⟩) ?_ ?_
  rotate_left
  · intro w'
    go_simp
    with_reducible rfl
  rotate_left
  · simp only [Act.put, List.setIfInBounds_toArray, List.set_cons_zero, List.set_cons_succ, i64_w, i32_w]
    rfl
  refine pure_ (i := 22) (N := some 77) (v := ?_) (a' := ?_) #[true, true, true, true, true, true, true, true, true, true, true, true, true, true, true, true, true, true, true, true, true, true, true, false, false, false, false, false, false, false, false, false, false, false, false, false, false, false, false, false, false, false, false, false, false, false, false, false, false, false, false, false] rfl rfl (by kernel_rfl) (fun _ _ _ h => h) (Or.inl ⟨by rfl, ?_⟩) ?_ ?_
  rotate_left
  · intro w'
    go_simp
    with_reducible rfl
  rotate_left
  · simp only [Act.put, List.setIfInBounds_toArray, List.set_cons_zero, List.set_cons_succ, i64_w, i32_w]
    rfl
  refine last_ (i := 23) (N := some 78) #[true, true, true, true, true, true, true, true, true, true, true, true, true, true, true, true, true, true, true, true, true, true, true, true, false, false, false, false, false, false, false, false, false, false, false, false, false, false, false, false, false, false, false, false, false, false, false, false, false, false, false, false] rfl rfl (by kernel_rfl) (by decide) (fun K hK => ?_)
  refine goes_ Try.func40 (by kernel_rfl) rfl #[.slice (some ⟨g6, 0, none⟩) 64 c6] (by rfl) rfl rfl (by simp only [List.map_toArray, List.map_cons, List.map_nil]; rfl) ?_
  with_reducible refine (reads_ B1019.out.rowC' B1019.out.rowC.2.1 HYB.out.1).mono ?_
  rintro e w23' ⟨rfl, hb23⟩
  refine ⟨_, rfl, ?_⟩
  have B1023 := Aside0.mk (B1019.out.below hb23)
  clear hb23
  refine hK.out _ _ ?_
  clear hK K
  refine norm_ (a' := ?_) ?_ ?_
  rotate_left
  · show Act.put _ (some 78) _ = _
    simp only [Act.put, List.setIfInBounds_toArray, List.set_cons_zero, List.set_cons_succ, i64_w, i32_w]
    rfl
  refine pure_ (i := 24) (N := some 79) (v := ?_) (a' := ?_) #[true, true, true, true, true, true, true, true, true, true, true, true, true, true, true, true, true, true, true, true, true, true, true, true, true, false, false, false, false, false, false, false, false, false, false, false, false, false, false, false, false, false, false, false, false, false, false, false, false, false, false, false] rfl rfl (by kernel_rfl) (fun _ _ _ h => h) (Or.inl ⟨by rfl, ?_⟩) ?_ ?_
  rotate_left
  · intro w'
    go_simp
    with_reducible rfl
  rotate_left
  · simp only [Act.put, List.setIfInBounds_toArray, List.set_cons_zero, List.set_cons_succ, i64_w, i32_w]
    rfl
  refine pure_ (i := 25) (N := some 80) (v := ?_) (a' := ?_) #[true, true, true, true, true, true, true, true, true, true, true, true, true, true, true, true, true, true, true, true, true, true, true, true, true, true, false, false, false, false, false, false, false, false, false, false, false, false, false, false, false, false, false, false, false, false, false, false, false, false, false, false] rfl rfl (by kernel_rfl) (fun _ _ _ h => h) (Or.inl ⟨by rfl, ?_⟩) ?_ ?_
  rotate_left
  · intro w'
    go_simp
    with_reducible rfl
  rotate_left
  · simp only [Act.put, List.setIfInBounds_toArray, List.set_cons_zero, List.set_cons_succ, i64_w, i32_w]
    rfl
  refine pure_ (i := 26) (N := some 81) (v := ?_) (a' := ?_) #[true, true, true, true, true, true, true, true, true, true, true, true, true, true, true, true, true, true, true, true, true, true, true, true, true, true, true, false, false, false, false, false, false, false, false, false, false, false, false, false, false, false, false, false, false, false, false, false, false, false, false, false] rfl rfl (by kernel_rfl) (fun _ _ _ h => h) (Or.inl ⟨by rfl, ?_⟩) ?_ ?_
  rotate_left
  · intro w'
    go_simp
    with_reducible rfl
  rotate_left
  · simp only [Act.put, List.setIfInBounds_toArray, List.set_cons_zero, List.set_cons_succ, i64_w, i32_w]
    rfl
  refine last_ (i := 27) (N := some 82) #[true, true, true, true, true, true, true, true, true, true, true, true, true, true, true, true, true, true, true, true, true, true, true, true, true, true, true, true, false, false, false, false, false, false, false, false, false, false, false, false, false, false, false, false, false, false, false, false, false, false, false, false] rfl rfl (by kernel_rfl) (by decide) (fun K hK => ?_)
  refine goes_ Try.func40 (by kernel_rfl) rfl #[.slice A4 n4 c4] (by rfl) rfl rfl (by simp only [List.map_toArray, List.map_cons, List.map_nil]; rfl) ?_
  with_reducible refine (reads_ (Kd.C_below H4.out.1 B1023.out.toBelow) H4.out.2.1 H4.out.2.2).mono ?_
  rintro e w27' ⟨rfl, hb27⟩
  refine ⟨_, rfl, ?_⟩
  have B1027 := Aside0.mk (B1023.out.below hb27)
  clear hb27
  refine hK.out _ _ ?_
  clear hK K
  refine norm_ (a' := ?_) ?_ ?_
  rotate_left
  · show Act.put _ (some 82) _ = _
    simp only [Act.put, List.setIfInBounds_toArray, List.set_cons_zero, List.set_cons_succ, i64_w, i32_w]
    rfl
  refine pure_ (i := 28) (N := some 83) (v := ?_) (a' := ?_) #[true, true, true, true, true, true, true, true, true, true, true, true, true, true, true, true, true, true, true, true, true, true, true, true, true, true, true, true, true, false, false, false, false, false, false, false, false, false, false, false, false, false, false, false, false, false, false, false, false, false, false, false] rfl rfl (by kernel_rfl) (fun _ _ _ h => h) (Or.inl ⟨by rfl, ?_⟩) ?_ ?_
  rotate_left
  · intro w'
    go_simp
    with_reducible rfl
  rotate_left
  · simp only [Act.put, List.setIfInBounds_toArray, List.set_cons_zero, List.set_cons_succ, i64_w, i32_w]
    rfl
  refine pure_ (i := 29) (N := some 84) (v := ?_) (a' := ?_) #[true, true, true, true, true, true, true, true, true, true, true, true, true, true, true, true, true, true, true, true, true, true, true, true, true, true, true, true, true, true, false, false, false, false, false, false, false, false, false, false, false, false, false, false, false, false, false, false, false, false, false, false] rfl rfl (by kernel_rfl) (fun _ _ _ h => h) (Or.inl ⟨by rfl, ?_⟩) ?_ ?_
  rotate_left
  · intro w'
    go_simp
    with_reducible rfl
  rotate_left
  · simp only [Act.put, List.setIfInBounds_toArray, List.set_cons_zero, List.set_cons_succ, i64_w, i32_w]
    rfl
  refine pure_ (i := 30) (N := some 85) (v := ?_) (a' := ?_) #[true, true, true, true, true, true, true, true, true, true, true, true, true, true, true, true, true, true, true, true, true, true, true, true, true, true, true, true, true, true, true, false, false, false, false, false, false, false, false, false, false, false, false, false, false, false, false, false, false, false, false, false] rfl rfl (by kernel_rfl) (fun _ _ _ h => h) (Or.inl ⟨by rfl, ?_⟩) ?_ ?_
  rotate_left
  · intro w'
    go_simp
    with_reducible rfl
  rotate_left
  · simp only [Act.put, List.setIfInBounds_toArray, List.set_cons_zero, List.set_cons_succ, i64_w, i32_w]
    rfl
  refine pure_ (i := 31) (N := some 86) (v := ?_) (a' := ?_) #[true, true, true, true, true, true, true, true, true, true, true, true, true, true, true, true, true, true, true, true, true, true, true, true, true, true, true, true, true, true, true, true, false, false, false, false, false, false, false, false, false, false, false, false, false, false, false, false, false, false, false, false] rfl rfl (by kernel_rfl) (fun _ _ _ h => h) (Or.inl ⟨by rfl, ?_⟩) ?_ ?_
  rotate_left
  · intro w'
    go_simp
    with_reducible rfl
  rotate_left
  · simp only [Act.put, List.setIfInBounds_toArray, List.set_cons_zero, List.set_cons_succ, i64_w, i32_w]
    rfl
  refine pure_ (i := 32) (N := some 87) (v := ?_) (a' := ?_) #[true, true, true, true, true, true, true, true, true, true, true, true, true, true, true, true, true, true, true, true, true, true, true, true, true, true, true, true, true, true, true, true, true, false, false, false, false, false, false, false, false, false, false, false, false, false, false, false, false, false, false, false] rfl rfl (by kernel_rfl) (fun _ _ _ h => h) (Or.inl ⟨by rfl, ?_⟩) ?_ ?_
  rotate_left
  · intro w'
    go_simp
    with_reducible rfl
  rotate_left
  · simp only [Act.put, List.setIfInBounds_toArray, List.set_cons_zero, List.set_cons_succ, i64_w, i32_w]
    rfl
  refine last_ (i := 33) (N := some 88) #[true, true, true, true, true, true, true, true, true, true, true, true, true, true, true, true, true, true, true, true, true, true, true, true, true, true, true, true, true, true, true, true, true, true, false, false, false, false, false, false, false, false, false, false, false, false, false, false, false, false, false, false] rfl rfl (by kernel_rfl) (by decide) (fun K hK => ?_)
  refine goes_ Try.func41 (by kernel_rfl) rfl #[.int .i64 nn, .slice A5 64 c5, .slice (some ⟨g6, 0, none⟩) 64 c6] (by rfl) rfl rfl (by simp only [List.map_toArray, List.map_cons, List.map_nil]; rfl) ?_
  with_reducible refine (lbest_ B1027.out.at2.rowC' B1027.out.at2.rowC.2.1 HX.out.1 B1027.out.rowC' B1027.out.rowC.2.1 HYB.out.1).mono ?_
  rintro e w33' ⟨rfl, hb33⟩
  refine ⟨_, rfl, ?_⟩
  have B1033 := Aside0.mk (B1027.out.below hb33)
  clear hb33
  refine hK.out _ _ ?_
  clear hK K
  refine norm_ (a' := ?_) ?_ ?_
  rotate_left
  · show Act.put _ (some 88) _ = _
    simp only [Act.put, List.setIfInBounds_toArray, List.set_cons_zero, List.set_cons_succ, i64_w, i32_w]
    rfl
  refine pure_ (i := 34) (N := some 89) (v := ?_) (a' := ?_) #[true, true, true, true, true, true, true, true, true, true, true, true, true, true, true, true, true, true, true, true, true, true, true, true, true, true, true, true, true, true, true, true, true, true, true, false, false, false, false, false, false, false, false, false, false, false, false, false, false, false, false, false] rfl rfl (by kernel_rfl) (fun _ _ _ h => h) (Or.inl ⟨by rfl, ?_⟩) ?_ ?_
  rotate_left
  · intro w'
    go_simp
    with_reducible rfl
  rotate_left
  · simp only [Act.put, List.setIfInBounds_toArray, List.set_cons_zero, List.set_cons_succ, i64_w, i32_w]
    rfl
  refine pure_ (i := 35) (N := some 90) (v := ?_) (a' := ?_) #[true, true, true, true, true, true, true, true, true, true, true, true, true, true, true, true, true, true, true, true, true, true, true, true, true, true, true, true, true, true, true, true, true, true, true, true, false, false, false, false, false, false, false, false, false, false, false, false, false, false, false, false] rfl rfl (by kernel_rfl) (fun _ _ _ h => h) (Or.inl ⟨by rfl, ?_⟩) ?_ ?_
  rotate_left
  · intro w'
    go_simp
    with_reducible rfl
  rotate_left
  · simp only [Act.put, List.setIfInBounds_toArray, List.set_cons_zero, List.set_cons_succ, i64_w, i32_w]
    rfl
  refine pure_ (i := 36) (N := some 91) (v := ?_) (a' := ?_) #[true, true, true, true, true, true, true, true, true, true, true, true, true, true, true, true, true, true, true, true, true, true, true, true, true, true, true, true, true, true, true, true, true, true, true, true, true, false, false, false, false, false, false, false, false, false, false, false, false, false, false, false] rfl rfl (by kernel_rfl) (fun _ _ _ h => h) (Or.inl ⟨by rfl, ?_⟩) ?_ ?_
  rotate_left
  · intro w'
    go_simp
    with_reducible rfl
  rotate_left
  · simp only [Act.put, List.setIfInBounds_toArray, List.set_cons_zero, List.set_cons_succ, i64_w, i32_w]
    rfl
  refine pure_ (i := 37) (N := some 92) (v := ?_) (a' := ?_) #[true, true, true, true, true, true, true, true, true, true, true, true, true, true, true, true, true, true, true, true, true, true, true, true, true, true, true, true, true, true, true, true, true, true, true, true, true, true, false, false, false, false, false, false, false, false, false, false, false, false, false, false] rfl rfl (by kernel_rfl) (fun _ _ _ h => h) (Or.inl ⟨by rfl, ?_⟩) ?_ ?_
  rotate_left
  · intro w'
    go_simp
    with_reducible rfl
  rotate_left
  · simp only [Act.put, List.setIfInBounds_toArray, List.set_cons_zero, List.set_cons_succ, i64_w, i32_w]
    rfl
  refine pure_ (i := 38) (N := some 93) (v := ?_) (a' := ?_) #[true, true, true, true, true, true, true, true, true, true, true, true, true, true, true, true, true, true, true, true, true, true, true, true, true, true, true, true, true, true, true, true, true, true, true, true, true, true, true, false, false, false, false, false, false, false, false, false, false, false, false, false] rfl rfl (by kernel_rfl) (fun _ _ _ h => h) (Or.inl ⟨by rfl, ?_⟩) ?_ ?_
  rotate_left
  · intro w'
    go_simp
    with_reducible rfl
  rotate_left
  · simp only [Act.put, List.setIfInBounds_toArray, List.set_cons_zero, List.set_cons_succ, i64_w, i32_w]
    rfl
  refine last_ (i := 39) (N := some 94) #[true, true, true, true, true, true, true, true, true, true, true, true, true, true, true, true, true, true, true, true, true, true, true, true, true, true, true, true, true, true, true, true, true, true, true, true, true, true, true, true, false, false, false, false, false, false, false, false, false, false, false, false] rfl rfl (by kernel_rfl) (by decide) (fun K hK => ?_)
  refine goes_ Try.func41 (by kernel_rfl) rfl #[.int .i64 nn, .slice (some ⟨g6, 0, none⟩) 64 c6, .slice A5 64 c5] (by rfl) rfl rfl (by simp only [List.map_toArray, List.map_cons, List.map_nil]; rfl) ?_
  with_reducible refine (lbest_ B1033.out.rowC' B1033.out.rowC.2.1 HYB.out.1 B1033.out.at2.rowC' B1033.out.at2.rowC.2.1 HX.out.1).mono ?_
  rintro e w39' ⟨rfl, hb39⟩
  refine ⟨_, rfl, ?_⟩
  have B1039 := Aside0.mk (B1033.out.below hb39)
  clear hb39
  have l0 := (B1039.out.at3.cell 0).trans rfl
  have l1 := (B1039.out.at3.cell 1).trans rfl
  have l2 := (B1039.out.at3.cell 2).trans rfl
  refine hK.out _ _ ?_
  clear hK K
  refine norm_ (a' := ?_) ?_ ?_
  rotate_left
  · show Act.put _ (some 94) _ = _
    simp only [Act.put, List.setIfInBounds_toArray, List.set_cons_zero, List.set_cons_succ, i64_w, i32_w]
    rfl
  refine pure_ (i := 40) (N := some 95) (v := ?_) (a' := ?_) #[true, true, true, true, true, true, true, true, true, true, true, true, true, true, true, true, true, true, true, true, true, true, true, true, true, true, true, true, true, true, true, true, true, true, true, true, true, true, true, true, true, false, false, false, false, false, false, false, false, false, false, false] rfl rfl (by kernel_rfl) (fun _ _ _ h => h) (Or.inl ⟨by rfl, ?_⟩) ?_ ?_
  rotate_left
  · intro w'
    go_simp
    with_reducible rfl
  rotate_left
  · simp only [Act.put, List.setIfInBounds_toArray, List.set_cons_zero, List.set_cons_succ, i64_w, i32_w]
    rfl
  refine pure_ (i := 41) (N := some 96) (v := ?_) (a' := ?_) #[true, true, true, true, true, true, true, true, true, true, true, true, true, true, true, true, true, true, true, true, true, true, true, true, true, true, true, true, true, true, true, true, true, true, true, true, true, true, true, true, true, true, false, false, false, false, false, false, false, false, false, false] rfl rfl (by kernel_rfl) (fun _ _ _ h => h) (Or.inl ⟨by rfl, ?_⟩) ?_ ?_
  rotate_left
  · intro w'
    go_simp
    with_reducible rfl
  rotate_left
  · simp only [Act.put, List.setIfInBounds_toArray, List.set_cons_zero, List.set_cons_succ, i64_w, i32_w]
    rfl
  refine pure_ (i := 42) (N := some 97) (v := ?_) (a' := ?_) #[true, true, true, true, true, true, true, true, true, true, true, true, true, true, true, true, true, true, true, true, true, true, true, true, true, true, true, true, true, true, true, true, true, true, true, true, true, true, true, true, true, true, true, false, false, false, false, false, false, false, false, false] rfl rfl (by kernel_rfl) (fun _ _ _ h => h) (Or.inl ⟨by rfl, ?_⟩) ?_ ?_
  rotate_left
  · intro w'
    go_simp
    with_reducible rfl
  rotate_left
  · simp only [Act.put, List.setIfInBounds_toArray, List.set_cons_zero, List.set_cons_succ, i64_w, i32_w]
    rfl
  refine pure_ (i := 45) (N := some 100) (v := ?_) (a' := ?_) #[true, true, true, true, true, true, true, true, true, true, true, true, true, true, true, true, true, true, true, true, true, true, true, true, true, true, true, true, true, true, true, true, true, true, true, true, true, true, true, true, true, true, true, false, false, true, false, false, false, false, false, false] rfl rfl (by kernel_rfl) (fun _ _ _ h => h) (Or.inl ⟨by rfl, ?_⟩) ?_ ?_
  rotate_left
  · intro w'
    go_simp
    with_reducible rfl
  rotate_left
  · simp only [Act.put, List.setIfInBounds_toArray, List.set_cons_zero, List.set_cons_succ, i64_w, i32_w]
    rfl
  refine last_ (i := 43) (N := some 98) #[true, true, true, true, true, true, true, true, true, true, true, true, true, true, true, true, true, true, true, true, true, true, true, true, true, true, true, true, true, true, true, true, true, true, true, true, true, true, true, true, true, true, true, true, false, true, false, false, false, false, false, false] rfl rfl (by kernel_rfl) (by decide) (fun K hK => ?_)
  refine value_ (w1 := ?_) (v := ?_) (by rfl) rfl ?_ ?_
  rotate_left 2
  · go_simp
    constructor
    · rfl
    · rfl
  refine hK.out _ _ ?_
  clear hK K
  refine norm_ (a' := ?_) ?_ ?_
  rotate_left
  · show Act.put _ (some 98) _ = _
    simp only [Act.put, List.setIfInBounds_toArray, List.set_cons_zero, List.set_cons_succ, i64_w, i32_w]
    rfl
  refine last_ (i := 44) (N := some 99) #[true, true, true, true, true, true, true, true, true, true, true, true, true, true, true, true, true, true, true, true, true, true, true, true, true, true, true, true, true, true, true, true, true, true, true, true, true, true, true, true, true, true, true, true, true, true, false, false, false, false, false, false] rfl rfl (by kernel_rfl) (by decide) (fun K hK => ?_)
  refine goes_ Try.func39 (by kernel_rfl) rfl #[.agg #[.int .i64 ja, .int .i64 jb, .int .u32 oc]] (by rfl) rfl rfl (by simp only [List.map_toArray, List.map_cons, List.map_nil]; rfl) ?_
  with_reducible refine (rroot_ ja jb oc HC.out.2.1 _).mono ?_
  rintro e w44' ⟨v44, rfl, hS44⟩
  refine ⟨_, rfl, ?_⟩
  obtain ⟨A44, c44, rfl⟩ := hS44.rowN (n := 64) (rootF_len _ _ _)
  have B44 := Aside0.mk (B1039.out.lift1 hS44)
  have B1044 := Aside0.mk B44.out.tail
  clear hS44 l0 l1 l2
  refine hK.out _ _ ?_
  clear hK K
  refine norm_ (a' := ?_) ?_ ?_
  rotate_left
  · show Act.put _ (some 99) _ = _
    simp only [Act.put, List.setIfInBounds_toArray, List.set_cons_zero, List.set_cons_succ, i64_w, i32_w]
    rfl
  refine last_ (i := 46) (N := some 101) #[true, true, true, true, true, true, true, true, true, true, true, true, true, true, true, true, true, true, true, true, true, true, true, true, true, true, true, true, true, true, true, true, true, true, true, true, true, true, true, true, true, true, true, true, true, true, true, false, false, false, false, false] rfl rfl (by kernel_rfl) (by decide) (fun K hK => ?_)
  refine goes_ Try.func41 (by kernel_rfl) rfl #[.int .i64 nn, .slice A44 64 c44, .slice A5 64 c5] (by rfl) rfl rfl (by simp only [List.map_toArray, List.map_cons, List.map_nil]; rfl) ?_
  with_reducible refine (lbest_ B44.out.rowC' B44.out.rowC.2.1 (rootF_bytes _ _ _) B44.out.at3.rowC' B44.out.at3.rowC.2.1 HX.out.1).mono ?_
  rintro e w46' ⟨rfl, hb46⟩
  refine ⟨_, rfl, ?_⟩
  have B1046 := Aside0.mk (B1044.out.below hb46)
  clear hb46
  refine hK.out _ _ ?_
  clear hK K
  refine norm_ (a' := ?_) ?_ ?_
  rotate_left
  · show Act.put _ (some 101) _ = _
    simp only [Act.put, List.setIfInBounds_toArray, List.set_cons_zero, List.set_cons_succ, i64_w, i32_w]
    rfl
  refine pure_ (i := 47) (N := some 102) (v := ?_) (a' := ?_) #[true, true, true, true, true, true, true, true, true, true, true, true, true, true, true, true, true, true, true, true, true, true, true, true, true, true, true, true, true, true, true, true, true, true, true, true, true, true, true, true, true, true, true, true, true, true, true, true, false, false, false, false] rfl rfl (by kernel_rfl) (fun _ _ _ h => h) (Or.inl ⟨by rfl, ?_⟩) ?_ ?_
  rotate_left
  · intro w'
    go_simp
    with_reducible rfl
  rotate_left
  · simp only [Act.put, List.setIfInBounds_toArray, List.set_cons_zero, List.set_cons_succ, i64_w, i32_w]
    rfl
  refine pure_ (i := 48) (N := some 103) (v := ?_) (a' := ?_) #[true, true, true, true, true, true, true, true, true, true, true, true, true, true, true, true, true, true, true, true, true, true, true, true, true, true, true, true, true, true, true, true, true, true, true, true, true, true, true, true, true, true, true, true, true, true, true, true, true, false, false, false] rfl rfl (by kernel_rfl) (fun _ _ _ h => h) (Or.inl ⟨by rfl, ?_⟩) ?_ ?_
  rotate_left
  · intro w'
    go_simp
    with_reducible rfl
  rotate_left
  · simp only [Act.put, List.setIfInBounds_toArray, List.set_cons_zero, List.set_cons_succ, i64_w, i32_w]
    rfl
  refine last_ (i := 49) (N := some 104) #[true, true, true, true, true, true, true, true, true, true, true, true, true, true, true, true, true, true, true, true, true, true, true, true, true, true, true, true, true, true, true, true, true, true, true, true, true, true, true, true, true, true, true, true, true, true, true, true, true, true, false, false] rfl rfl (by kernel_rfl) (by decide) (fun K hK => ?_)
  refine goes_ Try.func42 (by kernel_rfl) rfl #[] (by rfl) rfl rfl (by simp) ?_
  with_reducible refine (known_ _).mono ?_
  rintro e w49' ⟨rfl, hb49⟩
  refine ⟨_, rfl, ?_⟩
  have B1049 := Aside0.mk (B1046.out.below hb49)
  clear hb49
  refine hK.out _ _ ?_
  clear hK K
  refine norm_ (a' := ?_) ?_ ?_
  rotate_left
  · show Act.put _ (some 104) _ = _
    simp only [Act.put, List.setIfInBounds_toArray, List.set_cons_zero, List.set_cons_succ, i64_w, i32_w]
    rfl
  refine pure_ (i := 50) (N := some 105) (v := ?_) (a' := ?_) #[true, true, true, true, true, true, true, true, true, true, true, true, true, true, true, true, true, true, true, true, true, true, true, true, true, true, true, true, true, true, true, true, true, true, true, true, true, true, true, true, true, true, true, true, true, true, true, true, true, true, true, false] rfl rfl (by kernel_rfl) (fun _ _ _ h => h) (Or.inl ⟨by rfl, ?_⟩) ?_ ?_
  rotate_left
  · intro w'
    go_simp
    with_reducible rfl
  rotate_left
  · simp only [Act.put, List.setIfInBounds_toArray, List.set_cons_zero, List.set_cons_succ, i64_w, i32_w]
    rfl
  refine pure_ (i := 51) (N := some 14) (v := ?_) (a' := ?_) #[true, true, true, true, true, true, true, true, true, true, true, true, true, true, true, true, true, true, true, true, true, true, true, true, true, true, true, true, true, true, true, true, true, true, true, true, true, true, true, true, true, true, true, true, true, true, true, true, true, true, true, true] rfl rfl (by kernel_rfl) (fun _ _ _ h => h) (Or.inl ⟨by rfl, ?_⟩) ?_ ?_
  rotate_left
  · intro w'
    go_simp
    with_reducible rfl
  rotate_left
  · simp only [Act.put, List.setIfInBounds_toArray, List.set_cons_zero, List.set_cons_succ, i64_w, i32_w]
    rfl
  refine done_ (by kernel_rfl) ?_
  go_wp2_with fail
  go_ret
  exact ⟨by first | rfl | (simp; done), B1049.out.toBelow⟩
end Go.Proofs.Ytjngnigelkgekaa.Root
