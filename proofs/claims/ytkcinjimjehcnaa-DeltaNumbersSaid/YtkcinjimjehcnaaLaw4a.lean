/- engramlaw4: same, reads, known. -/
import Derived.Test.YtkcinjimjehcnaaTape2
namespace Go.Proofs.Ytkcinjimjehcnaa.Delta
set_option linter.unusedVariables false
set_option linter.unusedSimpArgs false
open Go.RowKit Go.Proofs.YtkcinjimjehcnaaW.PrintWords Go.Proofs.YtkcinjimjehcnaaW.PrintLast Go.Proofs.YtkcinjimjehcnaaW.PrintMore Go.Proofs.Ytkcinjimjehcnaa.Kit Go.Proofs.Ytkcinjimjehcnaa.Base Go.Proofs.Ytkcinjimjehcnaa.Plain
theorem strS {w0 W : World} {F : List HP} {A : Option Addr} {n c : Nat} {xs : List Int} (h : Sep w0 W (Row U8 5 (.slice A n c) xs :: F)) : (convert 22 9 (.slice A n c)).run Try.prog W = .ok (.string (strOfNums xs)) W := by
  obtain rfl : n = xs.length := h.rowC.1
  exact strC h.rowC.2.2
theorem strV {w0 W : World} {F : List HP} {v : Value} {xs : List Int} (h : Sep w0 W (Row U8 5 v xs :: F)) : (convert 22 9 v).run Try.prog W = .ok (.string (strOfNums xs)) W := by
  obtain ⟨A, c, rfl⟩ := h.rowV
  exact strC h.rowC.2.2
/-- A literal of changes: its block read. -/
theorem kc_blk {W : World} {g : Nat} {ty : TypeId} {cs : Array Value} {l : List Chg} (hg : W.heap[g]? = some (.cells cs ty (0, 0))) (hl : l.length ≤ 9223372036854775807)
    (h : ∀ i x, l[i]? = some x → ∃ B c, cs[2 * i]? = some (.int .i64 x.1) ∧ cs[2 * i + 1]? = some (.slice B x.2.length c) ∧ x.2.length ≤ c ∧ U8.C W B x.2.length x.2) : KC.C W (some ⟨g, 0, none⟩) l.length l := by
  refine ⟨rfl, hl, fun _ => ⟨⟨g, 0, none⟩, rfl, fun i x hx => ?_⟩⟩
  obtain ⟨B, c, h0, h1, h2, h3⟩ := h i x hx
  refine ⟨[.int .i64 x.1, .slice B x.2.length c], rfl, ⟨[.int .i64 x.1], [.slice B x.2.length c], rfl, rfl, B, c, rfl, h2, h3⟩, fun j u hu => ?_⟩
  have e : ((⟨g, 0, none⟩ : Addr).add (i * KC.sz + j)) = ⟨g, i * KC.sz + j, none⟩ := by simp [Addr.add]; intro a b; rw [a, b]
  have hc := fun k => cell_of_row W g k cs ty (0, 0) hg
  match j, hu with
  | 0, hu =>
    cases hu
    rw [e, hc, show i * KC.sz + 0 = 2 * i by show i * 2 + 0 = 2 * i; omega]; exact h0
  | 1, hu =>
    cases hu
    rw [e, hc, show i * KC.sz + 1 = 2 * i + 1 by show i * 2 + 1 = 2 * i + 1; omega]; exact h1
theorem okF_flat : ∀ {l : List Chg} {pages last : Int}, okF pages last l = true → -1 ≤ last → (l.flatMap oneF).length = 66 * l.length ∧ ((l.length : Int) ≤ 0 ∨ (l.length : Int) + last + 1 ≤ pages)
  | [], _, _, _, _ => ⟨rfl, .inl (by simp)⟩
  | c :: r, pages, last, h, hl => by
    unfold okF at h
    rw [Bool.and_eq_true, decide_eq_true_eq] at h
    obtain ⟨h1, h2⟩ := okF_flat h.2 (by omega)
    refine ⟨?_, .inr ?_⟩
    · rw [List.flatMap_cons, List.length_append, h1]
      simp [oneF, two, h.1.2.2]
      omega
    · rw [List.length_cons]
      omega
theorem right_len {l : List Chg} {pages : Int} (h : rightF l pages = true) : (deltaF l).length = 2 + 66 * l.length ∧ l.length ≤ 64 := by
  unfold rightF at h
  rw [Bool.and_eq_true, decide_eq_true_eq] at h
  obtain ⟨h1, h2⟩ := okF_flat h.2 (by omega)
  refine ⟨?_, by omega⟩
  unfold deltaF
  rw [List.length_append, h1]
  simp [two]
set_option maxHeartbeats 1600000 in
set_option maxRecDepth 100000 in
theorem lsame_ {A : Option Addr} {n c : Nat} {l : List Chg} {w : World} (hr : KC.C w A n l) (pages : Int) :
    Calls Try.prog 21 #[.slice A n c, .int .i64 pages] w fun e w' => e = .returned (.bool true) ∧ Below w.heap.size w w' := by
  have HR := Aside0.mk hr
  clear hr
  go_enter Try.func21, Try.ntmps21
  go_wp2_with fail
  refine (right_ HR.out pages).mono ?_
  rintro e w1 ⟨rfl, hb1⟩
  have A1 := Aside0.mk ((Sep.start w).below hb1)
  clear hb1
  go_wp2_with fail
  refine (rchanges_ (Kd.C_below HR.out A1.out.toBelow) pages).mono ?_
  rintro e w2 ⟨rfl, hb2⟩
  have A2 := Aside0.mk (A1.out.below hb2)
  clear hb2
  cases hrt : rightF l pages with
  | false =>
    have HRT := Aside0.mk hrt
    clear hrt
    go_wp2_with fail
    refine start_ (n := 14) (S := fun w' => True) (ds := [2]) #[false, false, false, false, false, false, false, false, false, false, false, false, false, false] (by kernel_rfl) rfl rfl trivial (fun hHeld => ?_)
    refine pure_ (i := 0) (N := some 12) (v := ?_) (a' := ?_) #[true, false, false, false, false, false, false, false, false, false, false, false, false, false] rfl rfl (by kernel_rfl) (fun _ _ _ h => h) (Or.inl ⟨by rfl, ?_⟩) ?_ ?_
    rotate_left
    · intro w'
      go_simp
      with_reducible rfl
    rotate_left
    · simp only [Act.put, List.setIfInBounds_toArray, List.set_cons_zero, List.set_cons_succ, i64_w, i32_w]
      rfl
    refine pure_ (i := 1) (N := some 13) (v := ?_) (a' := ?_) #[true, true, false, false, false, false, false, false, false, false, false, false, false, false] rfl rfl (by kernel_rfl) (fun _ _ _ h => h) (Or.inl ⟨by rfl, ?_⟩) ?_ ?_
    rotate_left
    · intro w'
      go_simp
      with_reducible rfl
    rotate_left
    · simp only [Act.put, List.setIfInBounds_toArray, List.set_cons_zero, List.set_cons_succ, i64_w, i32_w]
      rfl
    refine last_ (i := 2) (N := some 14) #[true, true, true, false, false, false, false, false, false, false, false, false, false, false] rfl rfl (by kernel_rfl) (by decide) (fun K hK => ?_)
    refine goes_ Try.func40 (by kernel_rfl) rfl #[.slice A n c, .int .i64 pages] (by rfl) rfl rfl (by simp only [List.map_toArray, List.map_cons, List.map_nil]; rfl) ?_
    with_reducible refine (rchanges_ (Kd.C_below HR.out A2.out.drew.toBelow) pages).mono ?_
    rintro e w3 ⟨rfl, hb3⟩
    refine ⟨_, rfl, ?_⟩
    rw [HRT.out]
    have A3 := Aside0.mk (A2.out.drew.below hb3)
    clear hb3
    refine hK.out _ _ ?_
    clear hK K
    refine norm_ (a' := ?_) ?_ ?_
    rotate_left
    · show Act.put _ (some 14) _ = _
      simp only [Act.put, List.setIfInBounds_toArray, List.set_cons_zero, List.set_cons_succ, i64_w, i32_w]
      rfl
    refine pure_ (i := 3) (N := some 15) (v := ?_) (a' := ?_) #[true, true, true, true, false, false, false, false, false, false, false, false, false, false] rfl rfl (by kernel_rfl) (fun _ _ _ h => h) (Or.inl ⟨by rfl, ?_⟩) ?_ ?_
    rotate_left
    · intro w'
      go_simp
      with_reducible rfl
    rotate_left
    · simp only [Act.put, List.setIfInBounds_toArray, List.set_cons_zero, List.set_cons_succ, i64_w, i32_w]
      rfl
    refine pure_ (i := 4) (N := some 16) (v := ?_) (a' := ?_) #[true, true, true, true, true, false, false, false, false, false, false, false, false, false] rfl rfl (by kernel_rfl) (fun _ _ _ h => h) (Or.inl ⟨by rfl, ?_⟩) ?_ ?_
    rotate_left
    · intro w'
      go_simp
      with_reducible rfl
    rotate_left
    · simp only [Act.put, List.setIfInBounds_toArray, List.set_cons_zero, List.set_cons_succ, i64_w, i32_w]
      rfl
    refine pure_ (i := 5) (N := some 17) (v := undef) (a' := ?_) #[true, true, true, true, true, true, false, false, false, false, false, false, false, false] rfl rfl (by kernel_rfl) (fun _ _ _ h => h) (Or.inr ⟨by rfl, rfl⟩) ?_ ?_
    rotate_left
    · simp only [Act.put, List.setIfInBounds_toArray, List.set_cons_zero, List.set_cons_succ, i64_w, i32_w]
      rfl
    refine pure_ (i := 6) (N := some 18) (v := undef) (a' := ?_) #[true, true, true, true, true, true, true, false, false, false, false, false, false, false] rfl rfl (by kernel_rfl) (fun _ _ _ h => h) (Or.inr ⟨by rfl, rfl⟩) ?_ ?_
    rotate_left
    · simp only [Act.put, List.setIfInBounds_toArray, List.set_cons_zero, List.set_cons_succ, i64_w, i32_w]
      rfl
    refine pure_ (i := 7) (N := some 19) (v := undef) (a' := ?_) #[true, true, true, true, true, true, true, true, false, false, false, false, false, false] rfl rfl (by kernel_rfl) (fun _ _ _ h => h) (Or.inr ⟨by rfl, rfl⟩) ?_ ?_
    rotate_left
    · simp only [Act.put, List.setIfInBounds_toArray, List.set_cons_zero, List.set_cons_succ, i64_w, i32_w]
      rfl
    refine pure_ (i := 8) (N := some 20) (v := undef) (a' := ?_) #[true, true, true, true, true, true, true, true, true, false, false, false, false, false] rfl rfl (by kernel_rfl) (fun _ _ _ h => h) (Or.inr ⟨by rfl, rfl⟩) ?_ ?_
    rotate_left
    · simp only [Act.put, List.setIfInBounds_toArray, List.set_cons_zero, List.set_cons_succ, i64_w, i32_w]
      rfl
    refine pure_ (i := 9) (N := some 21) (v := undef) (a' := ?_) #[true, true, true, true, true, true, true, true, true, true, false, false, false, false] rfl rfl (by kernel_rfl) (fun _ _ _ h => h) (Or.inr ⟨by rfl, rfl⟩) ?_ ?_
    rotate_left
    · simp only [Act.put, List.setIfInBounds_toArray, List.set_cons_zero, List.set_cons_succ, i64_w, i32_w]
      rfl
    refine pure_ (i := 10) (N := some 22) (v := undef) (a' := ?_) #[true, true, true, true, true, true, true, true, true, true, true, false, false, false] rfl rfl (by kernel_rfl) (fun _ _ _ h => h) (Or.inr ⟨by rfl, rfl⟩) ?_ ?_
    rotate_left
    · simp only [Act.put, List.setIfInBounds_toArray, List.set_cons_zero, List.set_cons_succ, i64_w, i32_w]
      rfl
    refine pure_ (i := 11) (N := some 23) (v := undef) (a' := ?_) #[true, true, true, true, true, true, true, true, true, true, true, true, false, false] rfl rfl (by kernel_rfl) (fun _ _ _ h => h) (Or.inr ⟨by rfl, rfl⟩) ?_ ?_
    rotate_left
    · simp only [Act.put, List.setIfInBounds_toArray, List.set_cons_zero, List.set_cons_succ, i64_w, i32_w]
      rfl
    refine pure_ (i := 12) (N := some 24) (v := ?_) (a' := ?_) #[true, true, true, true, true, true, true, true, true, true, true, true, true, false] rfl rfl (by kernel_rfl) (fun _ _ _ h => h) (Or.inl ⟨by rfl, ?_⟩) ?_ ?_
    rotate_left
    · intro w'
      go_simp
      with_reducible rfl
    rotate_left
    · simp only [Act.put, List.setIfInBounds_toArray, List.set_cons_zero, List.set_cons_succ, i64_w, i32_w]
      rfl
    refine pure_ (i := 13) (N := some 4) (v := ?_) (a' := ?_) #[true, true, true, true, true, true, true, true, true, true, true, true, true, true] rfl rfl (by kernel_rfl) (fun _ _ _ h => h) (Or.inl ⟨by rfl, ?_⟩) ?_ ?_
    rotate_left
    · intro w'
      go_simp
      with_reducible rfl
    rotate_left
    · simp only [Act.put, List.setIfInBounds_toArray, List.set_cons_zero, List.set_cons_succ, i64_w, i32_w]
      rfl
    refine done_ (by kernel_rfl) ?_
    go_wp2_with fail
    go_ret
    exact ⟨by first | rfl | (simp; done), A3.out.toBelow⟩
  | true =>
    have HRT := Aside0.mk hrt
    have HL : Aside0 ((deltaF l).length ≤ 1000000) := ⟨by have := right_len hrt; omega⟩
    clear hrt
    go_wp2_with fail
    refine start_ (n := 14) (S := fun w' => True) (ds := []) #[false, false, false, false, false, false, false, false, false, false, false, false, false, false] (by kernel_rfl) rfl rfl trivial (fun hHeld => ?_)
    refine pure_ (i := 0) (N := some 12) (v := ?_) (a' := ?_) #[true, false, false, false, false, false, false, false, false, false, false, false, false, false] rfl rfl (by kernel_rfl) (fun _ _ _ h => h) (Or.inl ⟨by rfl, ?_⟩) ?_ ?_
    rotate_left
    · intro w'
      go_simp
      with_reducible rfl
    rotate_left
    · simp only [Act.put, List.setIfInBounds_toArray, List.set_cons_zero, List.set_cons_succ, i64_w, i32_w]
      rfl
    refine pure_ (i := 1) (N := some 13) (v := ?_) (a' := ?_) #[true, true, false, false, false, false, false, false, false, false, false, false, false, false] rfl rfl (by kernel_rfl) (fun _ _ _ h => h) (Or.inl ⟨by rfl, ?_⟩) ?_ ?_
    rotate_left
    · intro w'
      go_simp
      with_reducible rfl
    rotate_left
    · simp only [Act.put, List.setIfInBounds_toArray, List.set_cons_zero, List.set_cons_succ, i64_w, i32_w]
      rfl
    refine one_ (i := 2) (N := some 14) #[true, true, true, false, false, false, false, false, false, false, false, false, false, false] rfl rfl (by kernel_rfl) (by decide) (fun K hK => ?_)
    refine goes_ Try.func40 (by kernel_rfl) rfl #[.slice A n c, .int .i64 pages] (by rfl) rfl rfl (by simp only [List.map_toArray, List.map_cons, List.map_nil]; rfl) ?_
    with_reducible refine (rchanges_ (Kd.C_below HR.out A2.out.drew.toBelow) pages).mono ?_
    rintro e w3 ⟨rfl, hb3⟩
    refine ⟨_, rfl, ?_⟩
    rw [HRT.out]
    have A3 := Aside0.mk (A2.out.drew.below hb3)
    clear hb3
    refine hK.out _ _ trivial (fun hHeld => ?_)
    clear hK K
    refine norm_ (a' := ?_) ?_ ?_
    rotate_left
    · show Act.put _ (some 14) _ = _
      simp only [Act.put, List.setIfInBounds_toArray, List.set_cons_zero, List.set_cons_succ, i64_w, i32_w]
      rfl
    refine pure_ (i := 3) (N := some 15) (v := ?_) (a' := ?_) #[true, true, true, true, false, false, false, false, false, false, false, false, false, false] rfl rfl (by kernel_rfl) (fun _ _ _ h => h) (Or.inl ⟨by rfl, ?_⟩) ?_ ?_
    rotate_left
    · intro w'
      go_simp
      with_reducible rfl
    rotate_left
    · simp only [Act.put, List.setIfInBounds_toArray, List.set_cons_zero, List.set_cons_succ, i64_w, i32_w]
      rfl
    refine pure_ (i := 4) (N := some 16) (v := ?_) (a' := ?_) #[true, true, true, true, true, false, false, false, false, false, false, false, false, false] rfl rfl (by kernel_rfl) (fun _ _ _ h => h) (Or.inl ⟨by rfl, ?_⟩) ?_ ?_
    rotate_left
    · intro w'
      go_simp
      with_reducible rfl
    rotate_left
    · simp only [Act.put, List.setIfInBounds_toArray, List.set_cons_zero, List.set_cons_succ, i64_w, i32_w]
      rfl
    refine pure_ (i := 5) (N := some 17) (v := ?_) (a' := ?_) #[true, true, true, true, true, true, false, false, false, false, false, false, false, false] rfl rfl (by kernel_rfl) (fun _ _ _ h => h) (Or.inl ⟨by rfl, ?_⟩) ?_ ?_
    rotate_left
    · intro w'
      go_simp
      with_reducible rfl
    rotate_left
    · simp only [Act.put, List.setIfInBounds_toArray, List.set_cons_zero, List.set_cons_succ, i64_w, i32_w]
      rfl
    refine pure_ (i := 8) (N := some 20) (v := ?_) (a' := ?_) #[true, true, true, true, true, true, false, false, true, false, false, false, false, false] rfl rfl (by kernel_rfl) (fun _ _ _ h => h) (Or.inl ⟨by rfl, ?_⟩) ?_ ?_
    rotate_left
    · intro w'
      go_simp
      with_reducible rfl
    rotate_left
    · simp only [Act.put, List.setIfInBounds_toArray, List.set_cons_zero, List.set_cons_succ, i64_w, i32_w]
      rfl
    refine one_ (i := 6) (N := some 18) #[true, true, true, true, true, true, true, false, true, false, false, false, false, false] rfl rfl (by kernel_rfl) (by decide) (fun K hK => ?_)
    refine goes_ Try.func30 (by kernel_rfl) rfl #[.slice A n c] (by rfl) rfl rfl (by simp only [List.map_toArray, List.map_cons, List.map_nil]; rfl) ?_
    with_reducible refine (bytes_ (Kd.C_below HR.out A3.out.toBelow) HL.out).mono ?_
    rintro e w4 ⟨v4, rfl, hS4⟩
    refine ⟨_, rfl, ?_⟩
    have B4 := Aside0.mk (A3.out.lift1 hS4)
    clear hS4
    refine hK.out _ _ trivial (fun hHeld => ?_)
    clear hK K
    refine norm_ (a' := ?_) ?_ ?_
    rotate_left
    · show Act.put _ (some 18) _ = _
      simp only [Act.put, List.setIfInBounds_toArray, List.set_cons_zero, List.set_cons_succ, i64_w, i32_w]
      rfl
    refine join_ (σ := Value × Value × Value) 3 #[true, true, true, true, true, true, true, true, true, true, true, false, false, false] (fun s_ => [(19, s_.1), (21, s_.2.1), (22, s_.2.2)]) (fun s_ w' => Sep w w' ((Pu ((s_.1) = .string (strOfNums (deltaF l)))) :: (Pu ((s_.2.2) = .string (strOfNums (deltaF l)))) :: [Row U8 5 v4 (deltaF l)])) ?_ ?_
    rotate_left
    · intro hJ7_9_10
      refine join_ (σ := Value × Value) 4 #[true, true, true, true, true, true, true, true, true, true, false, false, false, false] (fun s_ => [(19, s_.1), (21, s_.2)]) (fun s_ w' => Sep w w' ((Pu ((s_.1) = .string (strOfNums (deltaF l)))) :: (Row U8 5 (s_.2) (deltaF l)) :: [Row U8 5 v4 (deltaF l)])) ?_ ?_
      rotate_left
      · intro hJ7_9
        refine join_ (σ := Value × Value) 4 #[true, true, true, true, true, true, true, false, true, true, true, false, false, false] (fun s_ => [(21, s_.1), (22, s_.2)]) (fun s_ w' => Sep w w' ((Pu ((s_.2) = .string (strOfNums (deltaF l)))) :: [Row U8 5 v4 (deltaF l)])) ?_ ?_
        rotate_left
        · intro hJ9_10
          refine join_ (σ := Value) 5 #[true, true, true, true, true, true, true, true, true, false, false, false, false, false] (fun s_ => [(19, s_)]) (fun s_ w' => Sep w w' ((Pu ((s_) = .string (strOfNums (deltaF l)))) :: [Row U8 5 v4 (deltaF l)])) ?_ ?_
          rotate_left
          · intro hJ7
            refine join_ (σ := Value) 5 #[true, true, true, true, true, true, true, false, true, true, false, false, false, false] (fun s_ => [(21, s_)]) (fun s_ w' => Sep w w' ((Row U8 5 (s_) (deltaF l)) :: [Row U8 5 v4 (deltaF l)])) ?_ ?_
            rotate_left
            · intro hJ9
              refine two_ (i := 7) (j := 9) (Ni := some 19) (Nj := some 21) #[true, true, true, true, true, true, true, true, true, false, false, false, false, false] #[true, true, true, true, true, true, true, false, true, true, false, false, false, false] rfl rfl rfl rfl (by kernel_rfl) (by decide) (by decide) (fun K hK => ?_) (fun K hK => ?_)
              · skip
                have hs_ : (convert 22 9 v4).run Try.prog w4 = .ok (.string (strOfNums (deltaF l))) w4 := by first | exact strV (B4.out) | exact strV (B4.out).at2
                refine value_ (w1 := ?_) (v := ?_) (by rfl) rfl ?_ ?_
                rotate_left 2
                · go_simp
                  constructor
                  · rfl
                  · rfl
                have hN := (B4.out).unpu (rfl : (Value.string (strOfNums (deltaF l)) = .string (strOfNums (deltaF l))))
                refine hK.out _ _ trivial (fun hHeld => ?_)
                clear hK K
                refine norm_ (a' := ?_) ?_ ?_
                rotate_left
                · show Act.put _ (some 19) _ = _
                  simp only [Act.put, List.setIfInBounds_toArray, List.set_cons_zero, List.set_cons_succ, i64_w, i32_w]
                  rfl
                exact norm_ (by first | (simp only [putAll, Act.put, List.setIfInBounds_toArray, List.set_cons_zero, List.set_cons_succ]; done) | (simp only [putAll, Act.put, List.setIfInBounds_toArray, List.set_cons_zero, List.set_cons_succ]; rfl)) (hJ7 (.string (strOfNums (deltaF l))) _ hN)
              · skip
                refine goes_ Try.func22 (by kernel_rfl) rfl #[.slice A n c] (by rfl) rfl rfl (by simp only [List.map_toArray, List.map_cons, List.map_nil]; rfl) ?_
                with_reducible refine (rdelta_ (Kd.C_below HR.out (B4.out).toBelow) HL.out).mono ?_
                rintro e wn_ ⟨vn_, rfl, hS_⟩
                refine ⟨_, rfl, ?_⟩
                have hN := (B4.out).lift1 hS_
                clear hS_
                refine hK.out _ _ trivial (fun hHeld => ?_)
                clear hK K
                refine norm_ (a' := ?_) ?_ ?_
                rotate_left
                · show Act.put _ (some 21) _ = _
                  simp only [Act.put, List.setIfInBounds_toArray, List.set_cons_zero, List.set_cons_succ, i64_w, i32_w]
                  rfl
                exact norm_ (by first | (simp only [putAll, Act.put, List.setIfInBounds_toArray, List.set_cons_zero, List.set_cons_succ]; done) | (simp only [putAll, Act.put, List.setIfInBounds_toArray, List.set_cons_zero, List.set_cons_succ]; rfl)) (hJ9 vn_ _ hN)
            · skip
              rintro v9_ W_ hQ_
              have hSep : Aside0 (Sep w W_ ((Row U8 5 (v9_) (deltaF l)) :: [Row U8 5 v4 (deltaF l)])) := ⟨hQ_⟩
              clear hQ_
              have hHeld := trivial
              refine norm_ (a' := ?_) ?_ ?_
              rotate_left
              · simp only [putAll, Act.put, List.setIfInBounds_toArray, List.set_cons_zero, List.set_cons_succ]
                rfl
              refine two_ (i := 7) (j := 10) (Ni := some 19) (Nj := some 22) #[true, true, true, true, true, true, true, true, true, true, false, false, false, false] #[true, true, true, true, true, true, true, false, true, true, true, false, false, false] rfl rfl rfl rfl (by kernel_rfl) (by decide) (by decide) (fun K hK => ?_) (fun K hK => ?_)
              · skip
                have hs_ : (convert 22 9 v4).run Try.prog W_ = .ok (.string (strOfNums (deltaF l))) W_ := by first | exact strV (hSep.out) | exact strV (hSep.out).at2
                refine value_ (w1 := ?_) (v := ?_) (by rfl) rfl ?_ ?_
                rotate_left 2
                · go_simp
                  constructor
                  · rfl
                  · rfl
                have hN := (hSep.out).unpu (rfl : (Value.string (strOfNums (deltaF l)) = .string (strOfNums (deltaF l))))
                refine hK.out _ _ trivial (fun hHeld => ?_)
                clear hK K
                refine norm_ (a' := ?_) ?_ ?_
                rotate_left
                · show Act.put _ (some 19) _ = _
                  simp only [Act.put, List.setIfInBounds_toArray, List.set_cons_zero, List.set_cons_succ, i64_w, i32_w]
                  rfl
                exact norm_ (by first | (simp only [putAll, Act.put, List.setIfInBounds_toArray, List.set_cons_zero, List.set_cons_succ]; done) | (simp only [putAll, Act.put, List.setIfInBounds_toArray, List.set_cons_zero, List.set_cons_succ]; rfl)) (hJ7_9 (.string (strOfNums (deltaF l)), v9_) _ hN)
              · skip
                have hs_ := strV ((hSep.out))
                refine value_ (w1 := ?_) (v := ?_) (by rfl) rfl ?_ ?_
                rotate_left 2
                · go_simp
                  constructor
                  · rfl
                  · rfl
                have hN := ((hSep.out)).tail.unpu (rfl : (Value.string (strOfNums (deltaF l)) = .string (strOfNums (deltaF l))))
                refine hK.out _ _ trivial (fun hHeld => ?_)
                clear hK K
                refine norm_ (a' := ?_) ?_ ?_
                rotate_left
                · show Act.put _ (some 22) _ = _
                  simp only [Act.put, List.setIfInBounds_toArray, List.set_cons_zero, List.set_cons_succ, i64_w, i32_w]
                  rfl
                exact norm_ (by first | (simp only [putAll, Act.put, List.setIfInBounds_toArray, List.set_cons_zero, List.set_cons_succ]; done) | (simp only [putAll, Act.put, List.setIfInBounds_toArray, List.set_cons_zero, List.set_cons_succ]; rfl)) (hJ9_10 (v9_, .string (strOfNums (deltaF l))) _ hN)
          · skip
            rintro v7_ W_ hQ_
            have hSep : Aside0 (Sep w W_ ((Pu ((v7_) = .string (strOfNums (deltaF l)))) :: [Row U8 5 v4 (deltaF l)])) := ⟨hQ_⟩
            clear hQ_
            have hHeld := trivial
            refine norm_ (a' := ?_) ?_ ?_
            rotate_left
            · simp only [putAll, Act.put, List.setIfInBounds_toArray, List.set_cons_zero, List.set_cons_succ]
              rfl
            refine one_ (i := 9) (N := some 21) #[true, true, true, true, true, true, true, true, true, true, false, false, false, false] rfl rfl (by kernel_rfl) (by decide) (fun K hK => ?_)
            refine goes_ Try.func22 (by kernel_rfl) rfl #[.slice A n c] (by rfl) rfl rfl (by simp only [List.map_toArray, List.map_cons, List.map_nil]; rfl) ?_
            with_reducible refine (rdelta_ (Kd.C_below HR.out (hSep.out).toBelow) HL.out).mono ?_
            rintro e wn_ ⟨vn_, rfl, hS_⟩
            refine ⟨_, rfl, ?_⟩
            have hN := (hSep.out).lift1 hS_
            clear hS_
            refine hK.out _ _ trivial (fun hHeld => ?_)
            clear hK K
            refine norm_ (a' := ?_) ?_ ?_
            rotate_left
            · show Act.put _ (some 21) _ = _
              simp only [Act.put, List.setIfInBounds_toArray, List.set_cons_zero, List.set_cons_succ, i64_w, i32_w]
              rfl
            exact norm_ (by first | (simp only [putAll, Act.put, List.setIfInBounds_toArray, List.set_cons_zero, List.set_cons_succ]; done) | (simp only [putAll, Act.put, List.setIfInBounds_toArray, List.set_cons_zero, List.set_cons_succ]; rfl)) (hJ7_9 (v7_, vn_) _ hN.at2)
        · skip
          rintro ⟨v9_, v10_⟩ W_ hQ_
          have hSep : Aside0 (Sep w W_ ((Pu ((v10_) = .string (strOfNums (deltaF l)))) :: [Row U8 5 v4 (deltaF l)])) := ⟨hQ_⟩
          clear hQ_
          have hHeld := trivial
          refine norm_ (a' := ?_) ?_ ?_
          rotate_left
          · simp only [putAll, Act.put, List.setIfInBounds_toArray, List.set_cons_zero, List.set_cons_succ]
            rfl
          refine one_ (i := 7) (N := some 19) #[true, true, true, true, true, true, true, true, true, true, true, false, false, false] rfl rfl (by kernel_rfl) (by decide) (fun K hK => ?_)
          have hs_ : (convert 22 9 v4).run Try.prog W_ = .ok (.string (strOfNums (deltaF l))) W_ := by first | exact strV (hSep.out) | exact strV (hSep.out).at2
          refine value_ (w1 := ?_) (v := ?_) (by rfl) rfl ?_ ?_
          rotate_left 2
          · go_simp
            constructor
            · rfl
            · rfl
          have hN := (hSep.out).unpu (rfl : (Value.string (strOfNums (deltaF l)) = .string (strOfNums (deltaF l))))
          refine hK.out _ _ trivial (fun hHeld => ?_)
          clear hK K
          refine norm_ (a' := ?_) ?_ ?_
          rotate_left
          · show Act.put _ (some 19) _ = _
            simp only [Act.put, List.setIfInBounds_toArray, List.set_cons_zero, List.set_cons_succ, i64_w, i32_w]
            rfl
          exact norm_ (by first | (simp only [putAll, Act.put, List.setIfInBounds_toArray, List.set_cons_zero, List.set_cons_succ]; done) | (simp only [putAll, Act.put, List.setIfInBounds_toArray, List.set_cons_zero, List.set_cons_succ]; rfl)) (hJ7_9_10 (.string (strOfNums (deltaF l)), v9_, v10_) _ hN)
      · skip
        rintro ⟨v7_, v9_⟩ W_ hQ_
        have hSep : Aside0 (Sep w W_ ((Pu ((v7_) = .string (strOfNums (deltaF l)))) :: (Row U8 5 (v9_) (deltaF l)) :: [Row U8 5 v4 (deltaF l)])) := ⟨hQ_⟩
        clear hQ_
        have hHeld := trivial
        refine norm_ (a' := ?_) ?_ ?_
        rotate_left
        · simp only [putAll, Act.put, List.setIfInBounds_toArray, List.set_cons_zero, List.set_cons_succ]
          rfl
        refine one_ (i := 10) (N := some 22) #[true, true, true, true, true, true, true, true, true, true, true, false, false, false] rfl rfl (by kernel_rfl) (by decide) (fun K hK => ?_)
        have hs_ := strV ((hSep.out).at2)
        refine value_ (w1 := ?_) (v := ?_) (by rfl) rfl ?_ ?_
        rotate_left 2
        · go_simp
          constructor
          · rfl
          · rfl
        have hN := ((hSep.out).at2).tail.unpu (rfl : (Value.string (strOfNums (deltaF l)) = .string (strOfNums (deltaF l))))
        refine hK.out _ _ trivial (fun hHeld => ?_)
        clear hK K
        refine norm_ (a' := ?_) ?_ ?_
        rotate_left
        · show Act.put _ (some 22) _ = _
          simp only [Act.put, List.setIfInBounds_toArray, List.set_cons_zero, List.set_cons_succ, i64_w, i32_w]
          rfl
        exact norm_ (by first | (simp only [putAll, Act.put, List.setIfInBounds_toArray, List.set_cons_zero, List.set_cons_succ]; done) | (simp only [putAll, Act.put, List.setIfInBounds_toArray, List.set_cons_zero, List.set_cons_succ]; rfl)) (hJ7_9_10 (v7_, v9_, .string (strOfNums (deltaF l))) _ hN.at2)
    rintro ⟨v7_, v9_, v10_⟩ W_ hQ_
    have hSep : Aside0 (Sep w W_ ((Pu ((v7_) = .string (strOfNums (deltaF l)))) :: (Pu ((v10_) = .string (strOfNums (deltaF l)))) :: [Row U8 5 v4 (deltaF l)])) := ⟨hQ_⟩
    clear hQ_
    have hHeld := trivial
    obtain ⟨h7_, hT_⟩ := hSep.out.pu
    obtain ⟨h10_, hT2_⟩ := hT_.pu
    have B5 := Aside0.mk hT2_
    subst h7_ h10_
    refine norm_ (a' := ?_) ?_ ?_
    rotate_left
    · simp only [putAll, Act.put, List.setIfInBounds_toArray, List.set_cons_zero, List.set_cons_succ]
      rfl
    refine pure_ (i := 11) (N := some 23) (v := ?_) (a' := ?_) #[true, true, true, true, true, true, true, true, true, true, true, true, false, false] rfl rfl (by kernel_rfl) (fun _ _ _ h => h) (Or.inl ⟨by rfl, ?_⟩) ?_ ?_
    rotate_left
    · intro w'
      go_simp
      with_reducible rfl
    rotate_left
    · simp only [Act.put, List.setIfInBounds_toArray, List.set_cons_zero, List.set_cons_succ, i64_w, i32_w]
      rfl
    refine pure_ (i := 12) (N := some 24) (v := ?_) (a' := ?_) #[true, true, true, true, true, true, true, true, true, true, true, true, true, false] rfl rfl (by kernel_rfl) (fun _ _ _ h => h) (Or.inl ⟨by rfl, ?_⟩) ?_ ?_
    rotate_left
    · intro w'
      go_simp
      with_reducible rfl
    rotate_left
    · simp only [Act.put, List.setIfInBounds_toArray, List.set_cons_zero, List.set_cons_succ, i64_w, i32_w]
      rfl
    refine pure_ (i := 13) (N := some 4) (v := ?_) (a' := ?_) #[true, true, true, true, true, true, true, true, true, true, true, true, true, true] rfl rfl (by kernel_rfl) (fun _ _ _ h => h) (Or.inl ⟨by rfl, ?_⟩) ?_ ?_
    rotate_left
    · intro w'
      go_simp
      with_reducible rfl
    rotate_left
    · simp only [Act.put, List.setIfInBounds_toArray, List.set_cons_zero, List.set_cons_succ, i64_w, i32_w]
      rfl
    refine done_ (by kernel_rfl) ?_
    go_wp2_with fail
    go_ret
    exact ⟨by first | rfl | (simp; done), B5.out.toBelow⟩
end Go.Proofs.Ytkcinjimjehcnaa.Delta
