/- engramlaw12.all: the walk. -/
import Derived.Test.YtfpkhlhojjmgiaaReply9
namespace Go.Proofs.Ytfpkhlhojjmgiaa.Reply
set_option linter.unusedVariables false
set_option linter.unusedSimpArgs false
open Go.RowKit Go.Proofs.YtfpkhlhojjmgiaaW.PrintWords Go.Proofs.YtfpkhlhojjmgiaaW.PrintLast Go.Proofs.YtfpkhlhojjmgiaaW.PrintMore Go.Proofs.Ytfpkhlhojjmgiaa.Kit
def oneF (b : Bool) : Int := if b then 1 else 0
set_option maxHeartbeats 6400000 in
set_option maxRecDepth 100000 in
theorem lall_ {n r : Int} {s : ByteArray} {b : Bool} {A : Option Addr} {k c : Nat} {w : World} (hr : -2147483648 ≤ r ∧ r ≤ 2147483647) :
    Calls Try.prog 22 #[.int .i64 n, .int .i32 r, .string s, .bool b, .slice A k c] w fun e w' => e = .returned (.bool true) ∧ Below w.heap.size w w' := by
  have HRR := Aside0.mk (of_rune r hr)
  have hwr : IntKind.i64.wrap r = r := by rw [IntKind.wrap_i64]; omega
  have A0 := Aside0.mk ((Sep.start w).newBlk 2 #[.int .i64 n])
  have c0 : (w.alloc (.cells #[.int .i64 n] 2)).cell? ⟨w.heap.size, 0, none⟩ = some (.int .i64 n) := (A0.out.cell 0).trans rfl
  clear hr
  cases b with
  | true =>
    go_enter Try.func22, Try.ntmps22
    go_wp2_with fail
    refine (tells_some (of_int64 n) _).mono ?_
    rintro e w1 ⟨rfl, hb⟩
    have A1 := Aside0.mk (A0.out.below hb)
    clear c0 hb
    have c0 : w1.cell? ⟨w.heap.size, 0, none⟩ = some (.int .i64 n) := (A1.out.cell 0).trans rfl
    go_wp2_with fail
    refine (tells_some (of_int n) _).mono ?_
    rintro e w2 ⟨rfl, hb⟩
    have A2 := Aside0.mk (A1.out.below hb)
    clear c0 hb
    have c0 : w2.cell? ⟨w.heap.size, 0, none⟩ = some (.int .i64 n) := (A2.out.cell 0).trans rfl
    go_wp2_with fail
    refine (tells_some HRR.out _).mono ?_
    rintro e w3 ⟨rfl, hb⟩
    have A3 := Aside0.mk (A2.out.below hb)
    clear c0 hb
    have c0 : w3.cell? ⟨w.heap.size, 0, none⟩ = some (.int .i64 n) := (A3.out.cell 0).trans rfl
    go_wp2_with fail
    refine (count_ s _).mono ?_
    rintro e w4 ⟨rfl, hb⟩
    have A4 := Aside0.mk (A3.out.below hb)
    clear c0 hb
    have c0 : w4.cell? ⟨w.heap.size, 0, none⟩ = some (.int .i64 n) := (A4.out.cell 0).trans rfl
    go_wp2_with fail
    refine (tells_some (of_string s) _).mono ?_
    rintro e w5 ⟨rfl, hb⟩
    have A5 := Aside0.mk (A4.out.below hb)
    clear c0 hb
    have c0 : w5.cell? ⟨w.heap.size, 0, none⟩ = some (.int .i64 n) := (A5.out.cell 0).trans rfl
    go_wp2_with fail
    refine (tells_some (of_bool true) _).mono ?_
    rintro e w6 ⟨rfl, hb⟩
    have A6 := Aside0.mk (A5.out.below hb)
    clear c0 hb
    have c0 : w6.cell? ⟨w.heap.size, 0, none⟩ = some (.int .i64 n) := (A6.out.cell 0).trans rfl
    go_wp2_with fail
    refine (tells_some (of_anys A k c) _).mono ?_
    rintro e w7 ⟨rfl, hb⟩
    have A7 := Aside0.mk (A6.out.below hb)
    clear c0 hb
    have c0 : w7.cell? ⟨w.heap.size, 0, none⟩ = some (.int .i64 n) := (A7.out.cell 0).trans rfl
    go_wp2_with fail
    have L7 := Aside0.mk ((A7.out.alloc (.cells #[.iface 46 (.slice A k c), .iface 9 (.string s)] 20)))
    refine (tells_some (of_anys (some ⟨w7.heap.size, 0, none⟩) 2 2) _).mono ?_
    rintro e w8 ⟨rfl, hb⟩
    have A8 := Aside0.mk (L7.out.below hb)
    clear c0 hb
    have c0 : w8.cell? ⟨w.heap.size, 0, none⟩ = some (.int .i64 n) := (A8.out.cell 0).trans rfl
    go_wp2_with fail
    have M8 := ((A8.out.alloc (.cells #[.int .i64 0] 56)).alloc (.cells #[.int .i64 1] 3)).alloc (.cells #[.string ⟨#[120]⟩] 9)
    have N8 : Aside0 (Sep w _ [Blk w.heap.size 2 #[.int .i64 n], Row KV 20 (.slice (some ⟨w8.heap.size + 1 + 1 + 1, 0, none⟩) 13 13) (odd w8.heap.size (w8.heap.size + 1) (w8.heap.size + 1 + 1) w.heap.size)]) := ⟨by
      have h := (M8.litRow (enc := fun x : OV => x.1) (h1 := fun x => x.2) (e := 20) (odd w8.heap.size (w8.heap.size + 1) (w8.heap.size + 1 + 1) w.heap.size) (by simp [odd])).at2
      rw [show (((w8.alloc (.cells #[.int .i64 0] 56)).alloc (.cells #[.int .i64 1] 3)).alloc (.cells #[.string ⟨#[120]⟩] 9)).heap.size = w8.heap.size + 1 + 1 + 1 by simp] at h
      exact h⟩
    clear M8 c0
    have HOF : Aside0 (OfsAll (odd w8.heap.size (w8.heap.size + 1) (w8.heap.size + 1 + 1) w.heap.size) (List.replicate 13 none) ∧ (odd w8.heap.size (w8.heap.size + 1) (w8.heap.size + 1 + 1) w.heap.size).length = 13) := ⟨odd_ofs _ _ _ _, rfl⟩
    obtain ⟨G, hG⟩ : ∃ G, w8.heap.size + 1 + 1 + 1 = G := ⟨_, rfl⟩
    rw [hG] at N8 ⊢
    clear hG
    go_loopg [91] 13 (fun m p wr => ∃ j : Nat, p = .int .i64 (j : Int) ∧ j + m = 13 ∧ Sep w wr [Blk w.heap.size 2 #[.int .i64 n], Row KV 20 (.slice (some ⟨G, 0, none⟩) 13 13) (odd w8.heap.size (w8.heap.size + 1) (w8.heap.size + 1 + 1) w.heap.size)])
    case atStart => exact ⟨0, rfl, rfl, N8.out⟩
    case round =>
      obtain ⟨j, rfl, hjm, hS⟩ := hrel
      have AK := Aside0.mk hjm
      have AS := Aside0.mk hS
      by_cases hj : j < 13
      · have hjl : (j : Int) < 13 := by omega
        have f1 := (hS.at2.rowCell (enc := fun x : OV => x.1) vNil j hj).1
        have hx : j < (odd w8.heap.size (w8.heap.size + 1) (w8.heap.size + 1 + 1) w.heap.size).length := by rw [HOF.out.2]; exact hj
        have hof : Ofs ((odd w8.heap.size (w8.heap.size + 1) (w8.heap.size + 1 + 1) w.heap.size).getD j vNil).1 none := by
          refine HOF.out.1.2 j _ _ ?_ (List.getElem?_replicate_of_lt hj)
          rw [List.getD_eq_getElem?_getD, List.getElem?_eq_getElem hx]; rfl
        generalize ((odd w8.heap.size (w8.heap.size + 1) (w8.heap.size + 1 + 1) w.heap.size).getD j vNil).1 = x at *
        have HF := Aside0.mk hof
        clear hS hjm hof
        go_wp2_with fail
        refine (tells_none HF.out _).mono ?_
        rintro e w9 ⟨rfl, hb⟩
        have B9 := Aside0.mk (AS.out.below hb)
        clear hb
        go_wp2_with fail
        go_roundg (gk - 1)
        case measure => have := AK.out; omega
        case rel => exact ⟨j + 1, by go_num, by have := AK.out; omega, B9.out⟩
      · have hjl : ¬ (j : Int) < 13 := by omega
        have c0 : wr.cell? ⟨w.heap.size, 0, none⟩ = some (.int .i64 n) := (hS.cell 0).trans rfl
        have L1 := Aside0.mk (hS.litRow (enc := fun x : OV => x.1) (h1 := fun x => x.2) (e := 20) [vInt64 n, vStr s, vBool true, ⟨.iface 21 (.int .i32 r), rfl⟩] (by simp))
        clear hS hjm AK hj
        go_wp2_with fail
        refine (all_ (rs := [some n, some (runesF s), some 1, some r]) L1.out.rowC' (.cons (of_int64 n) (.cons (of_string s) (.cons (of_bool true) (.cons HRR.out .nil)))) (by simp)).mono ?_
        rintro e w10 ⟨v10, rfl, hS10⟩
        rw [show allF [some n, some (runesF s), some 1, some r] = some [n, runesF s, 1, r] from rfl] at hS10 ⊢
        obtain ⟨A10, c10, rfl⟩ := hS10.rowN (n := 4) rfl
        have B10 := (L1.out.lift1 hS10).at3
        clear c0
        have c0 : w10.cell? ⟨w.heap.size, 0, none⟩ = some (.int .i64 n) := (B10.cell 0).trans rfl
        have L2 := Aside0.mk (B10.litRow (enc := fun x : OV => x.1) (h1 := fun x => x.2) (e := 20) [vInt64 n, ⟨.iface 56 (.agg #[.int .i64 1]), rfl⟩, vBool true] (by simp))
        clear hS10 B10
        go_wp2_with fail
        refine (all_ (rs := [some n, none, some 1]) L2.out.rowC' (.cons (of_int64 n) (.cons (of_type (by decide)) (.cons (of_bool true) .nil))) (by simp)).mono ?_
        rintro e w11 ⟨v11, rfl, hS11⟩
        rw [show allF [some n, none, some 1] = none from rfl] at hS11 ⊢
        obtain ⟨A11, c11, rfl⟩ := hS11.rowN (n := 0) rfl
        have B11 := Aside0.mk ((L2.out.lift1 hS11).tail.tail.drew)
        have d0 := (B11.out.cell 0).trans (rfl : _ = some (Value.int .i64 n))
        clear hS11 c0
        go_wp2_with fail
        refine start_ (n := 22) (S := fun w' => w'.cell? ⟨w.heap.size, 0, none⟩ = some (.int .i64 n)) (ds := [10]) #[false, false, false, false, false, false, false, false, false, false, false, false, false, false, false, false, false, false, false, false, false, false] (by kernel_rfl) rfl rfl (d0) (fun hHeld => ?_)
        refine pure_ (i := 0) (N := some 123) (v := ?_) (a' := ?_) #[true, false, false, false, false, false, false, false, false, false, false, false, false, false, false, false, false, false, false, false, false, false] rfl rfl (by kernel_rfl) (fun _ _ _ h => h) (Or.inl ⟨by rfl, ?_⟩) ?_ ?_
        rotate_left
        · intro w'
          go_simp
          with_reducible rfl
        rotate_left
        · simp only [Act.put, List.setIfInBounds_toArray, List.set_cons_zero, List.set_cons_succ, i64_w, i32_w]
          rfl
        refine pure_ (i := 1) (N := some 124) (v := ?_) (a' := ?_) #[true, true, false, false, false, false, false, false, false, false, false, false, false, false, false, false, false, false, false, false, false, false] rfl rfl (by kernel_rfl) (fun _ _ _ h => h) (Or.inl ⟨by rfl, ?_⟩) ?_ ?_
        rotate_left
        · intro w'
          go_simp
          with_reducible rfl
        rotate_left
        · simp only [Act.put, List.setIfInBounds_toArray, List.set_cons_zero, List.set_cons_succ, i64_w, i32_w]
          rfl
        refine pure_ (i := 2) (N := some 125) (v := ?_) (a' := ?_) #[true, true, true, false, false, false, false, false, false, false, false, false, false, false, false, false, false, false, false, false, false, false] rfl rfl (by kernel_rfl) (fun _ _ _ h => h) (Or.inl ⟨by rfl, ?_⟩) ?_ ?_
        rotate_left
        · intro w'
          go_simp
          with_reducible rfl
        rotate_left
        · simp only [Act.put, List.setIfInBounds_toArray, List.set_cons_zero, List.set_cons_succ, i64_w, i32_w]
          rfl
        refine pure_ (i := 4) (N := some 127) (v := ?_) (a' := ?_) #[true, true, true, false, true, false, false, false, false, false, false, false, false, false, false, false, false, false, false, false, false, false] rfl rfl (by kernel_rfl) (fun _ _ _ h => h) (Or.inl ⟨by rfl, ?_⟩) ?_ ?_
        rotate_left
        · intro w'
          go_simp
          with_reducible rfl
        rotate_left
        · simp only [Act.put, List.setIfInBounds_toArray, List.set_cons_zero, List.set_cons_succ, i64_w, i32_w]
          rfl
        refine pure_ (i := 6) (N := some 129) (v := ?_) (a' := ?_) #[true, true, true, false, true, false, true, false, false, false, false, false, false, false, false, false, false, false, false, false, false, false] rfl rfl (by kernel_rfl) (fun _ _ _ h => h) (Or.inl ⟨by rfl, ?_⟩) ?_ ?_
        rotate_left
        · intro w'
          go_simp
          with_reducible rfl
        rotate_left
        · simp only [Act.put, List.setIfInBounds_toArray, List.set_cons_zero, List.set_cons_succ, i64_w, i32_w]
          rfl
        refine pure_ (i := 7) (N := some 130) (v := ?_) (a' := ?_) #[true, true, true, false, true, false, true, true, false, false, false, false, false, false, false, false, false, false, false, false, false, false] rfl rfl (by kernel_rfl) (fun _ _ _ h => h) (Or.inl ⟨by rfl, ?_⟩) ?_ ?_
        rotate_left
        · intro w'
          go_simp
          with_reducible rfl
        rotate_left
        · simp only [Act.put, List.setIfInBounds_toArray, List.set_cons_zero, List.set_cons_succ, i64_w, i32_w]
          rfl
        refine pure_ (i := 8) (N := some 131) (v := ?_) (a' := ?_) #[true, true, true, false, true, false, true, true, true, false, false, false, false, false, false, false, false, false, false, false, false, false] rfl rfl (by kernel_rfl) (fun _ _ _ h => h) (Or.inl ⟨by rfl, ?_⟩) ?_ ?_
        rotate_left
        · intro w'
          go_simp
          with_reducible rfl
        rotate_left
        · simp only [Act.put, List.setIfInBounds_toArray, List.set_cons_zero, List.set_cons_succ, i64_w, i32_w]
          rfl
        refine take_ (i := 3) (N := some 126) (v := ?_) (a' := ?_) #[true, true, true, true, true, false, true, true, true, false, false, false, false, false, false, false, false, false, false, false, false, false] rfl rfl (by kernel_rfl) (fun _ _ _ h => h) (Or.inl ⟨by rfl, ?_⟩) hHeld ?_ ?_
        rotate_left
        · intro w' s0
          go_simp
          with_reducible rfl
        rotate_left
        · simp only [Act.put, List.setIfInBounds_toArray, List.set_cons_zero, List.set_cons_succ, i64_w, i32_w]
          rfl
        refine one_ (i := 5) (N := some 128) #[true, true, true, true, true, true, true, true, true, false, false, false, false, false, false, false, false, false, false, false, false, false] rfl rfl (by kernel_rfl) (by decide) (fun K hK => ?_)
        refine goes_ Try.func39 (by kernel_rfl) rfl #[.string s] (by rfl) rfl rfl (by simp only [List.map_toArray, List.map_cons, List.map_nil]; rfl) ?_
        with_reducible refine (count_ s _).mono ?_
        rintro e w12 ⟨rfl, hb12⟩
        refine ⟨_, rfl, ?_⟩
        have B12 := Aside0.mk (B11.out.below hb12)
        clear hb12
        refine hK.out _ _ ((B12.out.cell 0).trans rfl) (fun hHeld => ?_)
        clear hK K
        refine norm_ (a' := ?_) ?_ ?_
        rotate_left
        · show Act.put _ (some 128) _ = _
          simp only [Act.put, List.setIfInBounds_toArray, List.set_cons_zero, List.set_cons_succ, i64_w, i32_w]
          rfl
        refine one_ (i := 9) (N := some 132) #[true, true, true, true, true, true, true, true, true, true, false, false, false, false, false, false, false, false, false, false, false, false] rfl rfl (by kernel_rfl) (by decide) (fun K hK => ?_)
        have L12 := Aside0.mk (B12.out.litRow (enc := Value.int .i64) (h1 := fun _ => rfl) (e := 2) [n, runesF s, 1, r] (by simp))
        have HS12 : Aside0 (L64.C (w12.alloc (.cells #[.int .i64 n, .int .i64 (runesF s), .int .i64 1, .int .i64 r] 2)) (some ⟨w12.heap.size, 0, none⟩) 4 [n, runesF s, 1, r]) := ⟨L12.out.rowC'⟩
        have HT12 : Aside0 (L64.C (w12.alloc (.cells #[.int .i64 n, .int .i64 (runesF s), .int .i64 1, .int .i64 r] 2)) A10 4 [n, runesF s, 1, r]) := ⟨L12.out.at3.rowC'⟩
        refine value_ (w1 := ?_) (v := ?_) (by rfl) rfl ?_ ?_
        rotate_left 2
        · go_simp
          constructor
          · rfl
          · rfl
        refine hK.out _ _ ((L12.out.at2.cell 0).trans rfl) (fun hHeld => ?_)
        clear hK K
        refine norm_ (a' := ?_) ?_ ?_
        rotate_left
        · show Act.put _ (some 132) _ = _
          simp only [Act.put, List.setIfInBounds_toArray, List.set_cons_zero, List.set_cons_succ, i64_w, i32_w]
          rfl
        refine last_ (i := 10) (N := some 133) #[true, true, true, true, true, true, true, true, true, true, true, false, false, false, false, false, false, false, false, false, false, false] rfl rfl (by kernel_rfl) (by decide) (fun K hK => ?_)
        refine goes_ Try.func40 (by kernel_rfl) rfl #[.slice A10 4 c10, .slice (some ⟨w12.heap.size, 0, none⟩) 4 4] (by rfl) rfl rfl (by simp only [List.map_toArray, List.map_cons, List.map_nil]; rfl) ?_
        with_reducible refine (Book.sameL_ (xs := [n, runesF s, 1, r]) (ys := [n, runesF s, 1, r]) HT12.out HS12.out).mono ?_
        rintro e w13 ⟨rfl, hb13⟩
        refine ⟨_, rfl, ?_⟩
        rw [decide_eq_true rfl]
        refine hK.out _ _ ?_
        clear hK K
        refine norm_ (a' := ?_) ?_ ?_
        rotate_left
        · show Act.put _ (some 133) _ = _
          simp only [Act.put, List.setIfInBounds_toArray, List.set_cons_zero, List.set_cons_succ, i64_w, i32_w]
          rfl
        refine pure_ (i := 11) (N := some 134) (v := ?_) (a' := ?_) #[true, true, true, true, true, true, true, true, true, true, true, true, false, false, false, false, false, false, false, false, false, false] rfl rfl (by kernel_rfl) (fun _ _ _ h => h) (Or.inl ⟨by rfl, ?_⟩) ?_ ?_
        rotate_left
        · intro w'
          go_simp
          with_reducible rfl
        rotate_left
        · simp only [Act.put, List.setIfInBounds_toArray, List.set_cons_zero, List.set_cons_succ, i64_w, i32_w]
          rfl
        refine pure_ (i := 12) (N := some 135) (v := ?_) (a' := ?_) #[true, true, true, true, true, true, true, true, true, true, true, true, true, false, false, false, false, false, false, false, false, false] rfl rfl (by kernel_rfl) (fun _ _ _ h => h) (Or.inl ⟨by rfl, ?_⟩) ?_ ?_
        rotate_left
        · intro w'
          go_simp
          with_reducible rfl
        rotate_left
        · simp only [Act.put, List.setIfInBounds_toArray, List.set_cons_zero, List.set_cons_succ, i64_w, i32_w]
          rfl
        refine pure_ (i := 13) (N := some 136) (v := ?_) (a' := ?_) #[true, true, true, true, true, true, true, true, true, true, true, true, true, true, false, false, false, false, false, false, false, false] rfl rfl (by kernel_rfl) (fun _ _ _ h => h) (Or.inl ⟨by rfl, ?_⟩) ?_ ?_
        rotate_left
        · intro w'
          go_simp
          with_reducible rfl
        rotate_left
        · simp only [Act.put, List.setIfInBounds_toArray, List.set_cons_zero, List.set_cons_succ, i64_w, i32_w]
          rfl
        refine pure_ (i := 14) (N := some 137) (v := ?_) (a' := ?_) #[true, true, true, true, true, true, true, true, true, true, true, true, true, true, true, false, false, false, false, false, false, false] rfl rfl (by kernel_rfl) (fun _ _ _ h => h) (Or.inl ⟨by rfl, ?_⟩) ?_ ?_
        rotate_left
        · intro w'
          go_simp
          with_reducible rfl
        rotate_left
        · simp only [Act.put, List.setIfInBounds_toArray, List.set_cons_zero, List.set_cons_succ, i64_w, i32_w]
          rfl
        refine pure_ (i := 15) (N := some 138) (v := ?_) (a' := ?_) #[true, true, true, true, true, true, true, true, true, true, true, true, true, true, true, true, false, false, false, false, false, false] rfl rfl (by kernel_rfl) (fun _ _ _ h => h) (Or.inl ⟨by rfl, ?_⟩) ?_ ?_
        rotate_left
        · intro w'
          go_simp
          with_reducible rfl
        rotate_left
        · simp only [Act.put, List.setIfInBounds_toArray, List.set_cons_zero, List.set_cons_succ, i64_w, i32_w]
          rfl
        refine pure_ (i := 16) (N := some 139) (v := ?_) (a' := ?_) #[true, true, true, true, true, true, true, true, true, true, true, true, true, true, true, true, true, false, false, false, false, false] rfl rfl (by kernel_rfl) (fun _ _ _ h => h) (Or.inl ⟨by rfl, ?_⟩) ?_ ?_
        rotate_left
        · intro w'
          go_simp
          with_reducible rfl
        rotate_left
        · simp only [Act.put, List.setIfInBounds_toArray, List.set_cons_zero, List.set_cons_succ, i64_w, i32_w]
          rfl
        refine pure_ (i := 17) (N := some 140) (v := ?_) (a' := ?_) #[true, true, true, true, true, true, true, true, true, true, true, true, true, true, true, true, true, true, false, false, false, false] rfl rfl (by kernel_rfl) (fun _ _ _ h => h) (Or.inl ⟨by rfl, ?_⟩) ?_ ?_
        rotate_left
        · intro w'
          go_simp
          with_reducible rfl
        rotate_left
        · simp only [Act.put, List.setIfInBounds_toArray, List.set_cons_zero, List.set_cons_succ, i64_w, i32_w]
          rfl
        refine pure_ (i := 18) (N := some 141) (v := ?_) (a' := ?_) #[true, true, true, true, true, true, true, true, true, true, true, true, true, true, true, true, true, true, true, false, false, false] rfl rfl (by kernel_rfl) (fun _ _ _ h => h) (Or.inl ⟨by rfl, ?_⟩) ?_ ?_
        rotate_left
        · intro w'
          go_simp
          with_reducible rfl
        rotate_left
        · simp only [Act.put, List.setIfInBounds_toArray, List.set_cons_zero, List.set_cons_succ, i64_w, i32_w]
          rfl
        refine pure_ (i := 19) (N := some 142) (v := ?_) (a' := ?_) #[true, true, true, true, true, true, true, true, true, true, true, true, true, true, true, true, true, true, true, true, false, false] rfl rfl (by kernel_rfl) (fun _ _ _ h => h) (Or.inl ⟨by rfl, ?_⟩) ?_ ?_
        rotate_left
        · intro w'
          go_simp
          with_reducible rfl
        rotate_left
        · simp only [Act.put, List.setIfInBounds_toArray, List.set_cons_zero, List.set_cons_succ, i64_w, i32_w]
          rfl
        refine pure_ (i := 20) (N := some 143) (v := ?_) (a' := ?_) #[true, true, true, true, true, true, true, true, true, true, true, true, true, true, true, true, true, true, true, true, true, false] rfl rfl (by kernel_rfl) (fun _ _ _ h => h) (Or.inl ⟨by rfl, ?_⟩) ?_ ?_
        rotate_left
        · intro w'
          go_simp
          with_reducible rfl
        rotate_left
        · simp only [Act.put, List.setIfInBounds_toArray, List.set_cons_zero, List.set_cons_succ, i64_w, i32_w]
          rfl
        refine pure_ (i := 21) (N := some 10) (v := ?_) (a' := ?_) #[true, true, true, true, true, true, true, true, true, true, true, true, true, true, true, true, true, true, true, true, true, true] rfl rfl (by kernel_rfl) (fun _ _ _ h => h) (Or.inl ⟨by rfl, ?_⟩) ?_ ?_
        rotate_left
        · intro w'
          go_simp
          with_reducible rfl
        rotate_left
        · simp only [Act.put, List.setIfInBounds_toArray, List.set_cons_zero, List.set_cons_succ, i64_w, i32_w]
          rfl
        refine done_ (by kernel_rfl) ?_
        go_wp2_with fail
        go_ret
        exact ⟨by first | rfl | (simp; done), (L12.out.below hb13).toBelow⟩
  | false =>
    go_enter Try.func22, Try.ntmps22
    go_wp2_with fail
    refine (tells_some (of_int64 n) _).mono ?_
    rintro e w1 ⟨rfl, hb⟩
    have A1 := Aside0.mk (A0.out.below hb)
    clear c0 hb
    have c0 : w1.cell? ⟨w.heap.size, 0, none⟩ = some (.int .i64 n) := (A1.out.cell 0).trans rfl
    go_wp2_with fail
    refine (tells_some (of_int n) _).mono ?_
    rintro e w2 ⟨rfl, hb⟩
    have A2 := Aside0.mk (A1.out.below hb)
    clear c0 hb
    have c0 : w2.cell? ⟨w.heap.size, 0, none⟩ = some (.int .i64 n) := (A2.out.cell 0).trans rfl
    go_wp2_with fail
    refine (tells_some HRR.out _).mono ?_
    rintro e w3 ⟨rfl, hb⟩
    have A3 := Aside0.mk (A2.out.below hb)
    clear c0 hb
    have c0 : w3.cell? ⟨w.heap.size, 0, none⟩ = some (.int .i64 n) := (A3.out.cell 0).trans rfl
    go_wp2_with fail
    refine (count_ s _).mono ?_
    rintro e w4 ⟨rfl, hb⟩
    have A4 := Aside0.mk (A3.out.below hb)
    clear c0 hb
    have c0 : w4.cell? ⟨w.heap.size, 0, none⟩ = some (.int .i64 n) := (A4.out.cell 0).trans rfl
    go_wp2_with fail
    refine (tells_some (of_string s) _).mono ?_
    rintro e w5 ⟨rfl, hb⟩
    have A5 := Aside0.mk (A4.out.below hb)
    clear c0 hb
    have c0 : w5.cell? ⟨w.heap.size, 0, none⟩ = some (.int .i64 n) := (A5.out.cell 0).trans rfl
    go_wp2_with fail
    refine (tells_some (of_bool false) _).mono ?_
    rintro e w6 ⟨rfl, hb⟩
    have A6 := Aside0.mk (A5.out.below hb)
    clear c0 hb
    have c0 : w6.cell? ⟨w.heap.size, 0, none⟩ = some (.int .i64 n) := (A6.out.cell 0).trans rfl
    go_wp2_with fail
    refine (tells_some (of_anys A k c) _).mono ?_
    rintro e w7 ⟨rfl, hb⟩
    have A7 := Aside0.mk (A6.out.below hb)
    clear c0 hb
    have c0 : w7.cell? ⟨w.heap.size, 0, none⟩ = some (.int .i64 n) := (A7.out.cell 0).trans rfl
    go_wp2_with fail
    have L7 := Aside0.mk ((A7.out.alloc (.cells #[.iface 46 (.slice A k c), .iface 9 (.string s)] 20)))
    refine (tells_some (of_anys (some ⟨w7.heap.size, 0, none⟩) 2 2) _).mono ?_
    rintro e w8 ⟨rfl, hb⟩
    have A8 := Aside0.mk (L7.out.below hb)
    clear c0 hb
    have c0 : w8.cell? ⟨w.heap.size, 0, none⟩ = some (.int .i64 n) := (A8.out.cell 0).trans rfl
    go_wp2_with fail
    have M8 := ((A8.out.alloc (.cells #[.int .i64 0] 56)).alloc (.cells #[.int .i64 1] 3)).alloc (.cells #[.string ⟨#[120]⟩] 9)
    have N8 : Aside0 (Sep w _ [Blk w.heap.size 2 #[.int .i64 n], Row KV 20 (.slice (some ⟨w8.heap.size + 1 + 1 + 1, 0, none⟩) 13 13) (odd w8.heap.size (w8.heap.size + 1) (w8.heap.size + 1 + 1) w.heap.size)]) := ⟨by
      have h := (M8.litRow (enc := fun x : OV => x.1) (h1 := fun x => x.2) (e := 20) (odd w8.heap.size (w8.heap.size + 1) (w8.heap.size + 1 + 1) w.heap.size) (by simp [odd])).at2
      rw [show (((w8.alloc (.cells #[.int .i64 0] 56)).alloc (.cells #[.int .i64 1] 3)).alloc (.cells #[.string ⟨#[120]⟩] 9)).heap.size = w8.heap.size + 1 + 1 + 1 by simp] at h
      exact h⟩
    clear M8 c0
    have HOF : Aside0 (OfsAll (odd w8.heap.size (w8.heap.size + 1) (w8.heap.size + 1 + 1) w.heap.size) (List.replicate 13 none) ∧ (odd w8.heap.size (w8.heap.size + 1) (w8.heap.size + 1 + 1) w.heap.size).length = 13) := ⟨odd_ofs _ _ _ _, rfl⟩
    obtain ⟨G, hG⟩ : ∃ G, w8.heap.size + 1 + 1 + 1 = G := ⟨_, rfl⟩
    rw [hG] at N8 ⊢
    clear hG
    go_loopg [91] 13 (fun m p wr => ∃ j : Nat, p = .int .i64 (j : Int) ∧ j + m = 13 ∧ Sep w wr [Blk w.heap.size 2 #[.int .i64 n], Row KV 20 (.slice (some ⟨G, 0, none⟩) 13 13) (odd w8.heap.size (w8.heap.size + 1) (w8.heap.size + 1 + 1) w.heap.size)])
    case atStart => exact ⟨0, rfl, rfl, N8.out⟩
    case round =>
      obtain ⟨j, rfl, hjm, hS⟩ := hrel
      have AK := Aside0.mk hjm
      have AS := Aside0.mk hS
      by_cases hj : j < 13
      · have hjl : (j : Int) < 13 := by omega
        have f1 := (hS.at2.rowCell (enc := fun x : OV => x.1) vNil j hj).1
        have hx : j < (odd w8.heap.size (w8.heap.size + 1) (w8.heap.size + 1 + 1) w.heap.size).length := by rw [HOF.out.2]; exact hj
        have hof : Ofs ((odd w8.heap.size (w8.heap.size + 1) (w8.heap.size + 1 + 1) w.heap.size).getD j vNil).1 none := by
          refine HOF.out.1.2 j _ _ ?_ (List.getElem?_replicate_of_lt hj)
          rw [List.getD_eq_getElem?_getD, List.getElem?_eq_getElem hx]; rfl
        generalize ((odd w8.heap.size (w8.heap.size + 1) (w8.heap.size + 1 + 1) w.heap.size).getD j vNil).1 = x at *
        have HF := Aside0.mk hof
        clear hS hjm hof
        go_wp2_with fail
        refine (tells_none HF.out _).mono ?_
        rintro e w9 ⟨rfl, hb⟩
        have B9 := Aside0.mk (AS.out.below hb)
        clear hb
        go_wp2_with fail
        go_roundg (gk - 1)
        case measure => have := AK.out; omega
        case rel => exact ⟨j + 1, by go_num, by have := AK.out; omega, B9.out⟩
      · have hjl : ¬ (j : Int) < 13 := by omega
        have c0 : wr.cell? ⟨w.heap.size, 0, none⟩ = some (.int .i64 n) := (hS.cell 0).trans rfl
        have L1 := Aside0.mk (hS.litRow (enc := fun x : OV => x.1) (h1 := fun x => x.2) (e := 20) [vInt64 n, vStr s, vBool false, ⟨.iface 21 (.int .i32 r), rfl⟩] (by simp))
        clear hS hjm AK hj
        go_wp2_with fail
        refine (all_ (rs := [some n, some (runesF s), some 0, some r]) L1.out.rowC' (.cons (of_int64 n) (.cons (of_string s) (.cons (of_bool false) (.cons HRR.out .nil)))) (by simp)).mono ?_
        rintro e w10 ⟨v10, rfl, hS10⟩
        rw [show allF [some n, some (runesF s), some 0, some r] = some [n, runesF s, 0, r] from rfl] at hS10 ⊢
        obtain ⟨A10, c10, rfl⟩ := hS10.rowN (n := 4) rfl
        have B10 := (L1.out.lift1 hS10).at3
        clear c0
        have c0 : w10.cell? ⟨w.heap.size, 0, none⟩ = some (.int .i64 n) := (B10.cell 0).trans rfl
        have L2 := Aside0.mk (B10.litRow (enc := fun x : OV => x.1) (h1 := fun x => x.2) (e := 20) [vInt64 n, ⟨.iface 56 (.agg #[.int .i64 1]), rfl⟩, vBool false] (by simp))
        clear hS10 B10
        go_wp2_with fail
        refine (all_ (rs := [some n, none, some 0]) L2.out.rowC' (.cons (of_int64 n) (.cons (of_type (by decide)) (.cons (of_bool false) .nil))) (by simp)).mono ?_
        rintro e w11 ⟨v11, rfl, hS11⟩
        rw [show allF [some n, none, some 0] = none from rfl] at hS11 ⊢
        obtain ⟨A11, c11, rfl⟩ := hS11.rowN (n := 0) rfl
        have B11 := Aside0.mk ((L2.out.lift1 hS11).tail.tail.drew)
        have d0 := (B11.out.cell 0).trans (rfl : _ = some (Value.int .i64 n))
        clear hS11 c0
        go_wp2_with fail
        refine start_ (n := 22) (S := fun w' => w'.cell? ⟨w.heap.size, 0, none⟩ = some (.int .i64 n)) (ds := [10]) #[false, false, false, false, false, false, false, false, false, false, false, false, false, false, false, false, false, false, false, false, false, false] (by kernel_rfl) rfl rfl (d0) (fun hHeld => ?_)
        refine pure_ (i := 0) (N := some 123) (v := ?_) (a' := ?_) #[true, false, false, false, false, false, false, false, false, false, false, false, false, false, false, false, false, false, false, false, false, false] rfl rfl (by kernel_rfl) (fun _ _ _ h => h) (Or.inl ⟨by rfl, ?_⟩) ?_ ?_
        rotate_left
        · intro w'
          go_simp
          with_reducible rfl
        rotate_left
        · simp only [Act.put, List.setIfInBounds_toArray, List.set_cons_zero, List.set_cons_succ, i64_w, i32_w]
          rfl
        refine pure_ (i := 1) (N := some 124) (v := ?_) (a' := ?_) #[true, true, false, false, false, false, false, false, false, false, false, false, false, false, false, false, false, false, false, false, false, false] rfl rfl (by kernel_rfl) (fun _ _ _ h => h) (Or.inl ⟨by rfl, ?_⟩) ?_ ?_
        rotate_left
        · intro w'
          go_simp
          with_reducible rfl
        rotate_left
        · simp only [Act.put, List.setIfInBounds_toArray, List.set_cons_zero, List.set_cons_succ, i64_w, i32_w]
          rfl
        refine pure_ (i := 2) (N := some 125) (v := ?_) (a' := ?_) #[true, true, true, false, false, false, false, false, false, false, false, false, false, false, false, false, false, false, false, false, false, false] rfl rfl (by kernel_rfl) (fun _ _ _ h => h) (Or.inl ⟨by rfl, ?_⟩) ?_ ?_
        rotate_left
        · intro w'
          go_simp
          with_reducible rfl
        rotate_left
        · simp only [Act.put, List.setIfInBounds_toArray, List.set_cons_zero, List.set_cons_succ, i64_w, i32_w]
          rfl
        refine pure_ (i := 4) (N := some 127) (v := ?_) (a' := ?_) #[true, true, true, false, true, false, false, false, false, false, false, false, false, false, false, false, false, false, false, false, false, false] rfl rfl (by kernel_rfl) (fun _ _ _ h => h) (Or.inl ⟨by rfl, ?_⟩) ?_ ?_
        rotate_left
        · intro w'
          go_simp
          with_reducible rfl
        rotate_left
        · simp only [Act.put, List.setIfInBounds_toArray, List.set_cons_zero, List.set_cons_succ, i64_w, i32_w]
          rfl
        refine pure_ (i := 6) (N := some 129) (v := ?_) (a' := ?_) #[true, true, true, false, true, false, true, false, false, false, false, false, false, false, false, false, false, false, false, false, false, false] rfl rfl (by kernel_rfl) (fun _ _ _ h => h) (Or.inl ⟨by rfl, ?_⟩) ?_ ?_
        rotate_left
        · intro w'
          go_simp
          with_reducible rfl
        rotate_left
        · simp only [Act.put, List.setIfInBounds_toArray, List.set_cons_zero, List.set_cons_succ, i64_w, i32_w]
          rfl
        refine pure_ (i := 7) (N := some 130) (v := ?_) (a' := ?_) #[true, true, true, false, true, false, true, true, false, false, false, false, false, false, false, false, false, false, false, false, false, false] rfl rfl (by kernel_rfl) (fun _ _ _ h => h) (Or.inl ⟨by rfl, ?_⟩) ?_ ?_
        rotate_left
        · intro w'
          go_simp
          with_reducible rfl
        rotate_left
        · simp only [Act.put, List.setIfInBounds_toArray, List.set_cons_zero, List.set_cons_succ, i64_w, i32_w]
          rfl
        refine pure_ (i := 8) (N := some 131) (v := ?_) (a' := ?_) #[true, true, true, false, true, false, true, true, true, false, false, false, false, false, false, false, false, false, false, false, false, false] rfl rfl (by kernel_rfl) (fun _ _ _ h => h) (Or.inl ⟨by rfl, ?_⟩) ?_ ?_
        rotate_left
        · intro w'
          go_simp
          with_reducible rfl
        rotate_left
        · simp only [Act.put, List.setIfInBounds_toArray, List.set_cons_zero, List.set_cons_succ, i64_w, i32_w]
          rfl
        refine take_ (i := 3) (N := some 126) (v := ?_) (a' := ?_) #[true, true, true, true, true, false, true, true, true, false, false, false, false, false, false, false, false, false, false, false, false, false] rfl rfl (by kernel_rfl) (fun _ _ _ h => h) (Or.inl ⟨by rfl, ?_⟩) hHeld ?_ ?_
        rotate_left
        · intro w' s0
          go_simp
          with_reducible rfl
        rotate_left
        · simp only [Act.put, List.setIfInBounds_toArray, List.set_cons_zero, List.set_cons_succ, i64_w, i32_w]
          rfl
        refine one_ (i := 5) (N := some 128) #[true, true, true, true, true, true, true, true, true, false, false, false, false, false, false, false, false, false, false, false, false, false] rfl rfl (by kernel_rfl) (by decide) (fun K hK => ?_)
        refine goes_ Try.func39 (by kernel_rfl) rfl #[.string s] (by rfl) rfl rfl (by simp only [List.map_toArray, List.map_cons, List.map_nil]; rfl) ?_
        with_reducible refine (count_ s _).mono ?_
        rintro e w12 ⟨rfl, hb12⟩
        refine ⟨_, rfl, ?_⟩
        have B12 := Aside0.mk (B11.out.below hb12)
        clear hb12
        refine hK.out _ _ ((B12.out.cell 0).trans rfl) (fun hHeld => ?_)
        clear hK K
        refine norm_ (a' := ?_) ?_ ?_
        rotate_left
        · show Act.put _ (some 128) _ = _
          simp only [Act.put, List.setIfInBounds_toArray, List.set_cons_zero, List.set_cons_succ, i64_w, i32_w]
          rfl
        refine one_ (i := 9) (N := some 132) #[true, true, true, true, true, true, true, true, true, true, false, false, false, false, false, false, false, false, false, false, false, false] rfl rfl (by kernel_rfl) (by decide) (fun K hK => ?_)
        have L12 := Aside0.mk (B12.out.litRow (enc := Value.int .i64) (h1 := fun _ => rfl) (e := 2) [n, runesF s, 0, r] (by simp))
        have HS12 : Aside0 (L64.C (w12.alloc (.cells #[.int .i64 n, .int .i64 (runesF s), .int .i64 0, .int .i64 r] 2)) (some ⟨w12.heap.size, 0, none⟩) 4 [n, runesF s, 0, r]) := ⟨L12.out.rowC'⟩
        have HT12 : Aside0 (L64.C (w12.alloc (.cells #[.int .i64 n, .int .i64 (runesF s), .int .i64 0, .int .i64 r] 2)) A10 4 [n, runesF s, 0, r]) := ⟨L12.out.at3.rowC'⟩
        refine value_ (w1 := ?_) (v := ?_) (by rfl) rfl ?_ ?_
        rotate_left 2
        · go_simp
          constructor
          · rfl
          · rfl
        refine hK.out _ _ ((L12.out.at2.cell 0).trans rfl) (fun hHeld => ?_)
        clear hK K
        refine norm_ (a' := ?_) ?_ ?_
        rotate_left
        · show Act.put _ (some 132) _ = _
          simp only [Act.put, List.setIfInBounds_toArray, List.set_cons_zero, List.set_cons_succ, i64_w, i32_w]
          rfl
        refine last_ (i := 10) (N := some 133) #[true, true, true, true, true, true, true, true, true, true, true, false, false, false, false, false, false, false, false, false, false, false] rfl rfl (by kernel_rfl) (by decide) (fun K hK => ?_)
        refine goes_ Try.func40 (by kernel_rfl) rfl #[.slice A10 4 c10, .slice (some ⟨w12.heap.size, 0, none⟩) 4 4] (by rfl) rfl rfl (by simp only [List.map_toArray, List.map_cons, List.map_nil]; rfl) ?_
        with_reducible refine (Book.sameL_ (xs := [n, runesF s, 0, r]) (ys := [n, runesF s, 0, r]) HT12.out HS12.out).mono ?_
        rintro e w13 ⟨rfl, hb13⟩
        refine ⟨_, rfl, ?_⟩
        rw [decide_eq_true rfl]
        refine hK.out _ _ ?_
        clear hK K
        refine norm_ (a' := ?_) ?_ ?_
        rotate_left
        · show Act.put _ (some 133) _ = _
          simp only [Act.put, List.setIfInBounds_toArray, List.set_cons_zero, List.set_cons_succ, i64_w, i32_w]
          rfl
        refine pure_ (i := 11) (N := some 134) (v := ?_) (a' := ?_) #[true, true, true, true, true, true, true, true, true, true, true, true, false, false, false, false, false, false, false, false, false, false] rfl rfl (by kernel_rfl) (fun _ _ _ h => h) (Or.inl ⟨by rfl, ?_⟩) ?_ ?_
        rotate_left
        · intro w'
          go_simp
          with_reducible rfl
        rotate_left
        · simp only [Act.put, List.setIfInBounds_toArray, List.set_cons_zero, List.set_cons_succ, i64_w, i32_w]
          rfl
        refine pure_ (i := 12) (N := some 135) (v := ?_) (a' := ?_) #[true, true, true, true, true, true, true, true, true, true, true, true, true, false, false, false, false, false, false, false, false, false] rfl rfl (by kernel_rfl) (fun _ _ _ h => h) (Or.inl ⟨by rfl, ?_⟩) ?_ ?_
        rotate_left
        · intro w'
          go_simp
          with_reducible rfl
        rotate_left
        · simp only [Act.put, List.setIfInBounds_toArray, List.set_cons_zero, List.set_cons_succ, i64_w, i32_w]
          rfl
        refine pure_ (i := 13) (N := some 136) (v := ?_) (a' := ?_) #[true, true, true, true, true, true, true, true, true, true, true, true, true, true, false, false, false, false, false, false, false, false] rfl rfl (by kernel_rfl) (fun _ _ _ h => h) (Or.inl ⟨by rfl, ?_⟩) ?_ ?_
        rotate_left
        · intro w'
          go_simp
          with_reducible rfl
        rotate_left
        · simp only [Act.put, List.setIfInBounds_toArray, List.set_cons_zero, List.set_cons_succ, i64_w, i32_w]
          rfl
        refine pure_ (i := 14) (N := some 137) (v := ?_) (a' := ?_) #[true, true, true, true, true, true, true, true, true, true, true, true, true, true, true, false, false, false, false, false, false, false] rfl rfl (by kernel_rfl) (fun _ _ _ h => h) (Or.inl ⟨by rfl, ?_⟩) ?_ ?_
        rotate_left
        · intro w'
          go_simp
          with_reducible rfl
        rotate_left
        · simp only [Act.put, List.setIfInBounds_toArray, List.set_cons_zero, List.set_cons_succ, i64_w, i32_w]
          rfl
        refine pure_ (i := 15) (N := some 138) (v := ?_) (a' := ?_) #[true, true, true, true, true, true, true, true, true, true, true, true, true, true, true, true, false, false, false, false, false, false] rfl rfl (by kernel_rfl) (fun _ _ _ h => h) (Or.inl ⟨by rfl, ?_⟩) ?_ ?_
        rotate_left
        · intro w'
          go_simp
          with_reducible rfl
        rotate_left
        · simp only [Act.put, List.setIfInBounds_toArray, List.set_cons_zero, List.set_cons_succ, i64_w, i32_w]
          rfl
        refine pure_ (i := 16) (N := some 139) (v := ?_) (a' := ?_) #[true, true, true, true, true, true, true, true, true, true, true, true, true, true, true, true, true, false, false, false, false, false] rfl rfl (by kernel_rfl) (fun _ _ _ h => h) (Or.inl ⟨by rfl, ?_⟩) ?_ ?_
        rotate_left
        · intro w'
          go_simp
          with_reducible rfl
        rotate_left
        · simp only [Act.put, List.setIfInBounds_toArray, List.set_cons_zero, List.set_cons_succ, i64_w, i32_w]
          rfl
        refine pure_ (i := 17) (N := some 140) (v := ?_) (a' := ?_) #[true, true, true, true, true, true, true, true, true, true, true, true, true, true, true, true, true, true, false, false, false, false] rfl rfl (by kernel_rfl) (fun _ _ _ h => h) (Or.inl ⟨by rfl, ?_⟩) ?_ ?_
        rotate_left
        · intro w'
          go_simp
          with_reducible rfl
        rotate_left
        · simp only [Act.put, List.setIfInBounds_toArray, List.set_cons_zero, List.set_cons_succ, i64_w, i32_w]
          rfl
        refine pure_ (i := 18) (N := some 141) (v := ?_) (a' := ?_) #[true, true, true, true, true, true, true, true, true, true, true, true, true, true, true, true, true, true, true, false, false, false] rfl rfl (by kernel_rfl) (fun _ _ _ h => h) (Or.inl ⟨by rfl, ?_⟩) ?_ ?_
        rotate_left
        · intro w'
          go_simp
          with_reducible rfl
        rotate_left
        · simp only [Act.put, List.setIfInBounds_toArray, List.set_cons_zero, List.set_cons_succ, i64_w, i32_w]
          rfl
        refine pure_ (i := 19) (N := some 142) (v := ?_) (a' := ?_) #[true, true, true, true, true, true, true, true, true, true, true, true, true, true, true, true, true, true, true, true, false, false] rfl rfl (by kernel_rfl) (fun _ _ _ h => h) (Or.inl ⟨by rfl, ?_⟩) ?_ ?_
        rotate_left
        · intro w'
          go_simp
          with_reducible rfl
        rotate_left
        · simp only [Act.put, List.setIfInBounds_toArray, List.set_cons_zero, List.set_cons_succ, i64_w, i32_w]
          rfl
        refine pure_ (i := 20) (N := some 143) (v := ?_) (a' := ?_) #[true, true, true, true, true, true, true, true, true, true, true, true, true, true, true, true, true, true, true, true, true, false] rfl rfl (by kernel_rfl) (fun _ _ _ h => h) (Or.inl ⟨by rfl, ?_⟩) ?_ ?_
        rotate_left
        · intro w'
          go_simp
          with_reducible rfl
        rotate_left
        · simp only [Act.put, List.setIfInBounds_toArray, List.set_cons_zero, List.set_cons_succ, i64_w, i32_w]
          rfl
        refine pure_ (i := 21) (N := some 10) (v := ?_) (a' := ?_) #[true, true, true, true, true, true, true, true, true, true, true, true, true, true, true, true, true, true, true, true, true, true] rfl rfl (by kernel_rfl) (fun _ _ _ h => h) (Or.inl ⟨by rfl, ?_⟩) ?_ ?_
        rotate_left
        · intro w'
          go_simp
          with_reducible rfl
        rotate_left
        · simp only [Act.put, List.setIfInBounds_toArray, List.set_cons_zero, List.set_cons_succ, i64_w, i32_w]
          rfl
        refine done_ (by kernel_rfl) ?_
        go_wp2_with fail
        go_ret
        exact ⟨by first | rfl | (simp; done), (L12.out.below hb13).toBelow⟩
end Go.Proofs.Ytfpkhlhojjmgiaa.Reply
