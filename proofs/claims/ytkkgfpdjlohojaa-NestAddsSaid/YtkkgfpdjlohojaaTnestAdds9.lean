/- Func4, Func5: what NestAdds needs. -/
import Derived.Test.YtkkgfpdjlohojaaTnestAdds8
set_option linter.unusedVariables false
set_option linter.unusedSimpArgs false
namespace Go.Proofs.Ytkkgfpdjlohojaa.Fn
open Go.RowKit Go.Proofs.YtkkgfpdjlohojaaW.PrintWords Go.Proofs.YtkkgfpdjlohojaaW.PrintLast Go.Proofs.YtkkgfpdjlohojaaW.PrintMore Go.Proofs.Ytkkgfpdjlohojaa.Kit
open Go.Proofs.Ytkkgfpdjlohojaa.TokP Go.Proofs.Ytkkgfpdjlohojaa.Tok
structure Fnc where
  name : Int
  args : Int
  code : ByteArray
def cellF (f : Fnc) : List Value := [.int .i32 f.name, .int .i64 f.args, .string f.code]
def FC (W : World) (A : Option Addr) (n : Nat) (l : List Fnc) : Prop := (Kd.raw 3).C W A n (l.map cellF)
theorem FC.len {W : World} {A : Option Addr} {n : Nat} {l : List Fnc} (h : FC W A n l) : l.length = n := by
  have := h.1
  rwa [List.length_map] at this
theorem FC.lt {W : World} {A : Option Addr} {n : Nat} {l : List Fnc} (h : FC W A n l) : n ≤ 9223372036854775807 := h.2.1
theorem FC.at_ {W : World} {A : Option Addr} {n : Nat} {l : List Fnc} (h : FC W A n l) {i : Nat} (hi : i < n) :
    ∃ (a : Addr) (f : Fnc), A = some a ∧ l[i]? = some f ∧ W.cell? (a.add (i * 3)) = some (.int .i32 f.name) ∧ W.cell? ⟨(a.add (i * 3)).block, (a.add (i * 3)).off + 1, none⟩ = some (.int .i64 f.args) ∧ W.cell? ⟨(a.add (i * 3)).block, (a.add (i * 3)).off + 2, none⟩ = some (.string f.code) := by
  obtain ⟨hx, a, cs, ha, hK, h0, hj⟩ := elem_ h hi
  have hl : i < l.length := by rw [h.len]; exact hi
  have hK1 : cs = (l.map cellF)[i] := hK.1
  rw [List.getElem_map] at hK1
  subst hK1
  exact ⟨a, l[i], ha, List.getElem?_eq_getElem hl, h0 _ rfl, hj 1 _ (by decide) rfl, hj 2 _ (by decide) rfl⟩
abbrev uV (pg mo : Int) (A : Option Addr) (n c : Nat) : Value := .agg #[.int .i64 pg, .int .i64 mo, .slice A n c]
abbrev uB (gu : Nat) (pg mo : Int) (A : Option Addr) (n c : Nat) : HP := Blk gu 30 #[.int .i64 pg, .int .i64 mo, .slice A n c]
def RetT (e : Ending) : Prop := ∃ (a b : Int) (c : Bool), e = .returned (.tuple #[.int .i64 a, .int .i64 b, .bool c])
section
variable {w0 W : World} {F : List HP} {pg mo : Int} {A : Option Addr} {n c : Nat} {fs : List Fnc}
set_option maxHeartbeats 1600000 in
set_option maxRecDepth 100000 in
theorem find_ (hC : ∀ W', Sep w0 W' F → FC W' A n fs) (h : Sep w0 W F) (nm : Int) :
    Calls Try.prog 45 #[uV pg mo A n c, .int .i32 nm] W fun e w' => ∃ k : Int, e = .returned (.int .i64 k) ∧ (-1 ≤ k ∧ k < n) ∧ Sep w0 w' F := by
  have hnm : n ≤ 9223372036854775807 := (hC W h).lt
  have H1 := Aside0.mk (h.newBlk 30 #[.int .i64 pg, .int .i64 mo, .slice A n c])
  have HC := Aside0.mk hC
  clear h hC
  go_enter Try.func45, Try.ntmps45
  go_wp2_with fail
  obtain ⟨w1, hw1⟩ : ∃ x, W.alloc (.cells #[.int .i64 pg, .int .i64 mo, .slice A n c] 30) = x := ⟨_, rfl⟩
  obtain ⟨gu, hgu⟩ : ∃ x, W.heap.size = x := ⟨_, rfl⟩
  rw [hw1, hgu] at H1
  rw [hw1, hgu]
  clear hw1 hgu
  go_loopg [9] n (fun m q wr => ∃ i : Nat, i + m = n ∧ q = .int .i64 (i : Int) ∧ Sep w0 wr (uB gu pg mo A n c :: F))
  case atStart => exact ⟨0, by omega, rfl, H1.out⟩
  case round =>
    obtain ⟨i, him, rfl, hS⟩ := hrel
    have AK := Aside0.mk him
    have B1 := Aside0.mk hS
    by_cases hi : i < n
    · obtain ⟨ad, f, rfl, hf, d0, d1, d2⟩ := (HC.out _ hS.tail).at_ hi
      have u2 : wr.cell? ⟨gu, 2, none⟩ = some (.slice (some ad) n c) := (hS.cell 2).trans rfl
      have hij : (i : Int) < (n : Int) := by omega
      clear hS him hf d1 d2
      by_cases hx : f.name = nm
      · have hb : (f.name == nm) = true := by simp [hx]
        go_wp2_with fail
        go_ret
        exact ⟨_, by first | rfl | (simp; done), ⟨by omega, by omega⟩, B1.out.tail⟩
      · have hb : (f.name == nm) = false := by simp [hx]
        go_wp2_with fail
        go_roundg (gk - 1)
        case measure => have := AK.out; omega
        case rel => exact ⟨i + 1, by have := AK.out; omega, by go_num, B1.out⟩
    · have hij : ¬ (i : Int) < (n : Int) := by omega
      clear hS him
      go_wp2_with fail
      go_ret
      exact ⟨_, by first | rfl | (simp; done), ⟨by omega, by omega⟩, B1.out.tail⟩
set_option maxHeartbeats 12800000 in
set_option maxRecDepth 100000 in
theorem takes_ (hC : ∀ W', Sep w0 W' F → FC W' A n fs) (h : Sep w0 W F) (r N nm : Int) :
    Calls Try.prog 36 #[uV pg mo A n c, .agg #[.int .i32 r, .int .i64 N, .int .i32 nm]] W fun e w' => RetT e ∧ Sep w0 w' F := by
  have hnm : n ≤ 9223372036854775807 := (hC W h).lt
  have H1 := Aside0.mk ((h.newBlk 30 #[.int .i64 pg, .int .i64 mo, .slice A n c]).newBlk 42 #[.int .i32 r, .int .i64 N, .int .i32 nm])
  have HC := Aside0.mk hC
  clear h hC
  by_cases h48 : r = 48
  · subst h48
    go_enter Try.func36, Try.ntmps36
    go_wp2_with fail
    go_ret3
    exact ⟨⟨_, _, _, rfl⟩, H1.out.tail.tail⟩
  by_cases h35 : r = 35
  · subst h35
    go_enter Try.func36, Try.ntmps36
    go_wp2_with fail
    go_ret3
    exact ⟨⟨_, _, _, rfl⟩, H1.out.tail.tail⟩
  by_cases h44 : r = 44
  · subst h44
    go_enter Try.func36, Try.ntmps36
    go_wp2_with fail
    go_ret3
    exact ⟨⟨_, _, _, rfl⟩, H1.out.tail.tail⟩
  by_cases h46 : r = 46
  · subst h46
    go_enter Try.func36, Try.ntmps36
    go_wp2_with fail
    go_ret3
    exact ⟨⟨_, _, _, rfl⟩, H1.out.tail.tail⟩
  have b48 : (r == 48) = false := by simp [h48]
  have b35 : (r == 35) = false := by simp [h35]
  have b44 : (r == 44) = false := by simp [h44]
  have b46 : (r == 46) = false := by simp [h46]
  by_cases hlow : 97 ≤ r ∧ r ≤ 122
  · obtain ⟨q1, q2⟩ := hlow
    have e1 : decide (97 ≤ r) = true := decide_eq_true q1
    have e2 : decide (r ≤ 122) = true := decide_eq_true q2
    go_enter Try.func36, Try.ntmps36
    go_wp2_with fail
    go_ret3
    exact ⟨⟨_, _, _, rfl⟩, H1.out.tail.tail⟩
  by_cases hup : 65 ≤ r ∧ r ≤ 90
  · obtain ⟨q1, q2⟩ := hup
    have e1 : decide (97 ≤ r) = false := decide_eq_false (by omega)
    have e3 : decide (65 ≤ r) = true := decide_eq_true q1
    have e4 : decide (r ≤ 90) = true := decide_eq_true q2
    go_enter Try.func36, Try.ntmps36
    go_wp2_with fail
    go_ret3
    exact ⟨⟨_, _, _, rfl⟩, H1.out.tail.tail⟩
  by_cases ha : 97 ≤ r
  · have e1 : decide (97 ≤ r) = true := decide_eq_true ha
    have e2 : decide (r ≤ 122) = false := decide_eq_false (fun h => hlow ⟨ha, h⟩)
    have e3 : decide (65 ≤ r) = true := decide_eq_true (by omega)
    have e4 : decide (r ≤ 90) = false := decide_eq_false (by omega)
    go_enter Try.func36, Try.ntmps36
    go_wp2_with fail
    obtain ⟨w1, hw1⟩ : ∃ x, (W.alloc (.cells #[.int .i64 pg, .int .i64 mo, .slice A n c] 30)).alloc (.cells #[.int .i32 r, .int .i64 N, .int .i32 nm] 42) = x := ⟨_, rfl⟩
    have H2 : Aside0 (Sep w0 w1 (Blk (W.heap.size + 1) 42 #[.int .i32 r, .int .i64 N, .int .i32 nm] :: uB W.heap.size pg mo A n c :: F)) := ⟨by rw [← hw1]; have h9 := H1.out; rw [NestR.alloc_size] at h9; exact h9⟩
    rw [hw1]
    obtain ⟨gu, hgu⟩ : ∃ x, W.heap.size = x := ⟨_, rfl⟩
    rw [hgu] at H2 ⊢
    obtain ⟨gt, hgt⟩ : ∃ x, gu + 1 = x := ⟨_, rfl⟩
    rw [hgt] at H2 ⊢
    clear hw1 hgu hgt
    refine (RefT.has_ H2.out _ r).mono ?_
    rintro e w2 ⟨rfl, hS⟩
    have B2 := Aside0.mk hS
    clear hS
    generalize decide (r ∈ runesS _) = x1
    cases x1 with
    | true =>
      go_wp2_with fail
      go_ret3
      exact ⟨⟨_, _, _, rfl⟩, B2.out.tail.tail⟩
    | false =>
      go_wp2_with fail
      refine (RefT.has_ B2.out _ r).mono ?_
      rintro e w3 ⟨rfl, hS⟩
      have B3 := Aside0.mk hS
      clear hS
      generalize decide (r ∈ runesS _) = x2
      cases x2 with
      | true =>
        go_wp2_with fail
        go_ret3
        exact ⟨⟨_, _, _, rfl⟩, B3.out.tail.tail⟩
      | false =>
        by_cases h36 : r = 36
        · have b36 : (r == 36) = true := by simp [h36]
          go_wp2_with fail
          go_ret3
          exact ⟨⟨_, _, _, rfl⟩, B3.out.tail.tail⟩
        have b36 : (r == 36) = false := by simp [h36]
        by_cases h174 : r = 174
        · have b174 : (r == 174) = true := by simp [h174]
          go_wp2_with fail
          go_ret3
          exact ⟨⟨_, _, _, rfl⟩, B3.out.tail.tail⟩
        have b174 : (r == 174) = false := by simp [h174]
        by_cases h63 : r = 63
        · have b63 : (r == 63) = true := by simp [h63]
          go_wp2_with fail
          go_ret3
          exact ⟨⟨_, _, _, rfl⟩, B3.out.tail.tail⟩
        have b63 : (r == 63) = false := by simp [h63]
        go_wp2_with fail
        refine (RefT.has_ B3.out _ r).mono ?_
        rintro e w4 ⟨rfl, hS⟩
        have B4 := Aside0.mk hS
        clear hS
        generalize decide (r ∈ runesS _) = x3
        cases x3 with
        | true =>
          go_wp2_with fail
          go_ret3
          exact ⟨⟨_, _, _, rfl⟩, B4.out.tail.tail⟩
        | false =>
          by_cases h955 : r = 955
          · have b955 : (r == 955) = true := by simp [h955]
            have u0 : w4.cell? ⟨gu, 0, none⟩ = some (.int .i64 pg) := (B4.out.at2.cell 0).trans rfl
            have u1 : w4.cell? ⟨gu, 1, none⟩ = some (.int .i64 mo) := (B4.out.at2.cell 1).trans rfl
            have u2 : w4.cell? ⟨gu, 2, none⟩ = some (.slice A n c) := (B4.out.at2.cell 2).trans rfl
            have t2 : w4.cell? ⟨gt, 2, none⟩ = some (.int .i32 nm) := (B4.out.cell 2).trans rfl
            clear h48 h35 h44 h46 h36 h174 h63 hlow hup h955
            go_wp2_with fail
            refine (find_ (fun W' h' => HC.out W' h'.tail.tail) B4.out nm).mono ?_
            rintro e w5 ⟨k, rfl, ⟨k1, k2⟩, hS⟩
            have B5 := Aside0.mk hS
            have v2 : w5.cell? ⟨gu, 2, none⟩ = some (.slice A n c) := (hS.at2.cell 2).trans rfl
            by_cases hk : 0 ≤ k
            · obtain ⟨j, rfl⟩ := Int.eq_ofNat_of_zero_le hk
              obtain ⟨ad, f, rfl, hf, d0, d1, d2⟩ := (HC.out _ hS.tail.tail).at_ (i := j) (by omega)
              obtain ⟨ar, har⟩ : ∃ x, f.args = x := ⟨_, rfl⟩
              rw [har] at d1
              have hkd : decide (0 ≤ (j : Int)) = true := decide_eq_true hk
              clear hS d0 d2 hf har u0 u1 u2 t2 k1
              by_cases ha : 0 ≤ ar
              · have had : decide (0 ≤ ar) = true := decide_eq_true ha
                by_cases ha4 : ar ≤ 4
                · have had4 : decide (ar ≤ 4) = true := decide_eq_true ha4
                  go_wp2_with fail
                  go_ret3
                  exact ⟨⟨_, _, _, rfl⟩, B5.out.tail.tail⟩
                · have had4 : decide (ar ≤ 4) = false := decide_eq_false ha4
                  go_wp2_with fail
                  go_ret3
                  exact ⟨⟨_, _, _, rfl⟩, B5.out.tail.tail⟩
              · have had : decide (0 ≤ ar) = false := decide_eq_false ha
                go_wp2_with fail
                go_ret3
                exact ⟨⟨_, _, _, rfl⟩, B5.out.tail.tail⟩
            · have hkd : decide (0 ≤ k) = false := decide_eq_false hk
              clear hS u0 u1 u2 t2
              go_wp2_with fail
              go_ret3
              exact ⟨⟨_, _, _, rfl⟩, B5.out.tail.tail⟩
          · have b955 : (r == 955) = false := by simp [h955]
            go_wp2_with fail
            go_ret3
            exact ⟨⟨_, _, _, rfl⟩, B4.out.tail.tail⟩
  · have e1 : decide (97 ≤ r) = false := decide_eq_false ha
    by_cases hb : 65 ≤ r
    · have e3 : decide (65 ≤ r) = true := decide_eq_true hb
      have e4 : decide (r ≤ 90) = false := decide_eq_false (fun h => hup ⟨hb, h⟩)
      go_enter Try.func36, Try.ntmps36
      go_wp2_with fail
      obtain ⟨w1, hw1⟩ : ∃ x, (W.alloc (.cells #[.int .i64 pg, .int .i64 mo, .slice A n c] 30)).alloc (.cells #[.int .i32 r, .int .i64 N, .int .i32 nm] 42) = x := ⟨_, rfl⟩
      have H2 : Aside0 (Sep w0 w1 (Blk (W.heap.size + 1) 42 #[.int .i32 r, .int .i64 N, .int .i32 nm] :: uB W.heap.size pg mo A n c :: F)) := ⟨by rw [← hw1]; have h9 := H1.out; rw [NestR.alloc_size] at h9; exact h9⟩
      rw [hw1]
      obtain ⟨gu, hgu⟩ : ∃ x, W.heap.size = x := ⟨_, rfl⟩
      rw [hgu] at H2 ⊢
      obtain ⟨gt, hgt⟩ : ∃ x, gu + 1 = x := ⟨_, rfl⟩
      rw [hgt] at H2 ⊢
      clear hw1 hgu hgt
      refine (RefT.has_ H2.out _ r).mono ?_
      rintro e w2 ⟨rfl, hS⟩
      have B2 := Aside0.mk hS
      clear hS
      generalize decide (r ∈ runesS _) = x1
      cases x1 with
      | true =>
        go_wp2_with fail
        go_ret3
        exact ⟨⟨_, _, _, rfl⟩, B2.out.tail.tail⟩
      | false =>
        go_wp2_with fail
        refine (RefT.has_ B2.out _ r).mono ?_
        rintro e w3 ⟨rfl, hS⟩
        have B3 := Aside0.mk hS
        clear hS
        generalize decide (r ∈ runesS _) = x2
        cases x2 with
        | true =>
          go_wp2_with fail
          go_ret3
          exact ⟨⟨_, _, _, rfl⟩, B3.out.tail.tail⟩
        | false =>
          by_cases h36 : r = 36
          · have b36 : (r == 36) = true := by simp [h36]
            go_wp2_with fail
            go_ret3
            exact ⟨⟨_, _, _, rfl⟩, B3.out.tail.tail⟩
          have b36 : (r == 36) = false := by simp [h36]
          by_cases h174 : r = 174
          · have b174 : (r == 174) = true := by simp [h174]
            go_wp2_with fail
            go_ret3
            exact ⟨⟨_, _, _, rfl⟩, B3.out.tail.tail⟩
          have b174 : (r == 174) = false := by simp [h174]
          by_cases h63 : r = 63
          · have b63 : (r == 63) = true := by simp [h63]
            go_wp2_with fail
            go_ret3
            exact ⟨⟨_, _, _, rfl⟩, B3.out.tail.tail⟩
          have b63 : (r == 63) = false := by simp [h63]
          go_wp2_with fail
          refine (RefT.has_ B3.out _ r).mono ?_
          rintro e w4 ⟨rfl, hS⟩
          have B4 := Aside0.mk hS
          clear hS
          generalize decide (r ∈ runesS _) = x3
          cases x3 with
          | true =>
            go_wp2_with fail
            go_ret3
            exact ⟨⟨_, _, _, rfl⟩, B4.out.tail.tail⟩
          | false =>
            by_cases h955 : r = 955
            · have b955 : (r == 955) = true := by simp [h955]
              have u0 : w4.cell? ⟨gu, 0, none⟩ = some (.int .i64 pg) := (B4.out.at2.cell 0).trans rfl
              have u1 : w4.cell? ⟨gu, 1, none⟩ = some (.int .i64 mo) := (B4.out.at2.cell 1).trans rfl
              have u2 : w4.cell? ⟨gu, 2, none⟩ = some (.slice A n c) := (B4.out.at2.cell 2).trans rfl
              have t2 : w4.cell? ⟨gt, 2, none⟩ = some (.int .i32 nm) := (B4.out.cell 2).trans rfl
              clear h48 h35 h44 h46 h36 h174 h63 hlow hup h955
              go_wp2_with fail
              refine (find_ (fun W' h' => HC.out W' h'.tail.tail) B4.out nm).mono ?_
              rintro e w5 ⟨k, rfl, ⟨k1, k2⟩, hS⟩
              have B5 := Aside0.mk hS
              have v2 : w5.cell? ⟨gu, 2, none⟩ = some (.slice A n c) := (hS.at2.cell 2).trans rfl
              by_cases hk : 0 ≤ k
              · obtain ⟨j, rfl⟩ := Int.eq_ofNat_of_zero_le hk
                obtain ⟨ad, f, rfl, hf, d0, d1, d2⟩ := (HC.out _ hS.tail.tail).at_ (i := j) (by omega)
                obtain ⟨ar, har⟩ : ∃ x, f.args = x := ⟨_, rfl⟩
                rw [har] at d1
                have hkd : decide (0 ≤ (j : Int)) = true := decide_eq_true hk
                clear hS d0 d2 hf har u0 u1 u2 t2 k1
                by_cases ha : 0 ≤ ar
                · have had : decide (0 ≤ ar) = true := decide_eq_true ha
                  by_cases ha4 : ar ≤ 4
                  · have had4 : decide (ar ≤ 4) = true := decide_eq_true ha4
                    go_wp2_with fail
                    go_ret3
                    exact ⟨⟨_, _, _, rfl⟩, B5.out.tail.tail⟩
                  · have had4 : decide (ar ≤ 4) = false := decide_eq_false ha4
                    go_wp2_with fail
                    go_ret3
                    exact ⟨⟨_, _, _, rfl⟩, B5.out.tail.tail⟩
                · have had : decide (0 ≤ ar) = false := decide_eq_false ha
                  go_wp2_with fail
                  go_ret3
                  exact ⟨⟨_, _, _, rfl⟩, B5.out.tail.tail⟩
              · have hkd : decide (0 ≤ k) = false := decide_eq_false hk
                clear hS u0 u1 u2 t2
                go_wp2_with fail
                go_ret3
                exact ⟨⟨_, _, _, rfl⟩, B5.out.tail.tail⟩
            · have b955 : (r == 955) = false := by simp [h955]
              go_wp2_with fail
              go_ret3
              exact ⟨⟨_, _, _, rfl⟩, B4.out.tail.tail⟩
    · have e3 : decide (65 ≤ r) = false := decide_eq_false hb
      go_enter Try.func36, Try.ntmps36
      go_wp2_with fail
      obtain ⟨w1, hw1⟩ : ∃ x, (W.alloc (.cells #[.int .i64 pg, .int .i64 mo, .slice A n c] 30)).alloc (.cells #[.int .i32 r, .int .i64 N, .int .i32 nm] 42) = x := ⟨_, rfl⟩
      have H2 : Aside0 (Sep w0 w1 (Blk (W.heap.size + 1) 42 #[.int .i32 r, .int .i64 N, .int .i32 nm] :: uB W.heap.size pg mo A n c :: F)) := ⟨by rw [← hw1]; have h9 := H1.out; rw [NestR.alloc_size] at h9; exact h9⟩
      rw [hw1]
      obtain ⟨gu, hgu⟩ : ∃ x, W.heap.size = x := ⟨_, rfl⟩
      rw [hgu] at H2 ⊢
      obtain ⟨gt, hgt⟩ : ∃ x, gu + 1 = x := ⟨_, rfl⟩
      rw [hgt] at H2 ⊢
      clear hw1 hgu hgt
      refine (RefT.has_ H2.out _ r).mono ?_
      rintro e w2 ⟨rfl, hS⟩
      have B2 := Aside0.mk hS
      clear hS
      generalize decide (r ∈ runesS _) = x1
      cases x1 with
      | true =>
        go_wp2_with fail
        go_ret3
        exact ⟨⟨_, _, _, rfl⟩, B2.out.tail.tail⟩
      | false =>
        go_wp2_with fail
        refine (RefT.has_ B2.out _ r).mono ?_
        rintro e w3 ⟨rfl, hS⟩
        have B3 := Aside0.mk hS
        clear hS
        generalize decide (r ∈ runesS _) = x2
        cases x2 with
        | true =>
          go_wp2_with fail
          go_ret3
          exact ⟨⟨_, _, _, rfl⟩, B3.out.tail.tail⟩
        | false =>
          by_cases h36 : r = 36
          · have b36 : (r == 36) = true := by simp [h36]
            go_wp2_with fail
            go_ret3
            exact ⟨⟨_, _, _, rfl⟩, B3.out.tail.tail⟩
          have b36 : (r == 36) = false := by simp [h36]
          by_cases h174 : r = 174
          · have b174 : (r == 174) = true := by simp [h174]
            go_wp2_with fail
            go_ret3
            exact ⟨⟨_, _, _, rfl⟩, B3.out.tail.tail⟩
          have b174 : (r == 174) = false := by simp [h174]
          by_cases h63 : r = 63
          · have b63 : (r == 63) = true := by simp [h63]
            go_wp2_with fail
            go_ret3
            exact ⟨⟨_, _, _, rfl⟩, B3.out.tail.tail⟩
          have b63 : (r == 63) = false := by simp [h63]
          go_wp2_with fail
          refine (RefT.has_ B3.out _ r).mono ?_
          rintro e w4 ⟨rfl, hS⟩
          have B4 := Aside0.mk hS
          clear hS
          generalize decide (r ∈ runesS _) = x3
          cases x3 with
          | true =>
            go_wp2_with fail
            go_ret3
            exact ⟨⟨_, _, _, rfl⟩, B4.out.tail.tail⟩
          | false =>
            by_cases h955 : r = 955
            · have b955 : (r == 955) = true := by simp [h955]
              have u0 : w4.cell? ⟨gu, 0, none⟩ = some (.int .i64 pg) := (B4.out.at2.cell 0).trans rfl
              have u1 : w4.cell? ⟨gu, 1, none⟩ = some (.int .i64 mo) := (B4.out.at2.cell 1).trans rfl
              have u2 : w4.cell? ⟨gu, 2, none⟩ = some (.slice A n c) := (B4.out.at2.cell 2).trans rfl
              have t2 : w4.cell? ⟨gt, 2, none⟩ = some (.int .i32 nm) := (B4.out.cell 2).trans rfl
              clear h48 h35 h44 h46 h36 h174 h63 hlow hup h955
              go_wp2_with fail
              refine (find_ (fun W' h' => HC.out W' h'.tail.tail) B4.out nm).mono ?_
              rintro e w5 ⟨k, rfl, ⟨k1, k2⟩, hS⟩
              have B5 := Aside0.mk hS
              have v2 : w5.cell? ⟨gu, 2, none⟩ = some (.slice A n c) := (hS.at2.cell 2).trans rfl
              by_cases hk : 0 ≤ k
              · obtain ⟨j, rfl⟩ := Int.eq_ofNat_of_zero_le hk
                obtain ⟨ad, f, rfl, hf, d0, d1, d2⟩ := (HC.out _ hS.tail.tail).at_ (i := j) (by omega)
                obtain ⟨ar, har⟩ : ∃ x, f.args = x := ⟨_, rfl⟩
                rw [har] at d1
                have hkd : decide (0 ≤ (j : Int)) = true := decide_eq_true hk
                clear hS d0 d2 hf har u0 u1 u2 t2 k1
                by_cases ha : 0 ≤ ar
                · have had : decide (0 ≤ ar) = true := decide_eq_true ha
                  by_cases ha4 : ar ≤ 4
                  · have had4 : decide (ar ≤ 4) = true := decide_eq_true ha4
                    go_wp2_with fail
                    go_ret3
                    exact ⟨⟨_, _, _, rfl⟩, B5.out.tail.tail⟩
                  · have had4 : decide (ar ≤ 4) = false := decide_eq_false ha4
                    go_wp2_with fail
                    go_ret3
                    exact ⟨⟨_, _, _, rfl⟩, B5.out.tail.tail⟩
                · have had : decide (0 ≤ ar) = false := decide_eq_false ha
                  go_wp2_with fail
                  go_ret3
                  exact ⟨⟨_, _, _, rfl⟩, B5.out.tail.tail⟩
              · have hkd : decide (0 ≤ k) = false := decide_eq_false hk
                clear hS u0 u1 u2 t2
                go_wp2_with fail
                go_ret3
                exact ⟨⟨_, _, _, rfl⟩, B5.out.tail.tail⟩
            · have b955 : (r == 955) = false := by simp [h955]
              go_wp2_with fail
              go_ret3
              exact ⟨⟨_, _, _, rfl⟩, B4.out.tail.tail⟩
end
end Go.Proofs.Ytkkgfpdjlohojaa.Fn
namespace Go.Proofs.Ytkkgfpdjlohojaa.Fn
open Go.RowKit Go.Proofs.YtkkgfpdjlohojaaW.PrintWords Go.Proofs.YtkkgfpdjlohojaaW.PrintLast Go.Proofs.YtkkgfpdjlohojaaW.PrintMore Go.Proofs.Ytkkgfpdjlohojaa.Kit
open Go.Proofs.Ytkkgfpdjlohojaa.TokP Go.Proofs.Ytkkgfpdjlohojaa.Tok
def nx (r : Int) (n : Nat) : Nat := if r = 63 ∨ r = 91 then n + 1 else if r = 59 ∨ r = 93 then n - 1 else n
def TP (w0 w' : World) (F : List HP) (g : Nat) (e : Ending) (r : Int) (n : Nat) : Prop := ∃ (er : Int) (k : Nat), e = .returned (.int .i64 er) ∧ StT w0 w' F g k ∧ (er = 0 → k = nx r n)
abbrev tB (gt : Nat) (r N nm : Int) : HP := Blk gt 42 #[.int .i32 r, .int .i64 N, .int .i32 nm]
section
variable {w0 W : World} {F : List HP} {g : Nat} {h : Int} {vo : Value} {bs : List Bk} {pg mo : Int} {A : Option Addr} {n c : Nat} {fs : List Fnc}
theorem stt_tail {p q : HP} {k : Nat} (h : StT w0 W (p :: q :: F) g k) : StT w0 W F g k := by
  obtain ⟨h', vo', bs', hl, hS⟩ := h
  have h2 : Sep w0 W (p :: q :: Blk g 78 #[.int .i64 h', vo'] :: Row (Kd.raw 4) 86 vo' (bs'.map cellB) :: F) := hS.perm (by
    refine List.Perm.trans (List.Perm.cons _ (List.Perm.swap _ _ _)) ?_
    refine List.Perm.trans (List.Perm.swap _ _ _) (List.Perm.cons _ ?_)
    refine List.Perm.trans (List.Perm.cons _ (List.Perm.swap _ _ _)) ?_
    exact List.Perm.swap _ _ _)
  exact ⟨h', vo', bs', hl, h2.tail.tail⟩
theorem st_box (hS : Sep w0 W (StL g h vo bs F)) (pg mo : Int) (A : Option Addr) (n c : Nat) (r N nm : Int) :
    Sep w0 ((W.alloc (.cells #[.int .i64 pg, .int .i64 mo, .slice A n c] 30)).alloc (.cells #[.int .i32 r, .int .i64 N, .int .i32 nm] 42)) (StL g h vo bs (tB (W.heap.size + 1) r N nm :: uB W.heap.size pg mo A n c :: F)) := by
  have h1 := ((hS.newBlk 30 #[.int .i64 pg, .int .i64 mo, .slice A n c]).newBlk 42 #[.int .i32 r, .int .i64 N, .int .i32 nm])
  rw [NestR.alloc_size] at h1
  exact (Sep.pull [_, _, _] (Sep.pull [_, _] h1)).at2
set_option maxHeartbeats 6400000 in
set_option maxRecDepth 100000 in
theorem tokenE_ (hC : ∀ W', Sep w0 W' F → FC W' A n fs) (hS : Sep w0 W (StL g h vo bs F)) (hp : 0 < bs.length) (r N nm : Int) (hr : r = 58 ∨ r = 59 ∨ r = 93) :
    Calls Try.prog 33 #[.pointer (some ⟨g, 0, none⟩), uV pg mo A n c, .agg #[.int .i32 r, .int .i64 N, .int .i32 nm]] W fun e w' => TP w0 w' F g e r bs.length := by
  have H1 := Aside0.mk (st_box hS pg mo A n c r N nm)
  have HC := Aside0.mk hC
  have HP := Aside0.mk hp
  clear hS hC hp
  obtain ⟨w1, hw1⟩ : ∃ x, (W.alloc (.cells #[.int .i64 pg, .int .i64 mo, .slice A n c] 30)).alloc (.cells #[.int .i32 r, .int .i64 N, .int .i32 nm] 42) = x := ⟨_, rfl⟩
  have H2 := H1
  rw [hw1] at H2
  have u0 : w1.cell? ⟨W.heap.size, 0, none⟩ = some (.int .i64 pg) := (Sep.cell (Sep.pull [_, _, _] H2.out) 0).trans rfl
  have u1 : w1.cell? ⟨W.heap.size, 1, none⟩ = some (.int .i64 mo) := (Sep.cell (Sep.pull [_, _, _] H2.out) 1).trans rfl
  have u2 : w1.cell? ⟨W.heap.size, 2, none⟩ = some (.slice A n c) := (Sep.cell (Sep.pull [_, _, _] H2.out) 2).trans rfl
  have t0 : w1.cell? ⟨W.heap.size + 1, 0, none⟩ = some (.int .i32 r) := (Sep.cell (Sep.pull [_, _] H2.out) 0).trans rfl
  have t1 : w1.cell? ⟨W.heap.size + 1, 1, none⟩ = some (.int .i64 N) := (Sep.cell (Sep.pull [_, _] H2.out) 1).trans rfl
  have t2 : w1.cell? ⟨W.heap.size + 1, 2, none⟩ = some (.int .i32 nm) := (Sep.cell (Sep.pull [_, _] H2.out) 2).trans rfl
  have s0 := st_h H2.out
  obtain ⟨gu, hgu⟩ : ∃ x, W.heap.size = x := ⟨_, rfl⟩
  rw [hgu] at H2 u0 u1 u2 t0 t1 t2
  have HW := Aside0.mk (And.intro hw1 hgu)
  clear H1 hw1 hgu
  have fin : ∀ {w' : World} {k : Nat} {er : Int}, StT w0 w' (tB (gu + 1) r N nm :: uB gu pg mo A n c :: F) g k → (er = 0 → k = nx r bs.length) → TP w0 w' F g (.returned (.int .i64 er)) r bs.length := fun hT he => ⟨_, _, rfl, stt_tail hT, he⟩
  by_cases hlt : h < 0
  · have hd : decide (h < 0) = true := decide_eq_true hlt
    rcases hr with rfl | rfl | rfl
    · go_enter Try.func33, Try.ntmps33
      go_upto_region 1 with fail
      rw [HW.out.1, HW.out.2]
      go_wp2_with fail
      refine (takes_ (fun W' h' => HC.out W' h'.tail.tail.tail.tail) H2.out _ N nm).mono ?_
      rintro e w2 ⟨⟨a, b, ok, rfl⟩, hS2⟩
      have B2 := Aside0.mk hS2
      have t0' : w2.cell? ⟨gu + 1, 0, none⟩ = some _ := (Sep.cell (Sep.pull [_, _] hS2) 0).trans rfl
      clear hS2
      cases ok with
      | false =>
        go_wp2_with fail
        go_ret
        exact fin ⟨_, _, _, rfl, B2.out⟩ (fun h => by omega)
      | true =>
        go_wp2_with fail
        refine (ends_c B2.out HP.out).mono ?_
        rintro e w3 ⟨⟨b3, rfl⟩, hT⟩
        have BT := Aside0.mk hT
        clear hT
        cases b3 with
        | false =>
          go_wp2_with fail
          go_ret
          exact fin BT.out (fun h => by omega)
        | true =>
          go_wp2_with fail
          go_ret
          exact fin BT.out (fun _ => by simp [nx])
    · go_enter Try.func33, Try.ntmps33
      go_upto_region 1 with fail
      rw [HW.out.1, HW.out.2]
      go_wp2_with fail
      refine (takes_ (fun W' h' => HC.out W' h'.tail.tail.tail.tail) H2.out _ N nm).mono ?_
      rintro e w2 ⟨⟨a, b, ok, rfl⟩, hS2⟩
      have B2 := Aside0.mk hS2
      have t0' : w2.cell? ⟨gu + 1, 0, none⟩ = some _ := (Sep.cell (Sep.pull [_, _] hS2) 0).trans rfl
      clear hS2
      cases ok with
      | false =>
        go_wp2_with fail
        go_ret
        exact fin ⟨_, _, _, rfl, B2.out⟩ (fun h => by omega)
      | true =>
        go_wp2_with fail
        refine (ends_x B2.out HP.out 59 (by decide)).mono ?_
        rintro e w3 ⟨⟨b3, rfl⟩, hT⟩
        have BT := Aside0.mk hT
        clear hT
        cases b3 with
        | false =>
          go_wp2_with fail
          go_ret
          exact fin BT.out (fun h => by omega)
        | true =>
          go_wp2_with fail
          go_ret
          exact fin BT.out (fun _ => by simp [nx])
    · go_enter Try.func33, Try.ntmps33
      go_upto_region 1 with fail
      rw [HW.out.1, HW.out.2]
      go_wp2_with fail
      refine (takes_ (fun W' h' => HC.out W' h'.tail.tail.tail.tail) H2.out _ N nm).mono ?_
      rintro e w2 ⟨⟨a, b, ok, rfl⟩, hS2⟩
      have B2 := Aside0.mk hS2
      have t0' : w2.cell? ⟨gu + 1, 0, none⟩ = some _ := (Sep.cell (Sep.pull [_, _] hS2) 0).trans rfl
      clear hS2
      cases ok with
      | false =>
        go_wp2_with fail
        go_ret
        exact fin ⟨_, _, _, rfl, B2.out⟩ (fun h => by omega)
      | true =>
        go_wp2_with fail
        refine (ends_x B2.out HP.out 93 (by decide)).mono ?_
        rintro e w3 ⟨⟨b3, rfl⟩, hT⟩
        have BT := Aside0.mk hT
        clear hT
        cases b3 with
        | false =>
          go_wp2_with fail
          go_ret
          exact fin BT.out (fun h => by omega)
        | true =>
          go_wp2_with fail
          go_ret
          exact fin BT.out (fun _ => by simp [nx])
  · have hd : decide (h < 0) = false := decide_eq_false hlt
    rcases hr with rfl | rfl | rfl
    · go_enter Try.func33, Try.ntmps33
      go_upto_region 1 with fail
      rw [HW.out.1, HW.out.2]
      go_wp2_with fail
      refine (takes_ (fun W' h' => HC.out W' h'.tail.tail.tail.tail) H2.out _ N nm).mono ?_
      rintro e w2 ⟨⟨a, b, ok, rfl⟩, hS2⟩
      have B2 := Aside0.mk hS2
      have t0' : w2.cell? ⟨gu + 1, 0, none⟩ = some _ := (Sep.cell (Sep.pull [_, _] hS2) 0).trans rfl
      clear hS2
      cases ok with
      | false =>
        go_wp2_with fail
        go_ret
        exact fin ⟨_, _, _, rfl, B2.out⟩ (fun h => by omega)
      | true =>
        go_wp2_with fail
        refine (ends_c B2.out HP.out).mono ?_
        rintro e w3 ⟨⟨b3, rfl⟩, hT⟩
        have BT := Aside0.mk hT
        clear hT
        cases b3 with
        | false =>
          go_wp2_with fail
          go_ret
          exact fin BT.out (fun h => by omega)
        | true =>
          go_wp2_with fail
          go_ret
          exact fin BT.out (fun _ => by simp [nx])
    · go_enter Try.func33, Try.ntmps33
      go_upto_region 1 with fail
      rw [HW.out.1, HW.out.2]
      go_wp2_with fail
      refine (takes_ (fun W' h' => HC.out W' h'.tail.tail.tail.tail) H2.out _ N nm).mono ?_
      rintro e w2 ⟨⟨a, b, ok, rfl⟩, hS2⟩
      have B2 := Aside0.mk hS2
      have t0' : w2.cell? ⟨gu + 1, 0, none⟩ = some _ := (Sep.cell (Sep.pull [_, _] hS2) 0).trans rfl
      clear hS2
      cases ok with
      | false =>
        go_wp2_with fail
        go_ret
        exact fin ⟨_, _, _, rfl, B2.out⟩ (fun h => by omega)
      | true =>
        go_wp2_with fail
        refine (ends_x B2.out HP.out 59 (by decide)).mono ?_
        rintro e w3 ⟨⟨b3, rfl⟩, hT⟩
        have BT := Aside0.mk hT
        clear hT
        cases b3 with
        | false =>
          go_wp2_with fail
          go_ret
          exact fin BT.out (fun h => by omega)
        | true =>
          go_wp2_with fail
          go_ret
          exact fin BT.out (fun _ => by simp [nx])
    · go_enter Try.func33, Try.ntmps33
      go_upto_region 1 with fail
      rw [HW.out.1, HW.out.2]
      go_wp2_with fail
      refine (takes_ (fun W' h' => HC.out W' h'.tail.tail.tail.tail) H2.out _ N nm).mono ?_
      rintro e w2 ⟨⟨a, b, ok, rfl⟩, hS2⟩
      have B2 := Aside0.mk hS2
      have t0' : w2.cell? ⟨gu + 1, 0, none⟩ = some _ := (Sep.cell (Sep.pull [_, _] hS2) 0).trans rfl
      clear hS2
      cases ok with
      | false =>
        go_wp2_with fail
        go_ret
        exact fin ⟨_, _, _, rfl, B2.out⟩ (fun h => by omega)
      | true =>
        go_wp2_with fail
        refine (ends_x B2.out HP.out 93 (by decide)).mono ?_
        rintro e w3 ⟨⟨b3, rfl⟩, hT⟩
        have BT := Aside0.mk hT
        clear hT
        cases b3 with
        | false =>
          go_wp2_with fail
          go_ret
          exact fin BT.out (fun h => by omega)
        | true =>
          go_wp2_with fail
          go_ret
          exact fin BT.out (fun _ => by simp [nx])
end
end Go.Proofs.Ytkkgfpdjlohojaa.Fn
