/- Memory: a number is stored. -/
import Derived.Test.YtfpkhlhojjmgiaaCells3
namespace Go.Proofs.Ytfpkhlhojjmgiaa.Cells
set_option linter.unusedVariables false
set_option linter.unusedSimpArgs false
open Go.RowKit Go.Proofs.YtfpkhlhojjmgiaaW.PrintWords Go.Proofs.YtfpkhlhojjmgiaaW.PrintLast Go.Proofs.YtfpkhlhojjmgiaaW.PrintMore Go.Proofs.Ytfpkhlhojjmgiaa.Kit Go.Proofs.Ytfpkhlhojjmgiaa.Base Go.Proofs.Ytfpkhlhojjmgiaa.Plain
def byt (x : Int) (i : Nat) : Int := x / 2 ^ (8 * i) % 256
theorem byt_in (x : Int) (i : Nat) : 0 ≤ byt x i ∧ byt x i ≤ 255 := by unfold byt; omega
def storeB (b : List Int) (k : Nat) (x : Int) : Nat → List Int
  | 0 => b
  | j + 1 => (storeB b k x j).set (k + j) (byt x j)
def dirtB (d : List Bool) (k : Nat) : Nat → List Bool
  | 0 => d
  | j + 1 => (dirtB d k j).set ((k + j) / 64) true
theorem storeB_len (b : List Int) (k : Nat) (x : Int) : ∀ j, (storeB b k x j).length = b.length
  | 0 => rfl
  | j + 1 => by rw [storeB, List.length_set, storeB_len b k x j]
theorem dirtB_len (d : List Bool) (k : Nat) : ∀ j, (dirtB d k j).length = d.length
  | 0 => rfl
  | j + 1 => by rw [dirtB, List.length_set, dirtB_len d k j]
theorem storeB_bytes {b : List Int} (k : Nat) (x : Int) (h : Bytes b) : ∀ j, Bytes (storeB b k x j)
  | 0 => h
  | j + 1 => fun y hy => by
    rw [storeB] at hy
    rcases List.mem_or_eq_of_mem_set hy with h1 | rfl
    · exact storeB_bytes k x h j y h1
    · exact byt_in x j
section
variable {w0 W : World} {g : Nat} {b : List Int} {most : Int} {dirty : List Bool} {F : List HP}
theorem store_out (h : Sep w0 W (Mem g b most dirty :: F)) (k x : Int) (wide : Bool) (hk : ¬ (0 ≤ k ∧ k + (wd wide : Int) ≤ (b.length : Int))) :
    Calls Try.prog 12 #[.pointer (some ⟨g, 0, none⟩), .int .i64 k, .int .i64 x, .bool wide] W fun e w' => e = .returned (.bool false) ∧ Sep w0 w' (Mem g b most dirty :: F) := by
  have AD := Aside0.mk (decide_eq_false hk)
  clear hk
  go_enter Try.func12, Try.ntmps12
  go_wp2_with fail
  refine (within_ h k wide).mono ?_
  rintro e w2 ⟨rfl, hS⟩
  have AS := Aside0.mk hS
  clear hS
  rw [AD.out]
  go_wp2_with fail
  go_ret
  exact ⟨by first | rfl | (simp; done), AS.out⟩
set_option maxHeartbeats 1600000 in
set_option maxRecDepth 100000 in
theorem store_in (h : Sep w0 W (Mem g b most dirty :: F)) (k : Nat) (x : Int) (wide : Bool) (hk : k + wd wide ≤ b.length) :
    Calls Try.prog 12 #[.pointer (some ⟨g, 0, none⟩), .int .i64 (k : Int), .int .i64 x, .bool wide] W fun e w' => e = .returned (.bool true) ∧ Sep w0 w' (Mem g (storeB b k x (wd wide)) most (dirtB dirty k (wd wide)) :: F) := by
  have hdec : decide (0 ≤ (k : Int) ∧ (k : Int) + (wd wide : Int) ≤ (b.length : Int)) = true := decide_eq_true (by omega)
  have AD := Aside0.mk hdec
  obtain ⟨n, hn⟩ : ∃ n, wd wide = n := ⟨_, rfl⟩
  have hn8 : 1 ≤ n ∧ n ≤ 8 := by rw [← hn]; unfold wd; split <;> omega
  have AN := Aside0.mk hn
  rw [hn] at hk
  have HK := Aside0.mk hk
  obtain ⟨hn1, hn2⟩ := hn8
  clear hdec hn hk
  go_enter Try.func12, Try.ntmps12
  go_wp2_with fail
  refine (within_ h (k : Int) wide).mono ?_
  rintro e w2 ⟨rfl, hS⟩
  rw [AD.out, AN.out]
  have AS := Aside0.mk hS
  have hbm : b.length ≤ 10000 := by
    obtain ⟨_, _, _, _, hq, _⟩ := open_ hS
    omega
  clear hS h
  go_wp2_with fail
  go_loopg [23] n (fun m p wr => ∃ j : Nat, j + m = n ∧ p = .int .i64 (j : Int) ∧ Sep w0 wr (Mem g (storeB b k x j) most (dirtB dirty k j) :: F))
  case atStart => exact ⟨0, by omega, rfl, AS.out⟩
  case round =>
    obtain ⟨j, hjm, rfl, hS⟩ := hrel
    have AK := Aside0.mk hjm
    by_cases hj : j < n
    · have hkk := HK.out
      have hlb := storeB_len b k x j
      have hld := dirtB_len dirty k j
      obtain ⟨Ab, cb, Ad, cd, hq, hs⟩ := open_ hS
      rw [hlb, hld] at hq hs
      have hlx : IntKind.u8.wrap (x / 2 ^ (8 * (j : Int)).toNat) = byt x j := by rw [IntKind.wrap_u8]; unfold byt; rw [show (8 * (j : Int)).toNat = 8 * j by omega]
      have AX := Aside0.mk hlx
      obtain ⟨gb, cb2, e0⟩ := hs.tail.rowFormN (n := b.length) hlb (by omega)
      obtain ⟨gd, cd2, e1⟩ := hs.tail.tail.rowFormN (n := dirty.length) hld (by omega)
      injection e0 with e0 _ e00
      injection e1 with e1 _ e11
      subst e0 e00 e1 e11
      have c0 : wr.drew.cell? ⟨g, 0, none⟩ = some (.slice (some ⟨gb, 0, none⟩) b.length cb) := (hs.drew.cell 0).trans rfl
      have hw8 : wrap64 (8 * (j : Int)) = 8 * (j : Int) := IntWalk.wrap64_in _ (by omega)
      obtain ⟨f1, f2⟩ := hs.drew.tail.rowCell (0 : Int) (k + j) (by omega)
      have HS := Aside0.mk hs
      have HQ := Aside0.mk hq
      clear hS hs hq hlb hld hlx
      go_wp2_with fail
      have hi0 : 0 ≤ (k : Int) + (j : Int) := by omega
      have hi1 : (k : Int) + (j : Int) < (b.length : Int) := by omega
      have hit : ((k : Int) + (j : Int)).toNat = k + j := by omega
      have hlx := AX.out
      refine start_ (n := 12) (S := fun w' => w'.cell? ⟨g, 0, none⟩ = some (.slice (some ⟨gb, 0, none⟩) b.length cb)) (ds := [11]) #[false, false, false, false, false, false, false, false, false, false, false, false] (by kernel_rfl) rfl rfl (c0) (fun hHeld => ?_)
      refine pure_ (i := 0) (N := some 29) (v := ?_) (a' := ?_) #[true, false, false, false, false, false, false, false, false, false, false, false] rfl rfl (by kernel_rfl) (fun _ _ _ h => h) (Or.inl ⟨by rfl, ?_⟩) ?_ ?_
      rotate_left
      · intro w'
        go_simp
        with_reducible rfl
      rotate_left
      · simp only [Act.put, List.setIfInBounds_toArray, List.set_cons_zero, List.set_cons_succ, i64_w, i32_w]
        rfl
      refine pure_ (i := 1) (N := some 30) (v := ?_) (a' := ?_) #[true, true, false, false, false, false, false, false, false, false, false, false] rfl rfl (by kernel_rfl) (fun _ _ _ h => h) (Or.inl ⟨by rfl, ?_⟩) ?_ ?_
      rotate_left
      · intro w'
        go_simp
        with_reducible rfl
      rotate_left
      · simp only [Act.put, List.setIfInBounds_toArray, List.set_cons_zero, List.set_cons_succ, i64_w, i32_w]
        rfl
      refine pure_ (i := 2) (N := some 31) (v := ?_) (a' := ?_) #[true, true, true, false, false, false, false, false, false, false, false, false] rfl rfl (by kernel_rfl) (fun _ _ _ h => h) (Or.inl ⟨by rfl, ?_⟩) ?_ ?_
      rotate_left
      · intro w'
        go_simp
        with_reducible rfl
      rotate_left
      · simp only [Act.put, List.setIfInBounds_toArray, List.set_cons_zero, List.set_cons_succ, i64_w, i32_w]
        rfl
      refine pure_ (i := 4) (N := some 33) (v := ?_) (a' := ?_) #[true, true, true, false, true, false, false, false, false, false, false, false] rfl rfl (by kernel_rfl) (fun _ _ _ h => h) (Or.inl ⟨by rfl, ?_⟩) ?_ ?_
      rotate_left
      · intro w'
        go_simp
        with_reducible rfl
      rotate_left
      · simp only [Act.put, List.setIfInBounds_toArray, List.set_cons_zero, List.set_cons_succ, i64_w, i32_w]
        rfl
      refine pure_ (i := 5) (N := some 34) (v := ?_) (a' := ?_) #[true, true, true, false, true, true, false, false, false, false, false, false] rfl rfl (by kernel_rfl) (fun _ _ _ h => h) (Or.inl ⟨by rfl, ?_⟩) ?_ ?_
      rotate_left
      · intro w'
        go_simp
        with_reducible rfl
      rotate_left
      · simp only [Act.put, List.setIfInBounds_toArray, List.set_cons_zero, List.set_cons_succ, i64_w, i32_w]
        rfl
      refine pure_ (i := 6) (N := some 35) (v := ?_) (a' := ?_) #[true, true, true, false, true, true, true, false, false, false, false, false] rfl rfl (by kernel_rfl) (fun _ _ _ h => h) (Or.inl ⟨by rfl, ?_⟩) ?_ ?_
      rotate_left
      · intro w'
        go_simp
        with_reducible rfl
      rotate_left
      · simp only [Act.put, List.setIfInBounds_toArray, List.set_cons_zero, List.set_cons_succ, i64_w, i32_w]
        rfl
      refine pure_ (i := 7) (N := some 36) (v := ?_) (a' := ?_) #[true, true, true, false, true, true, true, true, false, false, false, false] rfl rfl (by kernel_rfl) (fun _ _ _ h => h) (Or.inl ⟨by rfl, ?_⟩) ?_ ?_
      rotate_left
      · intro w'
        go_simp
        with_reducible rfl
      rotate_left
      · simp only [Act.put, List.setIfInBounds_toArray, List.set_cons_zero, List.set_cons_succ, i64_w, i32_w]
        rfl
      refine pure_ (i := 8) (N := some 37) (v := ?_) (a' := ?_) #[true, true, true, false, true, true, true, true, true, false, false, false] rfl rfl (by kernel_rfl) (fun _ _ _ h => h) (Or.inl ⟨by rfl, ?_⟩) ?_ ?_
      rotate_left
      · intro w'
        go_simp
        with_reducible rfl
      rotate_left
      · simp only [Act.put, List.setIfInBounds_toArray, List.set_cons_zero, List.set_cons_succ, i64_w, i32_w]
        rfl
      refine pure_ (i := 9) (N := some 38) (v := ?_) (a' := ?_) #[true, true, true, false, true, true, true, true, true, true, false, false] rfl rfl (by kernel_rfl) (fun _ _ _ h => h) (Or.inl ⟨by rfl, ?_⟩) ?_ ?_
      rotate_left
      · intro w'
        go_simp
        with_reducible rfl
      rotate_left
      · simp only [Act.put, List.setIfInBounds_toArray, List.set_cons_zero, List.set_cons_succ, i64_w, i32_w]
        rfl
      refine take_ (i := 3) (N := some 32) (v := ?_) (a' := ?_) #[true, true, true, true, true, true, true, true, true, true, false, false] rfl rfl (by kernel_rfl) (fun _ _ _ h => h) (Or.inl ⟨by rfl, ?_⟩) hHeld ?_ ?_
      rotate_left
      · intro w' s0
        go_simp
        with_reducible rfl
      rotate_left
      · simp only [Act.put, List.setIfInBounds_toArray, List.set_cons_zero, List.set_cons_succ, i64_w, i32_w]
        rfl
      refine pure_ (i := 10) (N := some 39) (v := ?_) (a' := ?_) #[true, true, true, true, true, true, true, true, true, true, true, false] rfl rfl (by kernel_rfl) (fun _ _ _ h => h) (Or.inl ⟨by rfl, ?_⟩) ?_ ?_
      rotate_left
      · intro w'
        go_simp
        with_reducible rfl
      rotate_left
      · simp only [Act.put, List.setIfInBounds_toArray, List.set_cons_zero, List.set_cons_succ, i64_w, i32_w]
        rfl
      refine last_ (i := 11) (N := none) #[true, true, true, true, true, true, true, true, true, true, true, true] rfl rfl (by kernel_rfl) (by decide) (fun K hK => ?_)
      refine skip_ (w1 := ?_) (by rfl) rfl ?_ ?_
      rotate_left
      · go_simp
        rfl
      refine hK.out _ _ ?_
      clear hK K
      refine done_ (by kernel_rfl) ?_
      have B1 := Aside0.mk ((HS.out.at2.putRow (enc := Value.int .u8) (k + j) (byt x j)).drew)
      obtain ⟨w3, hw3⟩ : ∃ w3, (wr.setCell ⟨gb, k + j, none⟩ (.int .u8 (byt x j))).drew = w3 := ⟨_, rfl⟩
      rw [hw3] at B1 ⊢
      have c2 : w3.cell? ⟨g, 2, none⟩ = some (.slice (some ⟨gd, 0, none⟩) dirty.length cd) := (B1.out.at2.cell 2).trans rfl
      have hdl : (k + j) / 64 < dirty.length := by have := HQ.out.1; omega
      obtain ⟨f3, f4⟩ := B1.out.at3.rowCell false ((k + j) / 64) hdl
      have hd0 : 0 ≤ ((k : Int) + (j : Int)) / 64 := by omega
      have hd1 : ((k : Int) + (j : Int)) / 64 < (dirty.length : Int) := by omega
      have hdt : (((k : Int) + (j : Int)) / 64).toNat = (k + j) / 64 := by omega
      have B2 := Aside0.mk (B1.out.at3.putRow (enc := Value.bool) ((k + j) / 64) true)
      clear hw3 c0 hw8 f1 f2 hit hlx
      go_wp2_with fail
      go_roundg (gk - 1)
      case measure => have := AK.out; omega
      case rel => exact ⟨j + 1, by have := AK.out; omega, by go_num, shut_ (by rw [storeB_len, dirtB_len]; exact HQ.out.1) (by rw [dirtB_len]; exact HQ.out.2.1) HQ.out.2.2.1 B2.out.at3.sw23⟩
    · have hjn : j = n := by omega
      subst hjn
      have A5 := Aside0.mk hS
      clear hS hjm AK hj
      go_wp2_with fail
      go_ret
      exact ⟨by first | rfl | (simp; done), by rw [AN.out]; exact A5.out⟩
end
end Go.Proofs.Ytfpkhlhojjmgiaa.Cells
