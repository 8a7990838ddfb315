/- Memory: a number is loaded. -/
import Derived.Test.YtfpkhlhojjmgiaaCells2
namespace Go.Proofs.Ytfpkhlhojjmgiaa.Plain
open Go Go.RowKit Go.Proofs.YtfpkhlhojjmgiaaW.PrintWords
/-- Bytes as a number, the least first. -/
def leF : List Int → Int
  | [] => 0
  | x :: l => leF l * 256 + x
theorem leF_in : ∀ {l : List Int}, Bytes l → 0 ≤ leF l ∧ leF l < 256 ^ l.length
  | [], _ => by simp [leF]
  | x :: l, h => by
    have h1 := leF_in (l := l) (fun y hy => h y (List.mem_cons_of_mem _ hy))
    have h2 := h x (List.mem_cons_self ..)
    simp only [leF, List.length_cons, Int.pow_succ]
    generalize (256 : Int) ^ l.length = p at *
    omega
theorem leF_drop {l : List Int} {j : Nat} (h : j < l.length) : leF (l.drop j) = leF (l.drop (j + 1)) * 256 + rd l (j : Int) := by
  rw [List.drop_eq_getElem_cons h]
  have : rd l (j : Int) = l[j] := by
    unfold rd; rw [Int.toNat_natCast, List.getD_eq_getElem?_getD, List.getElem?_eq_getElem h]; rfl
  rw [this]; rfl
theorem wraps_u64 (n : Int) (h0 : 0 ≤ n) (h1 : n < 2 ^ 64) : IntKind.u64.wrap n = n := by rw [wrap_u64]; omega
theorem shift_in64 {x c : Int} (h0 : 0 ≤ x) (h1 : x < 72057594037927936) (c0 : 0 ≤ c) (c1 : c ≤ 255) : Go.bits .or .u64 (IntKind.u64.wrap (x * 256)) (IntKind.u64.wrap c) = x * 256 + c := by
  rw [wraps_u64 _ (by omega) (by omega), wraps_u64 _ (by omega) (by omega)]
  exact bits_join .u64 64 (by decide) wraps_u64 8 (x * 256) c (by omega) (by omega) (by omega) (by omega) (by omega) (by omega)
theorem pow256 {j : Nat} (h : j ≤ 7) : (256 : Int) ^ j ≤ 72057594037927936 := by
  match j, h with
  | 0, _ => decide
  | 1, _ => decide
  | 2, _ => decide
  | 3, _ => decide
  | 4, _ => decide
  | 5, _ => decide
  | 6, _ => decide
  | 7, _ => decide
end Go.Proofs.Ytfpkhlhojjmgiaa.Plain
namespace Go.Proofs.Ytfpkhlhojjmgiaa.Cells
set_option linter.unusedVariables false
set_option linter.unusedSimpArgs false
open Go.RowKit Go.Proofs.YtfpkhlhojjmgiaaW.PrintWords Go.Proofs.YtfpkhlhojjmgiaaW.PrintLast Go.Proofs.YtfpkhlhojjmgiaaW.PrintMore Go.Proofs.Ytfpkhlhojjmgiaa.Kit Go.Proofs.Ytfpkhlhojjmgiaa.Base Go.Proofs.Ytfpkhlhojjmgiaa.Plain
theorem num_ {k : IntKind} {a b : Int} (h : a = b) : Value.int k a = .int k b := by rw [h]
section
variable {w0 W : World} {g : Nat} {b : List Int} {most : Int} {dirty : List Bool} {F : List HP}
theorem load_out (h : Sep w0 W (Mem g b most dirty :: F)) (k : Int) (wide : Bool) (hk : ¬ (0 ≤ k ∧ k + (wd wide : Int) ≤ (b.length : Int))) :
    Calls Try.prog 16 #[.pointer (some ⟨g, 0, none⟩), .int .i64 k, .bool wide] W fun e w' => e = .returned (.tuple #[.int .i64 0, .bool false]) ∧ Sep w0 w' (Mem g b most dirty :: F) := by
  have AD := Aside0.mk (decide_eq_false hk)
  clear hk
  go_enter Try.func16, Try.ntmps16
  go_wp2_with fail
  refine (within_ h k wide).mono ?_
  rintro e w2 ⟨rfl, hS⟩
  have AS := Aside0.mk hS
  clear hS
  rw [AD.out]
  go_wp2_with fail
  go_ret2
  exact ⟨by first | rfl | (simp; done), AS.out⟩
def loadF (b : List Int) (k n : Nat) : Int := wrap64 (leF ((b.drop k).take n))
set_option maxHeartbeats 800000 in
theorem load_in (h : Sep w0 W (Mem g b most dirty :: F)) (hb : Bytes b) (k : Nat) (wide : Bool) (hk : k + wd wide ≤ b.length) :
    Calls Try.prog 16 #[.pointer (some ⟨g, 0, none⟩), .int .i64 (k : Int), .bool wide] W fun e w' => e = .returned (.tuple #[.int .i64 (loadF b k (wd wide)), .bool true]) ∧ Sep w0 w' (Mem g b most dirty :: F) := by
  have hdec : decide (0 ≤ (k : Int) ∧ (k : Int) + (wd wide : Int) ≤ (b.length : Int)) = true := decide_eq_true (by omega)
  have AD := Aside0.mk hdec
  obtain ⟨n, hn⟩ : ∃ n, wd wide = n := ⟨_, rfl⟩
  have hn8 : 1 ≤ n ∧ n ≤ 8 := by rw [← hn]; unfold wd; split <;> omega
  have AN := Aside0.mk hn
  rw [hn] at hk
  have HB := Aside0.mk hb
  have HK := Aside0.mk hk
  obtain ⟨hn1, hn2⟩ := hn8
  clear hdec hn hb hk
  go_enter Try.func16, Try.ntmps16
  go_wp2_with fail
  refine (within_ h (k : Int) wide).mono ?_
  rintro e w2 ⟨rfl, hS⟩
  rw [AD.out, AN.out]
  obtain ⟨Ab, cb, Ad, cd, hq, hs⟩ := open_ hS
  have HL := Aside0.mk hq
  have hbl : b.length ≤ 10000 := by omega
  have c0 : w2.cell? ⟨g, 0, none⟩ = some (.slice Ab b.length cb) := by rw [hs.cell 0]; rfl
  have HC := Aside0.mk hs.tail.rowC.2.2
  have AS := Aside0.mk hS
  have hqb : Bytes ((b.drop k).take n) := (HB.out.drop k).take n
  have hql : ((b.drop k).take n).length = n := by have := HK.out; rw [List.length_take, List.length_drop]; omega
  have hrd : ∀ i : Nat, i < n → rd ((b.drop k).take n) (i : Int) = rd b ((k + i : Nat) : Int) := fun i hi => by
    unfold rd
    rw [Int.toNat_natCast, Int.toNat_natCast, List.getD_eq_getElem?_getD, List.getD_eq_getElem?_getD, List.getElem?_take, if_pos hi, List.getElem?_drop]
  have HR := Aside0.mk hrd
  have HG : Aside0 (wrap64 (leF ((b.drop k).take n)) = loadF b k (wd wide)) := ⟨by rw [AN.out]; rfl⟩
  generalize (b.drop k).take n = q at *
  have HQ := Aside0.mk hqb
  have HQL := Aside0.mk hql
  clear hS hq hs hqb hql hrd h
  go_wp2_with fail
  go_loopg [10, 11] n (fun m v p wr => ∃ j : Nat, j + m = n ∧ p = .int .i64 ((n : Int) - 1 - (j : Int)) ∧ v = .int .u64 (leF (q.drop (n - j))) ∧ w2 = wr)
  case atStart => exact ⟨0, by omega, num_ (by omega), by rw [Nat.sub_zero, ← HQL.out, List.drop_length]; rfl, rfl⟩
  case round =>
    obtain ⟨j, hjm, rfl, rfl, rfl⟩ := hrel
    have AK := Aside0.mk hjm
    by_cases hj : j < n
    · obtain ⟨i, hi⟩ : ∃ i, i + j + 1 = n := ⟨n - j - 1, by omega⟩
      have hkk := HK.out
      obtain ⟨ad, hA, hc⟩ := Kd.at_int HC.out ((k + i : Nat) : Int) (by omega) (by omega)
      subst hA
      rw [Int.toNat_natCast] at hc
      have hidx : (k : Int) + ((n : Int) - 1 - (j : Int)) = ((k + i : Nat) : Int) := by omega
      have hlt : ((k + i : Nat) : Int) < (b.length : Int) := by omega
      have AI := Aside0.mk hi
      go_wp2_with fail
      have hlen : (q.drop (n - j)).length = j := by rw [List.length_drop, HQL.out]; omega
      have hle := leF_in (HQ.out.drop (n - j))
      rw [hlen] at hle
      have hp := pow256 (j := j) (by omega)
      have hx := HB.out.at ((k + i : Nat) : Int)
      have hor := shift_in64 (x := leF (q.drop (n - j))) (c := rd b ((k + i : Nat) : Int)) hle.1 (by omega) hx.1 hx.2
      have hs : leF (q.drop (n - (j + 1))) = leF (q.drop (n - j)) * 256 + rd b ((k + i : Nat) : Int) := by
        rw [← HR.out i (by omega), show n - (j + 1) = i by omega, show n - j = i + 1 by omega]
        exact leF_drop (by rw [HQL.out]; omega)
      go_roundg (gk - 1)
      case measure => have := AK.out; omega
      case rel => exact ⟨j + 1, by have := AK.out; omega, num_ (by omega), by rw [hs, ← hor, Int.natCast_add], rfl⟩
    · have hjn : j = n := by omega
      subst hjn
      have h0 : ¬ (0 : Int) ≤ (j : Int) - 1 - (j : Int) := by omega
      have hl := HQ.out
      rw [Nat.sub_self, List.drop_zero]
      clear hjm AK hj
      go_wp2_with fail
      go_ret2
      exact ⟨by rw [← HG.out]; first | rfl | (simp; done), AS.out⟩
end
end Go.Proofs.Ytfpkhlhojjmgiaa.Cells
