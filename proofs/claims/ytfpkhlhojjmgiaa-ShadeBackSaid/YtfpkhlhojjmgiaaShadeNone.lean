/- ShadeNone: the walk. -/
import Derived.Test.YtfpkhlhojjmgiaaShade4
import Derived.Test.YtfpkhlhojjmgiaaCellsBack
namespace Go.Proofs.Ytfpkhlhojjmgiaa.Shade
set_option linter.unusedVariables false
set_option linter.unusedSimpArgs false
open Go.RowKit Go.Proofs.YtfpkhlhojjmgiaaW.PrintWords Go.Proofs.YtfpkhlhojjmgiaaW.PrintLast Go.Proofs.YtfpkhlhojjmgiaaW.PrintMore Go.Proofs.Ytfpkhlhojjmgiaa.Kit Go.Proofs.Ytfpkhlhojjmgiaa.Base Go.Proofs.Ytfpkhlhojjmgiaa.Plain Go.Proofs.Ytfpkhlhojjmgiaa.Cells
theorem and127 (b : Int) : bits .and .i64 b 127 = b % 128 := by
  rw [and64]
  have e : (BitVec.ofInt 64 b &&& BitVec.ofInt 64 127).toNat = (BitVec.ofInt 64 b).toNat % 128 := by
    rw [BitVec.toNat_and]
    exact Nat.and_two_pow_sub_one_eq_mod _ 7
  have h := ofInt_toNat b
  rw [BitVec.toInt_eq_toNat_cond, e]
  split <;> omega
theorem pageF_get {b : List Int} {i j : Nat} (h : 64 * (i + 1) ≤ b.length) (hj : j < 64) : (pageF b i)[j]? = b[64 * i + j]? := by
  rw [pageF_in h, List.getElem?_drop, List.getElem?_take, if_pos (by omega)]
theorem pageF_eq {b c : List Int} {i : Nat} (h : 64 * (i + 1) ≤ b.length) (h2 : 64 * (i + 1) ≤ c.length) (he : ∀ j, j < 64 → b[64 * i + j]? = c[64 * i + j]?) : pageF b i = pageF c i := by
  apply List.ext_getElem?
  intro j
  by_cases hj : j < 64
  · rw [pageF_get h hj, pageF_get h2 hj, he j hj]
  · rw [List.getElem?_eq_none (by rw [pageF_len h]; omega), List.getElem?_eq_none (by rw [pageF_len h2]; omega)]
theorem pageF_set_ne {b : List Int} {K i : Nat} {y : Int} (h : 64 * (i + 1) ≤ b.length) (hk : i ≠ K / 64) : pageF (b.set K y) i = pageF b i :=
  pageF_eq (by rw [List.length_set]; exact h) h (fun j hj => by rw [List.getElem?_set_ne (by omega)])
theorem pageF_set_get {b : List Int} {K : Nat} {y : Int} (h : 64 * (K / 64 + 1) ≤ b.length) : (pageF (b.set K y) (K / 64))[K % 64]? = some y := by
  rw [pageF_get (by rw [List.length_set]; exact h) (by omega), show 64 * (K / 64) + K % 64 = K by omega, List.getElem?_set_self (by omega)]
theorem pageF_set_eq {b : List Int} {K : Nat} {y : Int} (h : 64 * (K / 64 + 1) ≤ b.length) (hy : b[K]? ≠ some y) : pageF (b.set K y) (K / 64) ≠ pageF b (K / 64) := by
  intro he
  apply hy
  have h1 := pageF_set_get (b := b) (K := K) (y := y) h
  rwa [he, pageF_get h (by omega), show 64 * (K / 64) + K % 64 = K by omega] at h1
theorem changesF_same {b : List Int} {n1 : Nat} {first : Int} : ∀ {n2 : Nat}, n2 ≤ n1 → changesF b b n1 n2 first = []
  | 0, _ => rfl
  | n + 1, h => by
    rw [changesF_snoc, changesF_same (by omega)]
    unfold turnF
    rw [if_neg (by rintro (h1 | h1); omega; exact h1 rfl)]
    rfl
theorem changesF_one {b1 b2 : List Int} {n1 p : Nat} {first : Int} : ∀ {n2 : Nat}, n2 ≤ n1 → (∀ i, i < n2 → i ≠ p → pageF b2 i = pageF b1 i) → pageF b2 p ≠ pageF b1 p → changesF b1 b2 n1 n2 first = if p < n2 then [(first + (p : Int), pageF b2 p)] else []
  | 0, _, _, _ => rfl
  | n + 1, h, he, hp => by
    rw [changesF_snoc, changesF_one (by omega) (fun i hi => he i (by omega)) hp]
    unfold turnF
    by_cases hn : n = p
    · subst hn
      rw [if_neg (by omega), if_pos (.inr hp), if_pos (by omega)]
      rfl
    · rw [if_neg (c := n1 ≤ n ∨ _) (by rintro (h1 | h1); omega; exact h1 (he n (by omega) hn))]
      by_cases h3 : p < n
      · rw [if_pos h3, if_pos (by omega)]; rfl
      · rw [if_neg h3, if_neg (by omega)]; rfl
theorem load_one {q : List Int} (hb : Bytes q) {K : Nat} (hK : K < q.length) : q[K]? = some (loadF q K 1) := by
  have hd : (q.drop K).take 1 = [q[K]] := by
    rw [List.drop_eq_getElem_cons hK]; rfl
  have hr := hb q[K] (List.getElem_mem hK)
  unfold loadF
  rw [hd, List.getElem?_eq_getElem hK, show leF [q[K]] = q[K] from by simp [leF], wrap64_id (by omega) (by omega)]
set_option maxHeartbeats 3200000 in
set_option maxRecDepth 100000 in
theorem shadeNone_ {A0 : Option Addr} {n0 c0 : Nat} {a : List Int} {at_ n first : Int} {w : World} (h0 : U8.C w A0 n0 a) (hb : Bytes a) :
    Calls Try.prog 9 #[.slice A0 n0 c0, .int .i64 at_, .int .i64 n, .int .i64 first] w fun e w' => e = .returned (.bool true) ∧ Below w.heap.size w w' := by
  have hmk := make_ (m := 192) (by omega)
  rw [show ((192 : Nat) : Int) = 192 from rfl] at hmk
  have H0 := Aside0.mk h0
  have HB := Aside0.mk hb
  have M1 := Aside0.mk (madeB 192 (Sep.start w) (by omega))
  obtain ⟨K, hK⟩ := Int.eq_ofNat_of_zero_le (Int.emod_nonneg at_ (show (128 : Int) ≠ 0 by decide))
  have hK1 : K < 128 := by have := Int.emod_lt_of_pos at_ (show (0 : Int) < 128 by decide); omega
  have a1 : bits .and .i64 at_ 127 = (K : Int) := by rw [and127, hK]
  have a2 : bits .and .i64 at_ 63 = ((K % 64 : Nat) : Int) := by rw [and63]; omega
  obtain ⟨f, hf⟩ := Int.eq_ofNat_of_zero_le (Int.emod_nonneg first (show (256 : Int) ≠ 0 by decide))
  have hf1 : f < 256 := by have := Int.emod_lt_of_pos first (show (0 : Int) < 256 by decide); omega
  have a3 : bits .and .i64 first 255 = (f : Int) := by rw [and255, hf]
  obtain ⟨y, hy⟩ : ∃ y, n % 256 = y := ⟨_, rfl⟩
  have hy0 : 0 ≤ y ∧ y ≤ 255 := by omega
  have a4 : bits .and .i64 n 255 = y := by rw [and255, hy]
  have a5 : IntKind.u8.wrap n = y := by rw [IntKind.wrap_u8]; omega
  have a6 : byt n 0 = y := by unfold byt; simpa using hy
  have AA := Aside0.mk (And.intro a1 (And.intro a2 (And.intro a3 (And.intro a4 (And.intro a5 a6)))))
  clear h0 hb hK hf a1 a2 a3 a4 a5 a6 hy
  go_enter Try.func9, Try.ntmps9
  go_wp2_with (first | (refine gate_builtin (b := .copy) (xs := #[.tmp 17, .tmp 18]) rfl ?_; go_loud (refine M1.out.copyRow rfl (.tmp 17) (.tmp 18) rfl Try.underlying22 (by kernel_rfl) (o := 0) (n' := 192) (c' := 192) (m := n0) (c := c0) rfl rfl (Kd.C_below H0.out M1.out.toBelow) (by decide) ?_; intro w1 hS1; have A1 := Aside0.mk hS1; clear hS1)))
  have hq := padTo_len 192 a
  have hqb := padTo_bytes (n := 192) HB.out
  obtain ⟨q, hqq⟩ : ∃ q, over (List.replicate 192 0) 0 (a.take 192) = q := ⟨_, rfl⟩
  unfold padTo at hq hqb
  rw [hqq] at A1 hq hqb
  have HQ := Aside0.mk hq
  have HQB := Aside0.mk hqb
  clear hq hqb hqq hmk M1
  refine (of_ok (k := 192) (n := 3) (l := q) (most := 4) A1.out.rowC' (Nat.le_refl _) rfl (by decide) (by decide)).mono ?_
  rintro e w2 ⟨g, rfl, hS2⟩
  have A2 := Aside0.mk (A1.out.tail.lift1 hS2)
  clear hS2 A1
  go_wp2_with fail
  refine (copy_ A2.out).mono ?_
  rintro e w3 ⟨g3, rfl, hS3⟩
  have A3 : Aside0 (Sep w w3 [Mem g3 q 4 [false, false, false], Mem g q 4 [false, false, false]]) := ⟨hS3⟩
  clear hS3 A2
  have a3 := AA.out.2.2.1
  go_wp2_with fail
  refine (changes_ (first := (f : Int)) A3.out (.swap _ _ _) (.refl _) (by omega)).mono ?_
  rintro e w4 ⟨v4, rfl, hS4⟩
  rw [changesF_same (Nat.le_refl _)] at hS4
  obtain ⟨A4', c4, rfl⟩ := hS4.rowN (n := 0) rfl
  have A4 := Aside0.mk hS4.tail
  clear hS4 a3
  have a1 := AA.out.1
  go_wp2_with fail
  refine (load_in A4.out HQB.out K false (by rw [HQ.out]; show K + 1 ≤ 192; omega)).mono ?_
  rintro e w5 ⟨rfl, hS5⟩
  have A5 := Aside0.mk hS5
  clear hS5
  have hq1 := load_one HQB.out (K := K) (by rw [HQ.out]; omega)
  rw [show loadF q K (wd false) = loadF q K 1 from rfl]
  obtain ⟨x, hx⟩ : ∃ x, loadF q K 1 = x := ⟨_, rfl⟩
  rw [hx] at hq1 ⊢
  have HX := Aside0.mk hq1
  clear hq1 hx
  go_wp2_with fail
  refine (store_in A5.out K n false (by rw [HQ.out]; show K + 1 ≤ 192; omega)).mono ?_
  rintro e w6 ⟨rfl, hS6⟩
  rw [show storeB q K n (wd false) = q.set K y from by rw [← AA.out.2.2.2.2.2]; rfl] at hS6
  obtain ⟨D6, hD6, hD6'⟩ : ∃ D : List Bool, dirtB [false, false, false] K (wd false) = D ∧ D.length = 3 := ⟨_, rfl, by rw [dirtB_len]; rfl⟩
  rw [hD6] at hS6
  have A6 := Aside0.mk hS6
  have HD := Aside0.mk hD6'
  clear hS6 hD6 hD6'
  go_wp2_with fail
  refine (changes_ (first := (f : Int)) A6.out (.swap _ _ _) (.refl _) (by omega)).mono ?_
  rintro e w7 ⟨v7, rfl, hS7⟩
  rw [HD.out, show [false, false, false].length = 3 from rfl] at hS7
  have a4 := AA.out.2.2.2.1
  by_cases hxy : x = y
  · have hqs : q.set K y = q := by
      apply List.ext_getElem?
      intro i
      by_cases hi : i = K
      · subst hi; rw [List.getElem?_set_self (by rw [HQ.out]; omega), HX.out, hxy]
      · rw [List.getElem?_set_ne (by omega)]
    rw [hqs, changesF_same (Nat.le_refl _)] at hS7
    obtain ⟨A7', c7, rfl⟩ := hS7.rowN (n := 0) rfl
    have A7 := Aside0.mk hS7
    clear hS7 hqs
    go_wp2_with fail
    refine (known_ _).mono ?_
    rintro e w8 ⟨rfl, hb8⟩
    go_wp2_with fail
    go_ret
    exact ⟨by first | rfl | (simp; done), (A7.out.below hb8).toBelow⟩
  · have hne : q[K]? ≠ some y := by rw [HX.out]; intro h; exact hxy (Option.some.inj h)
    rw [changesF_one (p := K / 64) (Nat.le_refl _) (fun i hi hp => pageF_set_ne (by rw [HQ.out]; omega) hp) (pageF_set_eq (by rw [HQ.out]; omega) hne), if_pos (by omega)] at hS7
    obtain ⟨A7', c7, rfl⟩ := hS7.rowN (n := 1) rfl
    have hC7 := hS7.rowC'
    have hpl : (pageF (q.set K y) (K / 64)).length = 64 := pageF_len (by rw [List.length_set, HQ.out]; omega)
    have hpg := pageF_set_get (b := q) (K := K) (y := y) (by rw [HQ.out]; omega)
    have A7 := Aside0.mk hS7
    clear hS7
    generalize pageF (q.set K y) (K / 64) = qs at *
    obtain ⟨hx0, ad, B0, c8, rfl, z00, z01, zc, zC⟩ := elem2_ hC7 (i := 0) (by decide)
    obtain ⟨bd, rfl, zb⟩ := byte_at zC (i := K % 64) (by show K % 64 < qs.length; omega)
    rw [show ad.add (0 * 2) = ad by simp [Addr.add]] at z00 z01
    replace z00 : w7.cell? ad = some (.int .i64 ((f : Int) + ((K / 64 : Nat) : Int))) := z00
    replace z01 : w7.cell? ⟨ad.block, ad.off + 1, none⟩ = some (.slice (some bd) qs.length c8) := z01
    replace zb : w7.cell? (bd.add (K % 64)) = some (.int .u8 (rd qs ((K % 64 : Nat) : Int))) := zb
    rw [show rd qs ((K % 64 : Nat) : Int) = y from by unfold rd; rw [Int.toNat_natCast, List.getD_eq_getElem?_getD, hpg]; rfl] at zb
    rw [hpl] at z01
    clear hC7 zc zC hx0 hpl hpg hne
    have a2 := AA.out.2.1
    have a5 := AA.out.2.2.2.2.1
    have hkq : ((K : Int)).tdiv 64 = ((K / 64 : Nat) : Int) := by rw [Int.tdiv_eq_ediv_of_nonneg (by omega)]; omega
    have hkq2 : (K : Int) / 64 = ((K / 64 : Nat) : Int) := by omega
    generalize K / 64 = P at *
    generalize hk6 : K % 64 = M at *
    have hM : M < 64 := by omega
    have hM2 : (M : Int) < 64 := by omega
    have hP : P ≤ 1000 := by omega
    clear hk6
    go_wp2_with fail
    refine (known_ _).mono ?_
    rintro e w8 ⟨rfl, hb8⟩
    go_wp2_with fail
    go_ret
    exact ⟨by first | rfl | (simp; done), (A7.out.below hb8).toBelow⟩
end Go.Proofs.Ytfpkhlhojjmgiaa.Shade
