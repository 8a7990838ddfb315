/- Keep3, Keep4, Keep5: what NestAdds needs. -/
import Derived.Test.YtkkgfpdjlohojaaTnestAdds10
set_option linter.unusedVariables false
set_option linter.unusedSimpArgs false
namespace Go.Proofs.Ytkkgfpdjlohojaa.Keep
open Go.RowKit Go.Proofs.YtkkgfpdjlohojaaW.PrintWords Go.Proofs.YtkkgfpdjlohojaaW.PrintLast Go.Proofs.YtkkgfpdjlohojaaW.PrintMore Go.Proofs.Ytkkgfpdjlohojaa.Kit
open Go.Proofs.Ytkkgfpdjlohojaa.Fn (RetB FC Fnc)
open Go.Proofs.Ytkkgfpdjlohojaa.Tape
def Os : List ByteArray := [⟨#[43]⟩, ⟨#[45]⟩, ⟨#[42]⟩, ⟨#[38]⟩, ⟨#[124]⟩, ⟨#[94]⟩, ⟨#[60]⟩, ⟨#[61]⟩, ⟨#[47]⟩, ⟨#[37]⟩, ⟨#[194, 171]⟩, ⟨#[194, 187]⟩]
def Us : List ByteArray := [⟨#[33]⟩, ⟨#[46, 43]⟩, ⟨#[194, 169]⟩, ⟨#[64]⟩, ⟨#[207, 128, 113]⟩, ⟨#[46, 44]⟩, ⟨#[194, 164]⟩]
theorem all_at {l : List ByteArray} {m : Nat} (h : ∀ x ∈ l, x.size ≤ m) (r : Int) (h0 : 0 ≤ r) (h1 : r < l.length) : ∃ (q : Nat) (x : ByteArray), r = (q : Int) ∧ q < l.length ∧ l.getD q ⟨#[]⟩ = x ∧ x.size ≤ m := by
  obtain ⟨q, rfl⟩ := Int.eq_ofNat_of_zero_le h0
  have hq : q < l.length := by omega
  refine ⟨q, l[q], rfl, hq, by rw [List.getD_eq_getElem?_getD, List.getElem?_eq_getElem hq]; rfl, h _ (List.getElem_mem hq)⟩
theorem Os_le : ∀ x ∈ Os, x.size ≤ 3 := by decide
theorem Us_le : ∀ x ∈ Us, x.size ≤ 3 := by decide
section
variable {w0 W : World} {g : Nat} {At A : Option Addr} {nt ct n c : Nat} {L : List Int} {p : Int} {fs : List Fnc}
def IHV (w0 : World) (g : Nat) (At : Option Addr) (nt ct : Nat) (A : Option Addr) (n c : Nat) (fs : List Fnc) (d : Nat) : Prop :=
  ∀ (F : List HP) (W : World) (p deep : Int), deep ≤ (d : Int) → 0 ≤ p → (∀ W', Sep w0 W' F → FC W' A n fs) → Sep w0 W (Tp g At nt ct p :: F) →
    Calls Try.prog 23 #[.pointer (some ⟨g, 0, none⟩), .int .i64 deep, .slice A n c] W fun e w' => StrR (V d) e ∧ TpT w0 w' F g At nt ct
set_option maxHeartbeats 12800000 in
set_option maxRecDepth 100000 in
theorem value_s {d : Nat} (ht : I64.C w0 At nt L) {F : List HP} (hp : 0 ≤ p) (hC : ∀ W', Sep w0 W' F → FC W' A n fs) (hA : ∀ f ∈ fs, 0 ≤ f.args ∧ f.args ≤ 2) (h : Sep w0 W (Tp g At nt ct p :: F)) (deep : Int) (hd1 : 0 < deep) (hd2 : deep ≤ (d : Int) + 1) (hd9 : deep ≤ 1000000) (hVd : V d ≤ 1000000) (ih : IHV w0 g At nt ct A n c fs d) :
    Calls Try.prog 23 #[.pointer (some ⟨g, 0, none⟩), .int .i64 deep, .slice A n c] W fun e w' => StrR (V (d + 1)) e ∧ TpT w0 w' F g At nt ct := by
  have HA := Aside0.mk hA
  clear hA
  have HT := Aside0.mk ht
  have HC := Aside0.mk hC
  have HI := Aside0.mk ih
  have hdd : decide (deep ≤ 0) = false := decide_eq_false (by omega)
  have hdw : wrap64 (deep - 1) = deep - 1 := IntWalk.wrap64_in _ (by omega)
  have hdw2 : wrap64 (deep - 2) = deep - 2 := IntWalk.wrap64_in _ (by omega)
  have hnn : n ≤ 9223372036854775807 := (hC W h.tail).lt
  have HD := Aside0.mk (And.intro hd1 hd2)
  have hV : V d ≤ 1000000 := hVd
  have HV := Aside0.mk hV
  clear ht hC ih hd1 hd2 hVd hV
  go_enter Try.func23, Try.ntmps23
  go_wp2_with fail
  refine (next_ HT.out hp h 14).mono ?_
  rintro e w1 ⟨k, p1, rfl, hk, hp1, hS⟩
  have hk0 := hk.1
  have hk14 := hk.2.1 (by decide)
  have B1 := Aside0.mk hS
  have HK := Aside0.mk hp1
  clear hS hk hp h hp1
  by_cases k3 : k < 3
  · have e1 : decide (k < 3) = true := decide_eq_true k3
    have L1 := Aside0.mk (B1.out.litRow (enc := Value.int .i64) (h1 := fun _ => rfl) (e := 3) Ds (by decide)).at2
    go_wp2_with fail
    refine (next_ HT.out HK.out L1.out 10).mono ?_
    rintro e w2 ⟨r, p2, rfl, hr, hp2, hS⟩
    obtain ⟨q, m, rfl, hq, hm, hm4⟩ := Ds_at hr.1 (hr.2.1 (by decide))
    obtain ⟨f1, f2⟩ := hS.at2.rowCell (0 : Int) q hq
    have f1' : w2.cell? ⟨w1.heap.size, q, none⟩ = some (.int .i64 (Ds.getD q 0)) := f1
    rw [hm] at f1'
    have hq10 : (q : Int) < 10 := by omega
    have B2 := Aside0.mk (And.intro hp2 hS.drop2)
    have HM := Aside0.mk hm4
    clear hS hr hp2 hm f1 f2 hm4
    go_wp2_with fail
    refine (digits_ 3 m _ HM.out (by have := HM.out; omega) (by decide)).mono ?_
    rintro e w3 ⟨⟨s, rfl, hs⟩, rfl⟩
    have hsz : ¬ 9223372036854775807 < 1 + s.size := by omega
    go_wp2_with fail
    go_ret
    exact ⟨⟨_, rfl, by simp [szA, V]; omega⟩, _, B2.out.1, B2.out.2⟩
  have e1 : decide (k < 3) = false := decide_eq_false k3
  by_cases k6 : k < 6
  · have e2 : decide (k < 6) = true := decide_eq_true k6
    go_wp2_with fail
    refine (next_ HT.out HK.out B1.out 4).mono ?_
    rintro e w2 ⟨r, p_r, rfl, hr_, hp_, hS⟩
    have h0_r := hr_.1
    have h1_r := hr_.2.1 (by decide)
    have B2 := Aside0.mk (And.intro hp_ hS)
    clear hS hr_ hp_
    obtain ⟨E, hE⟩ : ∃ E, Utf8.encode (97 + r) = E := ⟨_, rfl⟩
    have he : E.size ≤ 4 := by rw [← hE]; exact enc_le _
    have HE := Aside0.mk he
    go_wp2_with fail
    go_ret
    exact ⟨⟨_, rfl, by have := HE.out; simp [V]; omega⟩, _, B2.out.1, B2.out.2⟩
  have e2 : decide (k < 6) = false := decide_eq_false k6
  by_cases k9 : k < 9
  · have e3 : decide (k < 9) = true := decide_eq_true k9
    have L1 := Aside0.mk (B1.out.litRow (enc := Value.string) (h1 := fun _ => rfl) (e := 9) Os (by decide)).at2
    go_wp2_with fail
    refine (next_ HT.out HK.out L1.out 12).mono ?_
    rintro e w2 ⟨r, p2, rfl, hr, hp2, hS⟩
    obtain ⟨q, x, rfl, hq, hx, hx3⟩ := all_at Os_le r hr.1 (hr.2.1 (by decide))
    obtain ⟨f1, f2⟩ := hS.at2.rowCell (⟨#[]⟩ : ByteArray) q hq
    have f1' : w2.cell? ⟨w1.heap.size, q, none⟩ = some (.string (Os.getD q ⟨#[]⟩)) := f1
    rw [hx] at f1'
    have hq10 : (q : Int) < 12 := by have h9 : q < 12 := hq; omega
    have B2 := Aside0.mk (And.intro hp2 hS.drop2)
    clear hS hr hp2 hx f1 f2 hq
    go_wp2_with fail
    refine (HI.out _ _ _ _ (by have := HD.out; omega) B2.out.1 HC.out B2.out.2).mono ?_
    rintro e w3 ⟨⟨s1, rfl, z_s1⟩, p_s1, hp_, hS⟩
    have B3 := Aside0.mk (And.intro hp_ hS)
    clear hS hp_
    go_wp2_with fail
    refine (HI.out _ _ _ _ (by have := HD.out; omega) B3.out.1 HC.out B3.out.2).mono ?_
    rintro e w4 ⟨⟨s2, rfl, z_s2⟩, p_s2, hp_, hS⟩
    have B4 := Aside0.mk (And.intro hp_ hS)
    clear hS hp_
    have hz1 : ¬ 9223372036854775807 < s1.size + s2.size := by have := HV.out; omega
    have hz2 : ¬ 9223372036854775807 < s1.size + s2.size + x.size := by have := HV.out; omega
    have HZ := Aside0.mk (And.intro z_s1 (And.intro z_s2 hx3))
    clear z_s1 z_s2 hx3
    go_wp2_with fail
    go_ret
    exact ⟨⟨_, rfl, by have := HZ.out; simp [szA, V]; omega⟩, _, B4.out.1, B4.out.2⟩
  have e3 : decide (k < 9) = false := decide_eq_false k9
  by_cases k99 : k = 9
  · subst k99
    go_wp2_with fail
    refine (HI.out _ _ _ _ (by have := HD.out; omega) HK.out HC.out B1.out).mono ?_
    rintro e w2 ⟨⟨s1, rfl, z_s1⟩, p_s1, hp_, hS⟩
    have B2 := Aside0.mk (And.intro hp_ hS)
    clear hS hp_
    have L1 := Aside0.mk (B2.out.2.litRow (enc := Value.string) (h1 := fun _ => rfl) (e := 9) Us (by decide)).at2
    go_wp2_with fail
    refine (next_ HT.out B2.out.1 L1.out 7).mono ?_
    rintro e w3 ⟨r, p2, rfl, hr, hp2, hS⟩
    obtain ⟨q, x, rfl, hq, hx, hx3⟩ := all_at Us_le r hr.1 (hr.2.1 (by decide))
    obtain ⟨f1, f2⟩ := hS.at2.rowCell (⟨#[]⟩ : ByteArray) q hq
    have f1' : w3.cell? ⟨w2.heap.size, q, none⟩ = some (.string (Us.getD q ⟨#[]⟩)) := f1
    rw [hx] at f1'
    have hq10 : (q : Int) < 7 := by have h9 : q < 7 := hq; omega
    have B3 := Aside0.mk (And.intro hp2 hS.drop2)
    have hz1 : ¬ 9223372036854775807 < s1.size + x.size := by have := HV.out; omega
    have HZ := Aside0.mk (And.intro z_s1 hx3)
    clear hS hr hp2 hx f1 f2 hq z_s1 hx3
    go_wp2_with fail
    go_ret
    exact ⟨⟨_, rfl, by have := HZ.out; simp [szA, V]; omega⟩, _, B3.out.1, B3.out.2⟩
  by_cases k10 : k = 10
  · subst k10
    go_wp2_with fail
    refine (HI.out _ _ _ _ (by have := HD.out; omega) HK.out HC.out B1.out).mono ?_
    rintro e w2 ⟨⟨s1, rfl, z_s1⟩, p_s1, hp_, hS⟩
    have B2 := Aside0.mk (And.intro hp_ hS)
    clear hS hp_
    have hz1 : ¬ 9223372036854775807 < s1.size + 1 := by have := HV.out; omega
    go_wp2_with fail
    refine (HI.out _ _ _ _ (by have := HD.out; omega) B2.out.1 HC.out B2.out.2).mono ?_
    rintro e w3 ⟨⟨s2, rfl, z_s2⟩, p_s2, hp_, hS⟩
    have B3 := Aside0.mk (And.intro hp_ hS)
    clear hS hp_
    have hz2 : ¬ 9223372036854775807 < s1.size + 1 + s2.size := by have := HV.out; omega
    have hz3 : ¬ 9223372036854775807 < s1.size + 1 + s2.size + 1 := by have := HV.out; omega
    go_wp2_with fail
    refine (HI.out _ _ _ _ (by have := HD.out; omega) B3.out.1 HC.out B3.out.2).mono ?_
    rintro e w4 ⟨⟨s3, rfl, z_s3⟩, p_s3, hp_, hS⟩
    have B4 := Aside0.mk (And.intro hp_ hS)
    clear hS hp_
    have hz4 : ¬ 9223372036854775807 < s1.size + 1 + s2.size + 1 + s3.size := by have := HV.out; omega
    have hz5 : ¬ 9223372036854775807 < s1.size + 1 + s2.size + 1 + s3.size + 1 := by have := HV.out; omega
    have HZ := Aside0.mk (And.intro z_s1 (And.intro z_s2 z_s3))
    clear z_s1 z_s2 z_s3
    go_wp2_with fail
    go_ret
    exact ⟨⟨_, rfl, by have := HZ.out; simp [szA, V]; omega⟩, _, B4.out.1, B4.out.2⟩
  by_cases k11 : k = 11
  · subst k11
    go_wp2_with fail
    go_ret
    exact ⟨⟨_, rfl, by simp [szA, V]⟩, _, HK.out, B1.out⟩
  have b9 : (k == 9) = false := by simp [k99]
  have b10 : (k == 10) = false := by simp [k10]
  have b11 : (k == 11) = false := by simp [k11]
  by_cases k12 : k = 12
  · subst k12
    by_cases hn0 : 0 < n
    · have hnz : decide (0 < (n : Int)) = true := decide_eq_true (by omega)
      have hnz2 : decide (0 < n) = true := decide_eq_true hn0
      go_wp2_with fail
      refine (next_ HT.out HK.out B1.out n).mono ?_
      rintro e w2 ⟨r, p2, rfl, hr, hp2, hS⟩
      obtain ⟨j, rfl⟩ := Int.eq_ofNat_of_zero_le hr.1
      have hjn : j < n := by have := hr.2.1 (by omega); omega
      obtain ⟨ad, f, rfl, hf, d0, d1, d2⟩ := (HC.out _ hS.tail).at_ hjn
      have hfa := HA.out f (List.mem_of_getElem? hf)
      obtain ⟨K, hK⟩ := Int.eq_ofNat_of_zero_le hfa.1
      have hK2 : K ≤ 2 := by omega
      obtain ⟨nm, hnm⟩ : ∃ x, f.name = x := ⟨_, rfl⟩
      obtain ⟨cd, hcd⟩ : ∃ x, f.code = x := ⟨_, rfl⟩
      rw [hnm] at d0
      rw [hK] at d1
      rw [hcd] at d2
      have hjl : (j : Int) < (n : Int) := by omega
      have B2 := Aside0.mk (hS.newBlk 34 #[.int .i32 nm, .int .i64 (K : Int), .string cd]).at2
      have HP2 := Aside0.mk hp2
      have HK2 := Aside0.mk hK2
      obtain ⟨E, hE⟩ : ∃ E, Utf8.encode nm = E := ⟨_, rfl⟩
      have he : E.size ≤ 4 := by rw [← hE]; exact enc_le _
      have HE := Aside0.mk (And.intro hE he)
      clear hS hr hp2 hf hfa hK hnm hcd hK2 hE he
      go_upto_region 17 with fail
      obtain ⟨w3, hw3⟩ : ∃ x, w2.alloc (.cells #[.int .i32 nm, .int .i64 (K : Int), .string cd] 34) = x := ⟨_, rfl⟩
      obtain ⟨gf, hgf⟩ : ∃ x, w2.heap.size = x := ⟨_, rfl⟩
      rw [hw3, hgf] at B2
      rw [hw3, hgf]
      clear hw3 hgf d0 d1 d2
      go_wp2_with fail
      go_loopg [10, 11] K (fun m u q wx => ∃ (i : Nat) (s : ByteArray) (p' : Int), i + m = K ∧ u = .string s ∧ q = .int .i64 (i : Int) ∧ s.size ≤ i * V d ∧ 0 ≤ p' ∧ Sep w0 wx (Tp g At nt ct p' :: Blk gf 34 #[.int .i32 nm, .int .i64 (K : Int), .string cd] :: F))
      case atStart => exact ⟨0, ⟨#[]⟩, _, by omega, rfl, rfl, by simp [szA], HP2.out, B2.out⟩
      case round =>
        obtain ⟨i, s, p', him, rfl, rfl, hsl, hp', hS⟩ := hrel
        have g0 : wr.cell? ⟨gf, 0, none⟩ = some (.int .i32 nm) := (hS.at2.cell 0).trans rfl
        have g1 : wr.cell? ⟨gf, 1, none⟩ = some (.int .i64 (K : Int)) := (hS.at2.cell 1).trans rfl
        have AK := Aside0.mk him
        have B5 := Aside0.mk (And.intro hsl (And.intro hp' hS))
        by_cases hi : i < K
        · have hiK : (i : Int) < (K : Int) := by omega
          have hi1 : i ≤ 1 := by have := HK2.out; omega
          clear hS hsl hp' him
          go_wp2_with fail
          refine (HI.out _ _ _ _ (by have := HD.out; omega) B5.out.2.1 (fun W' h' => HC.out W' h'.tail) B5.out.2.2).mono ?_
          rintro e w6 ⟨⟨s1, rfl, z_1⟩, p6, hp6, hS6⟩
          have h2 : s.size + s1.size ≤ (i + 1) * V d := by have := B5.out.1; rw [Nat.add_mul, Nat.one_mul]; omega
          have h3 : (i + 1) * V d ≤ 2 * V d := Nat.mul_le_mul_right _ (by omega)
          have hz1 : ¬ 9223372036854775807 < s.size + s1.size := by have := HV.out; omega
          have B6 := Aside0.mk (And.intro h2 (And.intro hp6 hS6))
          clear hS6 hp6 h2 h3 z_1
          go_wp2_with fail
          go_roundg (gk - 1)
          case measure => have := AK.out; omega
          case rel => exact ⟨i + 1, s ++ s1, p6, by have := AK.out; omega, rfl, by go_num, by have := B6.out.1; simp; exact this, B6.out.2.1, B6.out.2.2⟩
        · have hiK : ¬ (i : Int) < (K : Int) := by omega
          have h3 : i * V d ≤ 2 * V d := Nat.mul_le_mul_right _ (by have := HK2.out; omega)
          have hE := HE.out.1
          have he := HE.out.2
          have hz1 : ¬ 9223372036854775807 < s.size + 2 := by have := HV.out; omega
          have hz2 : ¬ 9223372036854775807 < s.size + 2 + E.size := by have := HV.out; omega
          have HZ := Aside0.mk (And.intro hsl (And.intro h3 he))
          clear hS hsl hp' him h3 he
          go_wp2_with fail
          go_ret
          exact ⟨⟨_, rfl, by have := HZ.out; simp [szA, V]; omega⟩, _, B5.out.2.1, B5.out.2.2.drop2⟩
    · have hnz : decide (0 < (n : Int)) = false := decide_eq_false (by omega)
      have hnz2 : decide (0 < n) = false := decide_eq_false (by omega)
      have hn00 : n = 0 := by omega
      subst hn00
      go_wp2_with fail
      refine (HI.out _ _ _ _ (by have := HD.out; omega) HK.out HC.out B1.out).mono ?_
      rintro e w2 ⟨⟨s1, rfl, z_s1⟩, p_s1, hp_, hS⟩
      have B2 := Aside0.mk (And.intro hp_ hS)
      clear hS hp_
      go_wp2_with fail
      refine (next_ HT.out B2.out.1 B2.out.2 4).mono ?_
      rintro e w3 ⟨r, p_r, rfl, hr_, hp_, hS⟩
      have h0_r := hr_.1
      have h1_r := hr_.2.1 (by decide)
      have B3 := Aside0.mk (And.intro hp_ hS)
      clear hS hr_ hp_
      obtain ⟨E, hE⟩ : ∃ E, Utf8.encode (65 + r) = E := ⟨_, rfl⟩
      have he : E.size ≤ 4 := by rw [← hE]; exact enc_le _
      have hz1 : ¬ 9223372036854775807 < s1.size + E.size := by have := HV.out; omega
      go_wp2_with fail
      refine (next_ HT.out B3.out.1 B3.out.2 4).mono ?_
      rintro e w4 ⟨r2, p_r2, rfl, hr_, hp_, hS⟩
      have h0_r2 := hr_.1
      have h1_r2 := hr_.2.1 (by decide)
      have B4 := Aside0.mk (And.intro hp_ hS)
      clear hS hr_ hp_
      obtain ⟨E2, hE2⟩ : ∃ E, Utf8.encode (97 + r2) = E := ⟨_, rfl⟩
      have he2 : E2.size ≤ 4 := by rw [← hE2]; exact enc_le _
      have hz2 : ¬ 9223372036854775807 < s1.size + E.size + E2.size := by have := HV.out; omega
      have HZ := Aside0.mk (And.intro z_s1 (And.intro he he2))
      clear z_s1 he he2
      go_wp2_with fail
      go_ret
      exact ⟨⟨_, rfl, by have := HZ.out; simp [szA, V]; omega⟩, _, B4.out.1, B4.out.2⟩
  · have b12 : (k == 12) = false := by simp [k12]
    go_wp2_with fail
    refine (HI.out _ _ _ _ (by have := HD.out; omega) HK.out HC.out B1.out).mono ?_
    rintro e w2 ⟨⟨s1, rfl, z_s1⟩, p_s1, hp_, hS⟩
    have B2 := Aside0.mk (And.intro hp_ hS)
    clear hS hp_
    go_wp2_with fail
    refine (next_ HT.out B2.out.1 B2.out.2 4).mono ?_
    rintro e w3 ⟨r, p_r, rfl, hr_, hp_, hS⟩
    have h0_r := hr_.1
    have h1_r := hr_.2.1 (by decide)
    have B3 := Aside0.mk (And.intro hp_ hS)
    clear hS hr_ hp_
    obtain ⟨E, hE⟩ : ∃ E, Utf8.encode (65 + r) = E := ⟨_, rfl⟩
    have he : E.size ≤ 4 := by rw [← hE]; exact enc_le _
    have hz1 : ¬ 9223372036854775807 < s1.size + E.size := by have := HV.out; omega
    go_wp2_with fail
    refine (next_ HT.out B3.out.1 B3.out.2 4).mono ?_
    rintro e w4 ⟨r2, p_r2, rfl, hr_, hp_, hS⟩
    have h0_r2 := hr_.1
    have h1_r2 := hr_.2.1 (by decide)
    have B4 := Aside0.mk (And.intro hp_ hS)
    clear hS hr_ hp_
    obtain ⟨E2, hE2⟩ : ∃ E, Utf8.encode (97 + r2) = E := ⟨_, rfl⟩
    have he2 : E2.size ≤ 4 := by rw [← hE2]; exact enc_le _
    have hz2 : ¬ 9223372036854775807 < s1.size + E.size + E2.size := by have := HV.out; omega
    have HZ := Aside0.mk (And.intro z_s1 (And.intro he he2))
    clear z_s1 he he2
    go_wp2_with fail
    go_ret
    exact ⟨⟨_, rfl, by have := HZ.out; simp [szA, V]; omega⟩, _, B4.out.1, B4.out.2⟩
end
end Go.Proofs.Ytkkgfpdjlohojaa.Keep
namespace Go.Proofs.Ytkkgfpdjlohojaa.Keep
open Go.RowKit Go.Proofs.YtkkgfpdjlohojaaW.PrintWords Go.Proofs.YtkkgfpdjlohojaaW.PrintLast Go.Proofs.YtkkgfpdjlohojaaW.PrintMore Go.Proofs.Ytkkgfpdjlohojaa.Kit
open Go.Proofs.Ytkkgfpdjlohojaa.Fn (RetB FC Fnc)
open Go.Proofs.Ytkkgfpdjlohojaa.Tape
theorem StrR.mono {a b : Nat} {e : Ending} (h : StrR a e) (hab : a ≤ b) : StrR b e := by
  obtain ⟨s, rfl, hs⟩ := h
  exact ⟨s, rfl, Nat.le_trans hs hab⟩
section
variable {w0 W : World} {g : Nat} {At A : Option Addr} {nt ct n c : Nat} {L : List Int} {p : Int} {fs : List Fnc}
theorem V_le : ∀ d, 40 ≤ V d
  | 0 => Nat.le_refl _
  | d + 1 => by have := V_le d; show 40 ≤ 3 * V d + 40; omega
theorem value_all (ht : I64.C w0 At nt L) (hA : ∀ f ∈ fs, 0 ≤ f.args ∧ f.args ≤ 2) : ∀ d : Nat, V d ≤ 1000000 → d ≤ 1000 → IHV w0 g At nt ct A n c fs d
  | 0, _, _ => fun F W p deep hd hp hC h => value_lit ht hp h deep _ (by omega)
  | d + 1, hV, hdd => fun F W p deep hd hp hC h => by
    have hV2 : 3 * V d + 40 ≤ 1000000 := hV
    by_cases h0 : deep ≤ 0
    · refine (value_lit ht hp h deep _ h0).mono ?_
      rintro e w' ⟨h1, h2⟩
      exact ⟨h1.mono (V_le _), h2⟩
    · exact value_s ht hp hC hA h deep (by omega) (by omega) (by omega) (by omega) (value_all ht hA d (by omega) (by omega))
def Pl : List ByteArray := [⟨#[36]⟩, ⟨#[194, 174]⟩]
def Hl : List ByteArray := [⟨#[]⟩, ⟨#[194, 161]⟩]
theorem Pl_le : ∀ x ∈ Pl, x.size ≤ 2 := by decide
theorem Hl_le : ∀ x ∈ Hl, x.size ≤ 2 := by decide
def Kl (x : ByteArray) : List ByteArray := [⟨#[59]⟩, x, ⟨#[58, 194, 161, 59]⟩]
theorem Kl_le {x : ByteArray} {m : Nat} (h : x.size ≤ m) (h4 : 4 ≤ m) : ∀ y ∈ Kl x, y.size ≤ m := fun y hy => by
  simp only [Kl, List.mem_cons, List.not_mem_nil, or_false] at hy
  rcases hy with rfl | rfl | rfl
  · exact Nat.le_trans (by decide) h4
  · exact h
  · exact Nat.le_trans (by decide) h4
set_option maxHeartbeats 12800000 in
set_option maxRecDepth 100000 in
theorem deed_x {m : Nat} (ht : I64.C w0 At nt L) {F : List HP} (hp : 0 ≤ p) (hC : ∀ W', Sep w0 W' F → FC W' A n fs) (hA : ∀ f ∈ fs, 0 ≤ f.args ∧ f.args ≤ 2) (h : Sep w0 W (Tp g At nt ct p :: F)) (deep : Int) (hd9 : deep ≤ 1000000) (hm : m ≤ 100000)
    (ih : 0 < deep → ∀ (F : List HP) (W : World) (p : Int), 0 ≤ p → (∀ W', Sep w0 W' F → FC W' A n fs) → Sep w0 W (Tp g At nt ct p :: F) →
      Calls Try.prog 21 #[.pointer (some ⟨g, 0, none⟩), .int .i64 (deep - 1), .slice A n c] W fun e w' => StrR m e ∧ TpT w0 w' F g At nt ct) :
    Calls Try.prog 21 #[.pointer (some ⟨g, 0, none⟩), .int .i64 deep, .slice A n c] W fun e w' => StrR (2 * m + 1000) e ∧ TpT w0 w' F g At nt ct := by
  have HT := Aside0.mk ht
  have HC := Aside0.mk hC
  have HI2 := Aside0.mk (value_all (g := g) (ct := ct) (A := A) (n := n) (c := c) ht hA 2 (by decide) (by decide))
  have HI1 := Aside0.mk (value_all (g := g) (ct := ct) (A := A) (n := n) (c := c) ht hA 1 (by decide) (by decide))
  have HIH := Aside0.mk ih
  clear ht hC hA ih
  go_enter Try.func21, Try.ntmps21
  go_wp2_with fail
  refine (next_ HT.out hp h 9).mono ?_
  rintro e w1 ⟨k, p1, rfl, hk, hp1, hS⟩
  have hk0 := hk.1
  have hk14 := hk.2.1 (by decide)
  have B1 := Aside0.mk hS
  have HK := Aside0.mk hp1
  clear hS hk hp h hp1
  by_cases k3 : k < 3
  · have e1 : decide (k < 3) = true := decide_eq_true k3
    go_wp2_with fail
    refine (HI2.out _ _ _ 2 (by decide) HK.out HC.out B1.out).mono ?_
    rintro e w2 ⟨⟨s1, rfl, z_s1⟩, p_s1, hp_, hS⟩
    have B2 := Aside0.mk (And.intro hp_ hS)
    have y_s1 : s1.size ≤ 520 := z_s1
    clear hS hp_ z_s1
    go_wp2_with fail
    refine (next_ HT.out B2.out.1 B2.out.2 4).mono ?_
    rintro e w3 ⟨r, p_r, rfl, hr_, hp_, hS⟩
    have h0_r := hr_.1
    have h1_r := hr_.2.1 (by decide)
    have B3 := Aside0.mk (And.intro hp_ hS)
    clear hS hr_ hp_
    obtain ⟨E, hE⟩ : ∃ E, Utf8.encode (65 + r) = E := ⟨_, rfl⟩
    have he : E.size ≤ 4 := by rw [← hE]; exact enc_le _
    have hz1 : ¬ 9223372036854775807 < s1.size + E.size := by omega
    have HZ := Aside0.mk (And.intro y_s1 he)
    clear y_s1 he
    go_wp2_with fail
    go_ret
    exact ⟨⟨_, rfl, by have := HZ.out; simp [szA]; omega⟩, _, B3.out.1, B3.out.2⟩
  have e1 : decide (k < 3) = false := decide_eq_false k3
  by_cases k5 : k < 5
  · have e2 : decide (k < 5) = true := decide_eq_true k5
    go_wp2_with fail
    refine (next_ HT.out HK.out B1.out 190).mono ?_
    rintro e w2 ⟨r, p_r, rfl, hr_, hp_, hS⟩
    have h0_r := hr_.1
    have h1_r := hr_.2.1 (by decide)
    have B2 := Aside0.mk (And.intro hp_ hS)
    clear hS hr_ hp_
    obtain ⟨m, rfl⟩ := Int.eq_ofNat_of_zero_le h0_r
    go_wp2_with fail
    refine (digits_ 2 m _ (by omega) (by omega) (by decide)).mono ?_
    rintro e w_ ⟨⟨s0, rfl, y_s0⟩, rfl⟩
    have hz0 : ¬ 9223372036854775807 < 1 + s0.size := by omega
    go_wp2_with fail
    refine (HI2.out _ _ _ 2 (by decide) B2.out.1 HC.out B2.out.2).mono ?_
    rintro e w3 ⟨⟨s1, rfl, z_s1⟩, p_s1, hp_, hS⟩
    have B3 := Aside0.mk (And.intro hp_ hS)
    have y_s1 : s1.size ≤ 520 := z_s1
    clear hS hp_ z_s1
    have hz1 : ¬ 9223372036854775807 < 1 + s0.size + s1.size := by omega
    have L1 := Aside0.mk ((B3.out.2).litRow (enc := Value.string) (h1 := fun _ => rfl) (e := 9) Pl (by simp [Pl])).at2
    go_wp2_with fail
    refine (next_ HT.out B3.out.1 L1.out 2).mono ?_
    rintro e w4 ⟨r, p2, rfl, hr, hp2, hS⟩
    obtain ⟨q, x, rfl, hq, hx, hx3⟩ := all_at Pl_le r hr.1 (hr.2.1 (by decide))
    obtain ⟨f1, f2⟩ := hS.at2.rowCell (⟨#[]⟩ : ByteArray) q hq
    have f1' : w4.cell? ⟨w3.heap.size, q, none⟩ = some (.string (Pl.getD q ⟨#[]⟩)) := f1
    rw [hx] at f1'
    have hq10 : (q : Int) < 2 := by have h9 : q < 2 := hq; omega
    have B4 := Aside0.mk (And.intro hp2 hS.drop2)
    have hz2 : ¬ 9223372036854775807 < 1 + s0.size + s1.size + x.size := by omega
    clear hS hr hp2 hx f1 f2 hq
    have HZ := Aside0.mk (And.intro y_s0 (And.intro y_s1 hx3))
    clear y_s0 y_s1 hx3
    go_wp2_with fail
    go_ret
    exact ⟨⟨_, rfl, by have := HZ.out; simp [szA]; omega⟩, _, B4.out.1, B4.out.2⟩
  have e2 : decide (k < 5) = false := decide_eq_false k5
  by_cases k7 : k = 7
  · subst k7
    go_wp2_with fail
    refine (HI2.out _ _ _ 2 (by decide) HK.out HC.out B1.out).mono ?_
    rintro e w2 ⟨⟨s1, rfl, z_s1⟩, p_s1, hp_, hS⟩
    have B2 := Aside0.mk (And.intro hp_ hS)
    have y_s1 : s1.size ≤ 520 := z_s1
    clear hS hp_ z_s1
    have hz1 : ¬ 9223372036854775807 < s1.size + 1 := by omega
    have L1 := Aside0.mk ((B2.out.2).litRow (enc := Value.string) (h1 := fun _ => rfl) (e := 9) Hl (by simp [Hl])).at2
    go_wp2_with fail
    refine (next_ HT.out B2.out.1 L1.out 9).mono ?_
    rintro e w3 ⟨r, p2, rfl, hr, hp2, hS⟩
    obtain ⟨rr, hrr⟩ : ∃ x, r / 8 = x := ⟨_, rfl⟩
    have hr0 := hr.1
    have hr9 := hr.2.1 (by decide)
    obtain ⟨q, x, hqr, hq, hx, hx3⟩ := all_at Hl_le rr (by omega) (by show rr < 2; omega)
    subst hqr
    obtain ⟨f1, f2⟩ := hS.at2.rowCell (⟨#[]⟩ : ByteArray) q hq
    have f1' : w3.cell? ⟨w2.heap.size, q, none⟩ = some (.string (Hl.getD q ⟨#[]⟩)) := f1
    rw [hx] at f1'
    have hq10 : (q : Int) < 2 := by have h9 : q < 2 := hq; omega
    have B3 := Aside0.mk (And.intro hp2 hS.drop2)
    have hz2 : ¬ 9223372036854775807 < s1.size + 1 + x.size := by omega
    clear hS hr hp2 hx f1 f2 hq
    have HZ := Aside0.mk (And.intro y_s1 hx3)
    clear y_s1 hx3
    go_wp2_with fail
    go_ret
    exact ⟨⟨_, rfl, by have := HZ.out; simp [szA]; omega⟩, _, B3.out.1, B3.out.2⟩
  have b7 : (k == 7) = false := by simp [k7]
  by_cases hd : 0 < deep
  · have hdd : decide (0 < deep) = true := decide_eq_true hd
    have HD := Aside0.mk (HIH.out hd)
    have hdw : wrap64 (deep - 1) = deep - 1 := IntWalk.wrap64_in _ (by omega)
    by_cases k55 : k = 5
    · subst k55
      go_wp2_with fail
      refine (HI1.out _ _ _ 1 (by decide) HK.out HC.out B1.out).mono ?_
      rintro e w2 ⟨⟨s1, rfl, z_s1⟩, p_s1, hp_, hS⟩
      have B2 := Aside0.mk (And.intro hp_ hS)
      have y_s1 : s1.size ≤ 160 := z_s1
      clear hS hp_ z_s1
      have hz1 : ¬ 9223372036854775807 < s1.size + 1 := by omega
      go_wp2_with fail
      refine (HD.out _ _ _ B2.out.1 HC.out B2.out.2).mono ?_
      rintro e w3 ⟨⟨s2, rfl, y_s2⟩, p_s2, hp_, hS⟩
      have B3 := Aside0.mk (And.intro hp_ hS)
      clear hS hp_
      go_wp2_with fail
      refine (live_ s2 (by omega)).mono ?_
      rintro e w_ ⟨⟨s3, rfl, y_s3⟩, rfl⟩
      have hz2 : ¬ 9223372036854775807 < s1.size + 1 + s3.size := by omega
      go_wp2_with fail
      refine (HD.out _ _ _ B3.out.1 HC.out B3.out.2).mono ?_
      rintro e w4 ⟨⟨s4, rfl, y_s4⟩, p_s4, hp_, hS⟩
      have B4 := Aside0.mk (And.intro hp_ hS)
      clear hS hp_
      have hz3 : ¬ 9223372036854775807 < 1 + s4.size := by omega
      have hz4 : ¬ 9223372036854775807 < 1 + s4.size + 1 := by omega
      have hkl := Kl_le (x := (⟨#[58]⟩ : ByteArray) ++ s4 ++ (⟨#[59]⟩ : ByteArray)) (m := m + 10) (by simp [szA]; omega) (by omega)
      have L1 := Aside0.mk ((B4.out.2).litRow (enc := Value.string) (h1 := fun _ => rfl) (e := 9) (Kl ((⟨#[58]⟩ : ByteArray) ++ s4 ++ (⟨#[59]⟩ : ByteArray))) (by simp [Kl])).at2
      go_wp2_with fail
      refine (next_ HT.out B4.out.1 L1.out 3).mono ?_
      rintro e w5 ⟨r, p2, rfl, hr, hp2, hS⟩
      obtain ⟨q, x, rfl, hq, hx, hx3⟩ := all_at hkl r hr.1 (hr.2.1 (by decide))
      obtain ⟨f1, f2⟩ := hS.at2.rowCell (⟨#[]⟩ : ByteArray) q hq
      have f1' : w5.cell? ⟨w4.heap.size, q, none⟩ = some (.string ((Kl ((⟨#[58]⟩ : ByteArray) ++ s4 ++ (⟨#[59]⟩ : ByteArray))).getD q ⟨#[]⟩)) := f1
      rw [hx] at f1'
      have hq10 : (q : Int) < 3 := by have h9 : q < 3 := hq; omega
      have B5 := Aside0.mk (And.intro hp2 hS.drop2)
      have hz5 : ¬ 9223372036854775807 < s1.size + 1 + s3.size + x.size := by omega
      clear hS hr hp2 hx f1 f2 hq hkl
      have HZ := Aside0.mk (And.intro y_s1 (And.intro y_s2 (And.intro y_s3 hx3)))
      clear y_s1 y_s2 y_s3 y_s4 hx3
      go_wp2_with fail
      go_ret
      exact ⟨⟨_, rfl, by have := HZ.out; simp [szA]; omega⟩, _, B5.out.1, B5.out.2⟩
    have b5 : (k == 5) = false := by simp [k55]
    by_cases k6 : k = 6
    · subst k6
      go_wp2_with fail
      refine (next_ HT.out HK.out B1.out 3).mono ?_
      rintro e w2 ⟨r, p_r, rfl, hr_, hp_, hS⟩
      have h0_r := hr_.1
      have h1_r := hr_.2.1 (by decide)
      have B2 := Aside0.mk (And.intro hp_ hS)
      clear hS hr_ hp_
      have hr3 : r = 0 ∨ r = 1 ∨ r = 2 := by omega
      obtain ⟨E, hE⟩ : ∃ E, Utf8.encode (120 + r) = E := ⟨_, rfl⟩
      have he1 : E.size = 1 := by rw [← hE]; rcases hr3 with rfl | rfl | rfl <;> rfl
      have he : 0 < E.size := by omega
      obtain ⟨b, hb⟩ : ∃ b : Int, ((E[0]'he).toNat : Int) = b := ⟨_, rfl⟩
      have hb1 : 120 ≤ b ∧ b ≤ 122 := by
        have h9 : b = 120 + r := by
          rw [← hb]
          subst hE
          rcases hr3 with rfl | rfl | rfl <;> rfl
        omega
      obtain ⟨hb2, hb3⟩ := hb1
      have hei : (0 : Int) < (E.size : Int) := by omega
      go_upto_region 10 with fail
      obtain ⟨E2, hE2⟩ : ∃ X, Utf8.encode (b - 32) = X := ⟨_, rfl⟩
      have he2 : E2.size ≤ 4 := by rw [← hE2]; exact enc_le _
      clear hE
      go_upto_region 11 with fail
      have he4 : E.size ≤ 4 := by omega
      clear he1 he hei hb hb2 hb3 hE2
      go_wp2_with fail
      refine (next_ HT.out B2.out.1 B2.out.2 5).mono ?_
      rintro e w3 ⟨r5, p_r5, rfl, hr_, hp_, hS⟩
      have h0_r5 := hr_.1
      have h1_r5 := hr_.2.1 (by decide)
      have B3 := Aside0.mk (And.intro hp_ hS)
      clear hS hr_ hp_
      obtain ⟨m5, rfl⟩ := Int.eq_ofNat_of_zero_le h0_r5
      go_wp2_with fail
      rw [show (1 + (m5 : Int)) = ((m5 + 1 : Nat) : Int) by omega]
      refine (digits_ 0 (m5 + 1) _ (by omega) (by omega) (by decide)).mono ?_
      rintro e w_ ⟨⟨s0, rfl, y_s0⟩, rfl⟩
      have hz0 : ¬ 9223372036854775807 < 1 + s0.size := by omega
      have hz1 : ¬ 9223372036854775807 < 1 + s0.size + E2.size := by omega
      have hz2 : ¬ 9223372036854775807 < 1 + s0.size + E2.size + 1 := by omega
      have hz3 : ¬ 9223372036854775807 < 1 + s0.size + E2.size + 1 + E.size := by omega
      have hz4 : ¬ 9223372036854775807 < 1 + s0.size + E2.size + 1 + E.size + 4 := by omega
      go_wp2_with fail
      refine (HD.out _ _ _ B3.out.1 HC.out B3.out.2).mono ?_
      rintro e w4 ⟨⟨s2, rfl, y_s2⟩, p_s2, hp_, hS⟩
      have B4 := Aside0.mk (And.intro hp_ hS)
      clear hS hp_
      go_wp2_with fail
      refine (live_ s2 (by omega)).mono ?_
      rintro e w_ ⟨⟨s3, rfl, y_s3⟩, rfl⟩
      have hz5 : ¬ 9223372036854775807 < 1 + s0.size + E2.size + 1 + E.size + 4 + s3.size := by omega
      have hz6 : ¬ 9223372036854775807 < 1 + s0.size + E2.size + 1 + E.size + 4 + s3.size + E.size := by omega
      have hz7 : ¬ 9223372036854775807 < 1 + s0.size + E2.size + 1 + E.size + 4 + s3.size + E.size + 3 := by omega
      have hz8 : ¬ 9223372036854775807 < 1 + s0.size + E2.size + 1 + E.size + 4 + s3.size + E.size + 3 + E2.size := by omega
      have hz9 : ¬ 9223372036854775807 < 1 + s0.size + E2.size + 1 + E.size + 4 + s3.size + E.size + 3 + E2.size + 1 := by omega
      have HZ := Aside0.mk (And.intro y_s0 (And.intro he2 (And.intro he4 (And.intro y_s2 y_s3))))
      clear y_s0 he2 he4 y_s2 y_s3
      go_wp2_with fail
      go_ret
      exact ⟨⟨_, rfl, by have := HZ.out; simp [szA]; omega⟩, _, B4.out.1, B4.out.2⟩

    have b6 : (k == 6) = false := by simp [k6]
    go_wp2_with fail
    refine (HI1.out _ _ _ 1 (by decide) HK.out HC.out B1.out).mono ?_
    rintro e w2 ⟨⟨s1, rfl, z_s1⟩, p_s1, hp_, hS⟩
    have B2 := Aside0.mk (And.intro hp_ hS)
    have y_s1 : s1.size ≤ 160 := z_s1
    clear hS hp_ z_s1
    have hz1 : ¬ 9223372036854775807 < s1.size + 1 := by omega
    have HZ := Aside0.mk y_s1
    clear y_s1
    go_wp2_with fail
    go_ret
    exact ⟨⟨_, rfl, by have := HZ.out; simp [szA]; omega⟩, _, B2.out.1, B2.out.2⟩
  · have hdd : decide (0 < deep) = false := decide_eq_false hd
    by_cases k55 : k = 5
    · subst k55
      go_wp2_with fail
      refine (HI1.out _ _ _ 1 (by decide) HK.out HC.out B1.out).mono ?_
      rintro e w2 ⟨⟨s1, rfl, z_s1⟩, p_s1, hp_, hS⟩
      have B2 := Aside0.mk (And.intro hp_ hS)
      have y_s1 : s1.size ≤ 160 := z_s1
      clear hS hp_ z_s1
      have hz1 : ¬ 9223372036854775807 < s1.size + 1 := by omega
      have HZ := Aside0.mk y_s1
      clear y_s1
      go_wp2_with fail
      go_ret
      exact ⟨⟨_, rfl, by have := HZ.out; simp [szA]; omega⟩, _, B2.out.1, B2.out.2⟩
    have b5 : (k == 5) = false := by simp [k55]
    by_cases k6 : k = 6
    · subst k6
      go_wp2_with fail
      refine (HI1.out _ _ _ 1 (by decide) HK.out HC.out B1.out).mono ?_
      rintro e w2 ⟨⟨s1, rfl, z_s1⟩, p_s1, hp_, hS⟩
      have B2 := Aside0.mk (And.intro hp_ hS)
      have y_s1 : s1.size ≤ 160 := z_s1
      clear hS hp_ z_s1
      have hz1 : ¬ 9223372036854775807 < s1.size + 1 := by omega
      have HZ := Aside0.mk y_s1
      clear y_s1
      go_wp2_with fail
      go_ret
      exact ⟨⟨_, rfl, by have := HZ.out; simp [szA]; omega⟩, _, B2.out.1, B2.out.2⟩
    have b6 : (k == 6) = false := by simp [k6]
    go_wp2_with fail
    refine (HI1.out _ _ _ 1 (by decide) HK.out HC.out B1.out).mono ?_
    rintro e w2 ⟨⟨s1, rfl, z_s1⟩, p_s1, hp_, hS⟩
    have B2 := Aside0.mk (And.intro hp_ hS)
    have y_s1 : s1.size ≤ 160 := z_s1
    clear hS hp_ z_s1
    have hz1 : ¬ 9223372036854775807 < s1.size + 1 := by omega
    have HZ := Aside0.mk y_s1
    clear y_s1
    go_wp2_with fail
    go_ret
    exact ⟨⟨_, rfl, by have := HZ.out; simp [szA]; omega⟩, _, B2.out.1, B2.out.2⟩
end
end Go.Proofs.Ytkkgfpdjlohojaa.Keep
namespace Go.Proofs.Ytkkgfpdjlohojaa.Keep
open Go.RowKit Go.Proofs.YtkkgfpdjlohojaaW.PrintWords Go.Proofs.YtkkgfpdjlohojaaW.PrintLast Go.Proofs.YtkkgfpdjlohojaaW.PrintMore Go.Proofs.Ytkkgfpdjlohojaa.Kit
open Go.Proofs.Ytkkgfpdjlohojaa.Fn (RetB FC Fnc cellF)
open Go.Proofs.Ytkkgfpdjlohojaa.Tape Go.Proofs.Ytkkgfpdjlohojaa.Tok Go.Proofs.Ytkkgfpdjlohojaa.NestP Go.Proofs.Ytkkgfpdjlohojaa.TokP
abbrev R32 : Kd Int := Kd.int .i32
section
variable {w0 W : World} {F : List HP} {g : Nat} {At A : Option Addr} {nt ct n c : Nat} {L : List Int} {p : Int} {fs : List Fnc}
def DD : Nat → Nat
  | 0 => 1000
  | d + 1 => 2 * DD d + 1000
theorem deed_all (ht : I64.C w0 At nt L) (hA : ∀ f ∈ fs, 0 ≤ f.args ∧ f.args ≤ 2) : ∀ d : Nat, DD d ≤ 100000 → d ≤ 1000 → ∀ (F : List HP) (W : World) (p : Int), 0 ≤ p → (∀ W', Sep w0 W' F → FC W' A n fs) → Sep w0 W (Tp g At nt ct p :: F) →
      Calls Try.prog 21 #[.pointer (some ⟨g, 0, none⟩), .int .i64 (d : Int), .slice A n c] W fun e w' => StrR (DD d) e ∧ TpT w0 w' F g At nt ct
  | 0, _, _ => fun F W p hp hC h => (deed_x (m := 0) ht hp hC hA h 0 (by decide) (by decide) (fun h0 => absurd h0 (by decide)))
  | d + 1, hD, hdd => fun F W p hp hC h => by
    have hD2 : 2 * DD d + 1000 ≤ 100000 := hD
    refine deed_x (m := DD d) ht hp hC hA h ((d + 1 : Nat) : Int) (by omega) (by omega) (fun _ F W p hp hC h => ?_)
    rw [show (((d + 1 : Nat) : Int) - 1) = (d : Int) by omega]
    exact deed_all ht hA d (by omega) (by omega) F W p hp hC h
def TpX (g : Nat) (A : Option Addr) (n c : Nat) : HP := Ex fun p : Int => Star [Pu (0 ≤ p), Tp g A n c p]
theorem tpx_open (h : Sep w0 W (TpX g At nt ct :: F)) : ∃ p : Int, 0 ≤ p ∧ Sep w0 W (Tp g At nt ct p :: F) := by
  obtain ⟨p, h1⟩ := h.ex
  exact ⟨p, Sep.pu (show Sep w0 W (Pu (0 ≤ p) :: Tp g At nt ct p :: F) from h1.star)⟩
theorem tpx_shut {p : Int} (hp : 0 ≤ p) (h : Sep w0 W (Tp g At nt ct p :: F)) : Sep w0 W (TpX g At nt ct :: F) := Sep.unex p (Sep.unstar (L := [_, _]) (h.unpu hp))
theorem nextX_ (ht : I64.C w0 At nt L) (h : Sep w0 W (TpX g At nt ct :: F)) (k : Int) :
    Calls Try.prog 19 #[.pointer (some ⟨g, 0, none⟩), .int .i64 k] W fun e w' => ∃ r, e = .returned (.int .i64 r) ∧ okN k r ∧ Sep w0 w' (TpX g At nt ct :: F) := by
  obtain ⟨p, hp, h⟩ := tpx_open h
  refine (next_ ht hp h k).mono ?_
  rintro e w' ⟨r, p', rfl, hr, hp', hS⟩
  exact ⟨r, rfl, hr, tpx_shut hp' hS⟩
theorem nextU_ (ht : I64.C w0 At nt L) (h : Sep w0 W (TpX g At nt ct :: F)) :
    Calls Try.prog 19 #[.pointer (some ⟨g, 0, none⟩), .int .i64 3] W fun e w' => ∃ r, e = .returned (.int .i64 r) ∧ Sep w0 w' (Pu (0 ≤ r ∧ r < 3) :: TpX g At nt ct :: F) := by
  refine (nextX_ ht h 3).mono ?_
  rintro e w' ⟨r, rfl, hr, hS⟩
  exact ⟨r, rfl, hS.unpu ⟨hr.1, hr.2.1 (by decide)⟩⟩
theorem valueX_ (ht : I64.C w0 At nt L) (hA : ∀ f ∈ fs, 0 ≤ f.args ∧ f.args ≤ 2) (hC : ∀ W', Sep w0 W' F → FC W' A n fs) (h : Sep w0 W (TpX g At nt ct :: F)) :
    Calls Try.prog 23 #[.pointer (some ⟨g, 0, none⟩), .int .i64 3, .slice A n c] W fun e w' => StrR 1600 e ∧ Sep w0 w' (TpX g At nt ct :: F) := by
  obtain ⟨p, hp, h⟩ := tpx_open h
  refine (value_all ht hA 3 (by decide) (by decide) F W p 3 (by decide) hp hC h).mono ?_
  rintro e w' ⟨hs, p', hp', hS⟩
  exact ⟨hs, tpx_shut hp' hS⟩
theorem deedX_ (ht : I64.C w0 At nt L) (hA : ∀ f ∈ fs, 0 ≤ f.args ∧ f.args ≤ 2) (hC : ∀ W', Sep w0 W' F → FC W' A n fs) (h : Sep w0 W (TpX g At nt ct :: F)) :
    Calls Try.prog 21 #[.pointer (some ⟨g, 0, none⟩), .int .i64 2, .slice A n c] W fun e w' => StrR 7000 e ∧ Sep w0 w' (TpX g At nt ct :: F) := by
  obtain ⟨p, hp, h⟩ := tpx_open h
  refine (deed_all ht hA 2 (by decide) (by decide) F W p hp hC h).mono ?_
  rintro e w' ⟨hs, p', hp', hS⟩
  exact ⟨hs, tpx_shut hp' hS⟩
def Nms : List Int := [102, 103, 945, 104, 19990]
set_option maxHeartbeats 800000 in
theorem names_ (W : World) : Calls Try.prog 20 #[] W fun e w' => ∃ G : Nat, e = .returned (.slice (some ⟨G, 0, none⟩) 5 5) ∧ Sep W w' [Row R32 21 (.slice (some ⟨G, 0, none⟩) 5 5) Nms] := by
  have H := Aside0.mk ((Sep.start W).litRow (enc := Value.int .i32) (h1 := fun _ => rfl) (e := 21) Nms (by decide))
  go_enter Try.func20, Try.ntmps20
  go_wp2_with fail
  go_ret
  exact ⟨_, by first | rfl | (simp; done), H.out⟩
theorem sep24 {p q r s : HP} (h : Sep w0 W (p :: q :: r :: s :: F)) : Sep w0 W (p :: r :: s :: q :: F) := h.perm (.cons _ ((List.Perm.swap _ _ _).trans (.cons _ (.swap _ _ _))))
theorem store3 {T : TypeId} {v0 v1 v2 : Value} (u0 u1 u2 : Value) (h : Sep w0 W (Blk g T #[v0, v1, v2] :: F)) :
    W.cell? ⟨g, 0, none⟩ = some v0 ∧ W.frozen? ⟨g, 0, none⟩ = false ∧
    (W.setCell ⟨g, 0, none⟩ u0).cell? ⟨g, 1, none⟩ = some v1 ∧ (W.setCell ⟨g, 0, none⟩ u0).frozen? ⟨g, 1, none⟩ = false ∧
    ((W.setCell ⟨g, 0, none⟩ u0).setCell ⟨g, 1, none⟩ u1).cell? ⟨g, 2, none⟩ = some v2 ∧ ((W.setCell ⟨g, 0, none⟩ u0).setCell ⟨g, 1, none⟩ u1).frozen? ⟨g, 2, none⟩ = false ∧
    Sep w0 (((W.setCell ⟨g, 0, none⟩ u0).setCell ⟨g, 1, none⟩ u1).setCell ⟨g, 2, none⟩ u2) (Blk g T #[u0, u1, u2] :: F) := by
  have h1 := h.setBlk 0 u0
  have h2 := h1.setBlk 1 u1
  have h3 := h2.setBlk 2 u2
  exact ⟨(h.cell 0).trans rfl, h.frozen 0, (h1.cell 1).trans rfl, h1.frozen 1, (h2.cell 2).trans rfl, h2.frozen 2, h3⟩
theorem results_cell1 {fn : Func} {p : Tmp} {ty : TypeId} (h : fn.results = #[.cell p ty]) (tmps : Array Value) (P : Program) (w : World) :
    (results fn tmps).run P w = ((asAddr (tmps.getD p undef)).run P w).andThen fun a w₁ => (loadVar ty a).run P w₁ := by
  simp only [results, h]
  simp [Sem.run_bind, Result.andThen]
def Good (f : Fnc) : Prop := (0 ≤ f.args ∧ f.args ≤ 2) ∧ ∃ l, RefT.tokO f.code = some l ∧ (matchN (sgn l)).isSome = true
abbrev RowU (v : Value) (fs : List Fnc) : HP := Row (Kd.raw 3) 34 v (fs.map cellF)
theorem infoFnc : (Try.prog.info? 34).map (fun i => (i.zero, i.size, i.bytes)) = some (some (.agg #[.int .i32 0, .int .i64 0, .string ⟨#[]⟩]), 3, 32) := by kernel_rfl
theorem tkd : RefT.tokO ⟨#[97, 32, 49, 43]⟩ = some [⟨97, 0, 0⟩, ⟨48, 1, 0⟩, ⟨43, 0, 0⟩] := by decide +kernel
theorem good_dummy {nm ar : Int} (h : 0 ≤ ar ∧ ar ≤ 2) : Good ⟨nm, ar, ⟨#[97, 32, 49, 43]⟩⟩ := ⟨h, [⟨97, 0, 0⟩, ⟨48, 1, 0⟩, ⟨43, 0, 0⟩], tkd, by kernel_rfl⟩
theorem oneFn (h : Sep w0 W F) (f : Fnc) : Sep w0 (W.alloc (.cells (cellF f).toArray 34)) (RowU (.slice (some ⟨W.heap.size, 0, none⟩) 1 1) [f] :: F) :=
  h.newLit (d := Kd.raw 3) (xs := [cellF f]) (inner := cellF f) (e := 34) (one_raw rfl (by
    intro u hu
    simp only [cellF, List.mem_cons, List.not_mem_nil, or_false] at hu
    rcases hu with rfl | rfl | rfl <;> rfl)) (by simp)
def UnitP (w0 w' : World) (F : List HP) (v : Value) : Prop := ∃ (pg mo : Int) (A : Option Addr) (n c : Nat) (fs : List Fnc), v = Fn.uV pg mo A n c ∧ fs.length = n ∧ n ≤ 3 ∧ (∀ f ∈ fs, Good f) ∧ Sep w0 w' (RowU (.slice A n c) fs :: F)
end
end Go.Proofs.Ytkkgfpdjlohojaa.Keep
