/- Chapter 5's laws: the best root. -/
import Derived.Test.YtjngnigelkgekaaRoot8
namespace Go.Proofs.Ytjngnigelkgekaa.Root
set_option linter.unusedVariables false
set_option linter.unusedSimpArgs false
open Go.RowKit Go.Proofs.YtjngnigelkgekaaW.PrintWords Go.Proofs.YtjngnigelkgekaaW.PrintLast Go.Proofs.YtjngnigelkgekaaW.PrintMore Go.Proofs.Ytjngnigelkgekaa.Kit Go.Proofs.Ytjngnigelkgekaa.Plain Go.Proofs.Ytjngnigelkgekaa.Disk
/-- A write that goes in where it may. -/
def putW (n : Nat) (wt : Wt) (i : Nat) (b : List Int) : Wt := if i < n ∧ b.length = 64 then (fun j => if j = i then some b else wt j) else wt
theorem putW_len {n : Nat} {wt : Wt} {i : Nat} {b : List Int} (hw : ∀ i b, wt i = some b → b.length = 64) : ∀ k c, putW n wt i b k = some c → c.length = 64 := by
  unfold putW
  by_cases h : i < n ∧ b.length = 64
  · rw [if_pos h]; exact Ref.upd_len hw h.2
  · rw [if_neg h]; exact hw
theorem putW_bytes {n : Nat} {wt : Wt} {i : Nat} {b : List Int} (hw : ∀ i b, wt i = some b → Bytes b) (hb : Bytes b) : ∀ k c, putW n wt i b k = some c → Bytes c := by
  unfold putW
  by_cases h : i < n ∧ b.length = 64
  · rw [if_pos h]
    intro k c hk
    by_cases hki : k = i
    · simp only [if_pos hki] at hk; injection hk with hk; rw [← hk]; exact hb
    · simp only [if_neg hki] at hk; exact hw k c hk
  · rw [if_neg h]; exact hw
theorem secF_bytes {n : Nat} {las : List Int} {wt : Wt} (hl : Bytes las) (hw : ∀ i b, wt i = some b → Bytes b) (j : Nat) : Bytes (secF n las wt j) := by
  unfold secF
  by_cases h : j < n
  · rw [if_pos h]
    cases hj : wt j with
    | none => exact (hl.drop _).take _
    | some b => exact hw j b hj
  · rw [if_neg h]; exact Bytes.nil
section
variable {w0 W : World} {F : List HP} {g n : Nat} {las : List Int} {wt : Wt}
theorem dwrite_ (h : Sep w0 W (Dsk g las wt :: F)) (hl : las.length = 64 * n) (hn : n ≤ 160) (i : Nat) {A : Option Addr} {m c : Nat} {b : List Int} (hb : U8.C W A m b) (hc : m ≤ c) :
    Calls Try.prog 45 #[.pointer (some ⟨g, 0, none⟩), .int .i64 (i : Int), .slice A m c] W fun e w' => e = .returned (.bool (decide (i < n ∧ b.length = 64))) ∧ Sep w0 w' (Dsk g las (putW n wt i b) :: F) := by
  obtain rfl : b.length = m := hb.1
  by_cases hi : i < n ∧ b.length = 64
  · rw [decide_eq_true hi]
    obtain ⟨h1, h2⟩ := hi
    have hp : putW n wt i b = (fun j => if j = i then some b else wt j) := if_pos ⟨h1, h2⟩
    rw [hp]
    rw [h2] at hb hc ⊢
    exact write_in h i (by omega) hb hc
  · rw [decide_eq_false hi]
    refine (write_out h (i : Int) hb.2.1 (by omega)).mono ?_
    rintro e w' ⟨rfl, rfl⟩
    rw [show putW n wt i b = wt from if_neg hi]
    exact ⟨rfl, h⟩
theorem rdwrite_ {done : Nat} (h : Sep w0 W (Ref.RD g n las (flushed las wt) (Ref.waitL n wt) (-1) (done : Int) :: F)) (hl : las.length = 64 * n) (hw : ∀ i b, wt i = some b → b.length = 64) (hd : done ≤ 1000) (i : Nat) {A : Option Addr} {m c : Nat} {b : List Int} (hb : ∀ W', Sep w0 W' F → U8.C W' A m b) :
    Calls Try.prog 87 #[.pointer (some ⟨g, 0, none⟩), .int .i64 (i : Int), .slice A m c] W fun e w' => ∃ d : Nat, d ≤ done + 1 ∧ e = .returned (.bool (decide (i < n ∧ b.length = 64))) ∧ Sep w0 w' (Ref.RD g n las (flushed las (putW n wt i b)) (Ref.waitL n (putW n wt i b)) (-1) (d : Int) :: F) := by
  have hb0 := hb W h.tail
  obtain rfl : b.length = m := hb0.1
  by_cases hi : i < n ∧ b.length = 64
  · rw [decide_eq_true hi]
    obtain ⟨h1, h2⟩ := hi
    have hp : putW n wt i b = (fun j => if j = i then some b else wt j) := if_pos ⟨h1, h2⟩
    rw [hp]
    rw [h2] at hb ⊢
    refine (Ref.rwrite_ h hl hw hd i h1 hb).mono ?_
    rintro e w' ⟨rfl, hS⟩
    exact ⟨done + 1, Nat.le_refl _, rfl, hS⟩
  · rw [decide_eq_false hi]
    refine (Ref.write_out h (i : Int) hb0.2.1 (by omega)).mono ?_
    rintro e w' ⟨rfl, rfl⟩
    rw [show putW n wt i b = wt from if_neg hi]
    exact ⟨done, by omega, rfl, h⟩
end
theorem zeros_none {n : Nat} : ∀ (i : Nat) (b : List Int), (fun _ => none : Wt) i = some b → Bytes b := fun i b h => by cases h
set_option maxHeartbeats 1600000 in
set_option maxRecDepth 100000 in
theorem lbest_ {A0 A1 : Option Addr} {n0 c0 n1 c1 : Nat} {a b : List Int} {m : Int} {w : World} (h0 : U8.C w A0 n0 a) (hc0 : n0 ≤ c0) (hb0 : Bytes a) (h1 : U8.C w A1 n1 b) (hc1 : n1 ≤ c1) (hb1 : Bytes b) :
    Calls Try.prog 41 #[.int .i64 m, .slice A0 n0 c0, .slice A1 n1 c1] w fun e w' => e = .returned (.bool true) ∧ Below w.heap.size w w' := by
  have H0 := Aside0.mk (And.intro h0 (And.intro hc0 hb0))
  have H1 := Aside0.mk (And.intro h1 (And.intro hc1 hb1))
  clear h0 hc0 hb0 h1 hc1 hb1
  by_cases hm : m < 1 ∨ 160 < m
  case pos =>
    have HM := Aside0.mk hm
    clear hm
    go_enter Try.func41, Try.ntmps41
    go_wp2_with fail
    refine (new_none HM.out).mono ?_
    rintro e w1 ⟨rfl, rfl⟩
    go_wp2_with fail
    refine (Ref.new_none HM.out).mono ?_
    rintro e w1 ⟨rfl, rfl⟩
    go_wp2_with fail
    go_ret
    exact ⟨by first | rfl | (simp; done), Below.refl _ _⟩
  case neg =>
    obtain ⟨n, rfl⟩ : ∃ n : Nat, m = (n : Int) := ⟨m.toNat, by omega⟩
    have HN : Aside0 (1 ≤ n ∧ n ≤ 160) := ⟨by omega⟩
    clear hm
    go_enter Try.func41, Try.ntmps41
    go_wp2_with fail
    refine (new_ok HN.out.1 HN.out.2).mono ?_
    rintro e w1 ⟨g, rfl, hS1⟩
    have A1 := Aside0.mk hS1
    clear hS1
    go_wp2_with fail
    refine (Ref.new_ok HN.out.1 HN.out.2).mono ?_
    rintro e w2 ⟨gr, rfl, hS2⟩
    have hzl : (List.replicate (n * 64) (0 : Int)).length = 64 * n := by rw [List.length_replicate]; omega
    have B2 : Aside0 (Sep w w2 [Dsk g (List.replicate (n * 64) 0) (fun _ => none), Ref.RD gr n (List.replicate (n * 64) 0) (flushed (List.replicate (n * 64) 0) (fun _ => none)) (Ref.waitL n (fun _ => none)) (-1) ((0 : Nat) : Int)]) := ⟨by
      rw [flushed_none hzl, Ref.waitL_none]
      exact (A1.out.lift1 hS2).at2⟩
    have HZB : Aside0 (Bytes (List.replicate (n * 64) (0 : Int))) := ⟨zeros_bytes _⟩
    have HZL := Aside0.mk hzl
    clear hS2 hzl
    generalize List.replicate (n * 64) (0 : Int) = z at *
    go_wp2_with fail
    refine (dwrite_ B2.out HZL.out HN.out.2 0 (b := a) (Kd.C_below H0.out.1 B2.out.toBelow) H0.out.2.1).mono ?_
    rintro e w3 ⟨rfl, hS3⟩
    have B3 := Aside0.mk hS3.at2
    clear hS3
    go_wp2_with fail
    refine (rdwrite_ B3.out HZL.out Ref.none_len (by decide) 0 (b := a) (fun W' hW => Kd.C_below H0.out.1 hW.toBelow)).mono ?_
    rintro e w4 ⟨d4, hd4, rfl, hS4⟩
    have B4 := Aside0.mk hS4.at2
    have HD4 := Aside0.mk hd4
    have HL4 := Aside0.mk (putW_len (n := n) (i := 0) (b := a) Ref.none_len)
    have HB4 := Aside0.mk (putW_bytes (n := n) (i := 0) (b := a) (zeros_none (n := n)) H0.out.2.2)
    clear hS4 hd4
    generalize putW n (fun _ => none) 0 a = t4 at *
    go_wp2_with fail
    refine (dwrite_ B4.out HZL.out HN.out.2 1 (b := b) (Kd.C_below H1.out.1 B4.out.toBelow) H1.out.2.1).mono ?_
    rintro e w5 ⟨rfl, hS5⟩
    have B5 := Aside0.mk hS5.at2
    clear hS5
    go_wp2_with fail
    refine (rdwrite_ B5.out HZL.out HL4.out (by have := HD4.out; omega) 1 (b := b) (fun W' hW => Kd.C_below H1.out.1 hW.toBelow)).mono ?_
    rintro e w6 ⟨d6, hd6, rfl, hS6⟩
    have B6 := Aside0.mk hS6.at2
    have HL6 := Aside0.mk (putW_len (n := n) (i := 1) (b := b) HL4.out)
    have HB6 := Aside0.mk (secF_bytes (n := n) HZB.out (putW_bytes (n := n) (i := 1) (b := b) HB4.out H1.out.2.2))
    clear hS6 hd6
    generalize putW n t4 1 b = t6 at *
    go_wp2_with fail
    refine (best_ B6.out HZL.out HN.out.2 HL6.out HB6.out).mono ?_
    rintro e w7 ⟨rfl, hS7⟩
    obtain ⟨r, hr⟩ : ∃ r, bestTo n (secF n z t6) 2 = r := ⟨_, rfl⟩
    have HR := Aside0.mk hr
    rw [hr]
    clear hr
    obtain ⟨x, y, u⟩ := r
    rw [show rootV (x, y, u) = .agg #[.int .i64 x, .int .i64 y, .int .u32 u] from rfl]
    have B7 := Aside0.mk ((hS7.newBlk 26 #[.int .i64 x, .int .i64 y, .int .u32 u]).at3)
    clear hS7
    go_wp2_with fail
    refine (rbest_ B7.out HZL.out HL6.out HB6.out).mono ?_
    rintro e w8 ⟨rfl, hS8⟩
    rw [HR.out]
    rw [show rootV (x, y, u) = .agg #[.int .i64 x, .int .i64 y, .int .u32 u] from rfl]
    have B8 := Aside0.mk (hS8.at2.newBlk 26 #[.int .i64 x, .int .i64 y, .int .u32 u])
    have l0 := (B8.out.at2.cell 0).trans rfl
    have l1 := (B8.out.at2.cell 1).trans rfl
    have l2 := (B8.out.at2.cell 2).trans rfl
    clear hS8
    go_wp2_with fail
    go_ret
    exact ⟨by first | rfl | (simp; done), B8.out.toBelow⟩
theorem best_nil (w : World) : Calls Try.prog 46 #[.pointer none] w fun e w' => e = .returned (.tuple #[rootV (0, 0, 0), .bool false]) ∧ Below w.heap.size w w' := by
  go_enter Try.func46, Try.ntmps46
  go_wp2_with fail
  go_retc (.tuple #[.agg #[.int .i64 0, .int .i64 0, .int .u32 0], .bool false])
  exact ⟨rfl, below_alloc (Below.refl _ _) _⟩
end Go.Proofs.Ytjngnigelkgekaa.Root
