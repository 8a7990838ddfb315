/- Cuts of rows of bytes. -/
import Derived.Test.YtfpkhlhojjmgiaaBase
namespace Go.Proofs.Ytfpkhlhojjmgiaa.Base
set_option linter.unusedVariables false
set_option linter.unusedSimpArgs false
open Go.RowKit Go.Proofs.YtfpkhlhojjmgiaaW.PrintWords Go.Proofs.YtfpkhlhojjmgiaaW.PrintLast Go.Proofs.YtfpkhlhojjmgiaaW.PrintMore Go.Proofs.Ytfpkhlhojjmgiaa.Kit
theorem C_of8 {W : World} {A : Option Addr} {n : Nat} {l : List Int} (h : ReadsOf (Value.int .u8) (0 : Int) W A n l) : U8.C W A n l := Kd.C_of_reads (d := (0 : Int)) (h1 := fun _ => rfl) h
theorem of_C8 {W : World} {A : Option Addr} {n : Nat} {l : List Int} (h : U8.C W A n l) : ReadsOf (Value.int .u8) (0 : Int) W A n l := Kd.reads_of_C (d := (0 : Int)) h
/-- A cut 'x[a:b]' of bytes. -/
theorem mid8 {A : Option Addr} {n c a b : Nat} {l : List Int} {J K : Int} (hJ : J = (a : Int)) (hK : K = (b : Int)) (hl : l.length = n) (hab : a ≤ b) (hb : b ≤ n) (hc : n ≤ c) :
    ∃ A', (∀ W : World, (Instr.slice 22 (.slice A n c) (some (.int .i64 J)) (some (.int .i64 K)) none).run Try.prog W = .ok (.slice A' (b - a) (c - a)) W) ∧ ∀ W : World, U8.C W A n l → U8.C W A' (b - a) ((l.take b).drop a) := by
  subst hJ hK hl
  obtain ⟨i, hi, hz⟩ := Option.map_eq_some_iff.1 infoB
  simp only [Prod.mk.injEq] at hz
  obtain ⟨A', h1, h2, _⟩ := print_mid_of (P := Try.prog) (Value.int .u8) (0 : Int) 22 5 .i64 .i64 Try.underlying22 hi hz.2.1 A c l (a : Int) (b : Int) (by omega) (by omega) (by omega) hc
  have hlen : ((l.take b).drop a).length = b - a := by rw [List.length_drop, List.length_take]; omega
  simp only [Int.toNat_natCast, hlen] at h1 h2
  exact ⟨A', h1, fun W h => C_of8 (h2 W (of_C8 h))⟩
/-- A cut 'x[a:]' of bytes. -/
theorem drop8 {A : Option Addr} {n c a : Nat} {l : List Int} {J : Int} (hJ : J = (a : Int)) (hl : l.length = n) (ha : a ≤ n) (hc : n ≤ c) :
    ∃ A', (∀ W : World, (Instr.slice 22 (.slice A n c) (some (.int .i64 J)) none none).run Try.prog W = .ok (.slice A' (n - a) (c - a)) W) ∧ ∀ W : World, U8.C W A n l → U8.C W A' (n - a) (l.drop a) := by
  subst hJ hl
  obtain ⟨i, hi, hz⟩ := Option.map_eq_some_iff.1 infoB
  simp only [Prod.mk.injEq] at hz
  obtain ⟨A', h1, h2, _⟩ := print_drop_of (P := Try.prog) (Value.int .u8) (0 : Int) 22 5 .i64 Try.underlying22 hi hz.2.1 A c l (a : Int) (by omega) (by omega) hc
  simp only [Int.toNat_natCast, List.length_drop] at h1 h2
  exact ⟨A', h1, fun W h => C_of8 (h2 W (of_C8 h))⟩
/-- A cut 'x[:b]' of bytes. -/
theorem take8 {A : Option Addr} {n c b : Nat} {l : List Int} {K : Int} (hK : K = (b : Int)) (hl : l.length = n) (hb : b ≤ n) (hc : n ≤ c) :
    (∀ W : World, (Instr.slice 22 (.slice A n c) none (some (.int .i64 K)) none).run Try.prog W = .ok (.slice A b c) W) ∧ ∀ W : World, U8.C W A n l → U8.C W A b (l.take b) := by
  subst hK hl
  obtain ⟨i, hi, hz⟩ := Option.map_eq_some_iff.1 infoB
  simp only [Prod.mk.injEq] at hz
  obtain ⟨h1, h2, _⟩ := print_take_of (P := Try.prog) (Value.int .u8) (0 : Int) 22 5 .i64 Try.underlying22 hi hz.2.1 A c l (b : Int) (by omega) (by omega) hc
  have hlen : (l.take b).length = b := by rw [List.length_take]; omega
  simp only [Int.toNat_natCast, hlen] at h1 h2
  exact ⟨h1, fun W h => C_of8 (h2 W (of_C8 h))⟩
/-- A cut 'x[a:b:c]'. -/
theorem cut3 (A : Option Addr) (n c i j k : Nat) (h1 : i ≤ j) (h2 : j ≤ k) (h3 : i < k) (h4 : k ≤ c) :
    ∀ W : World, (Instr.slice 22 (.slice A n c) (some (.int .i64 (i : Int))) (some (.int .i64 (j : Int))) (some (.int .i64 (k : Int)))).run Try.prog W = .ok (.slice (A.map (·.add i)) (j - i) (k - i)) W := by
  intro W
  obtain ⟨t, hi, hz⟩ := Option.map_eq_some_iff.1 infoB
  simp only [Prod.mk.injEq] at hz
  have e1 : (k : Int) ≤ c := by omega
  have e2 : (j : Int) ≤ k := by omega
  have e3 : (i : Int) ≤ j := by omega
  have e4 : ¬ k - i = 0 := by omega
  have e5 : k ≠ i := by omega
  simp [Instr.slice, run_underlying Try.underlying22, Instr.sliceBounds, run_sliceBound, sizeOf, typeInfo, hi, hz.2.1, e1, e2, e3, e4, e5, h1, h2, h4]
/-- A cut 'x[a:]', whatever lies there. -/
theorem cut1 (A : Option Addr) (n c i : Nat) (h1 : i ≤ n) (h2 : n ≤ c) :
    ∃ A', ∀ W : World, (Instr.slice 22 (.slice A n c) (some (.int .i64 (i : Int))) none none).run Try.prog W = .ok (.slice A' (n - i) (c - i)) W := by
  refine ⟨if c = i then A else A.map (·.add i), fun W => ?_⟩
  obtain ⟨t, hi, hz⟩ := Option.map_eq_some_iff.1 infoB
  simp only [Prod.mk.injEq] at hz
  have hel : Try.prog.elem 22 = 5 := by simp [Program.elem, Try.underlying22]
  have hu : Try.prog.underlying 22 = some (.slice (Try.prog.elem 22)) := by rw [hel]; exact Try.underlying22
  rw [run_slice_l W 22 A n c hu .i64 (i : Int) (by omega) (by omega), hel]
  simp [sizeOf, typeInfo, hi, hz.2.1, sliced, Result.andThen]
end Go.Proofs.Ytfpkhlhojjmgiaa.Base
