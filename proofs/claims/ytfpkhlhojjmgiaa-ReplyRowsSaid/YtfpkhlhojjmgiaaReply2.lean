/- Package reply: the number of a value. -/
import Derived.Test.YtfpkhlhojjmgiaaReply1
namespace Go.Proofs.Ytfpkhlhojjmgiaa.Reply
set_option linter.unusedVariables false
set_option linter.unusedSimpArgs false
open Go.RowKit Go.Proofs.YtfpkhlhojjmgiaaW.PrintWords Go.Proofs.YtfpkhlhojjmgiaaW.PrintLast Go.Proofs.YtfpkhlhojjmgiaaW.PrintMore Go.Proofs.Ytfpkhlhojjmgiaa.Kit
theorem infoTI : (Try.prog.info? 3).map (fun i => i.zero) = some (some (.int .i64 0)) := by kernel_rfl
theorem infoTL : (Try.prog.info? 2).map (fun i => i.zero) = some (some (.int .i64 0)) := by kernel_rfl
theorem infoTB : (Try.prog.info? 4).map (fun i => i.zero) = some (some (.bool false)) := by kernel_rfl
theorem infoTR : (Try.prog.info? 21).map (fun i => i.zero) = some (some (.int .i32 0)) := by kernel_rfl
theorem infoTS : (Try.prog.info? 9).map (fun i => i.zero) = some (some (.string ⟨#[]⟩)) := by kernel_rfl
theorem infoTA : (Try.prog.info? 46).map (fun i => i.zero) = some (some (.slice none 0 0)) := by kernel_rfl
/-- What v.(T) finds. -/
def Finds (v : Value) (T : TypeId) (z : Value) (ok : Bool) : Prop := ∀ W : World, (Instr.typeAssert v 20 T true).run Try.prog W = .ok (.tuple #[z, .bool ok]) W
section
variable {T : TypeId} {z x : Value}
theorem finds_int : Finds (.iface 3 x) 3 x true := fun W => by simp [Instr.typeAssert, run_underlying Try.underlying3]
theorem finds_int64 : Finds (.iface 2 x) 2 x true := fun W => by simp [Instr.typeAssert, run_underlying Try.underlying2]
theorem finds_bool : Finds (.iface 4 x) 4 x true := fun W => by simp [Instr.typeAssert, run_underlying Try.underlying4]
theorem finds_rune : Finds (.iface 21 x) 21 x true := fun W => by simp [Instr.typeAssert, run_underlying Try.underlying21]
theorem finds_string : Finds (.iface 9 x) 9 x true := fun W => by simp [Instr.typeAssert, run_underlying Try.underlying9]
theorem finds_anys : Finds (.iface 46 x) 46 x true := fun W => by simp [Instr.typeAssert, run_underlying Try.underlying46]
theorem not_int (h : T ≠ 3) : Finds (.iface T x) 3 (.int .i64 0) false := fun W => by
  obtain ⟨i, hi, hz⟩ := Option.map_eq_some_iff.1 infoTI
  simp [Instr.typeAssert, run_underlying Try.underlying3, h, zeroValue, typeInfo, hi, hz]
theorem not_int64 (h : T ≠ 2) : Finds (.iface T x) 2 (.int .i64 0) false := fun W => by
  obtain ⟨i, hi, hz⟩ := Option.map_eq_some_iff.1 infoTL
  simp [Instr.typeAssert, run_underlying Try.underlying2, h, zeroValue, typeInfo, hi, hz]
theorem not_bool (h : T ≠ 4) : Finds (.iface T x) 4 (.bool false) false := fun W => by
  obtain ⟨i, hi, hz⟩ := Option.map_eq_some_iff.1 infoTB
  simp [Instr.typeAssert, run_underlying Try.underlying4, h, zeroValue, typeInfo, hi, hz]
theorem not_rune (h : T ≠ 21) : Finds (.iface T x) 21 (.int .i32 0) false := fun W => by
  obtain ⟨i, hi, hz⟩ := Option.map_eq_some_iff.1 infoTR
  simp [Instr.typeAssert, run_underlying Try.underlying21, h, zeroValue, typeInfo, hi, hz]
theorem not_string (h : T ≠ 9) : Finds (.iface T x) 9 (.string ⟨#[]⟩) false := fun W => by
  obtain ⟨i, hi, hz⟩ := Option.map_eq_some_iff.1 infoTS
  simp [Instr.typeAssert, run_underlying Try.underlying9, h, zeroValue, typeInfo, hi, hz]
theorem not_anys (h : T ≠ 46) : Finds (.iface T x) 46 (.slice none 0 0) false := fun W => by
  obtain ⟨i, hi, hz⟩ := Option.map_eq_some_iff.1 infoTA
  simp [Instr.typeAssert, run_underlying Try.underlying46, h, zeroValue, typeInfo, hi, hz]
theorem nil_finds : Finds .nilIface 3 (.int .i64 0) false ∧ Finds .nilIface 2 (.int .i64 0) false ∧ Finds .nilIface 4 (.bool false) false ∧ Finds .nilIface 21 (.int .i32 0) false ∧ Finds .nilIface 9 (.string ⟨#[]⟩) false ∧ Finds .nilIface 46 (.slice none 0 0) false := by
  obtain ⟨i1, hi1, hz1⟩ := Option.map_eq_some_iff.1 infoTI
  obtain ⟨i2, hi2, hz2⟩ := Option.map_eq_some_iff.1 infoTL
  obtain ⟨i3, hi3, hz3⟩ := Option.map_eq_some_iff.1 infoTB
  obtain ⟨i4, hi4, hz4⟩ := Option.map_eq_some_iff.1 infoTR
  obtain ⟨i5, hi5, hz5⟩ := Option.map_eq_some_iff.1 infoTS
  obtain ⟨i6, hi6, hz6⟩ := Option.map_eq_some_iff.1 infoTA
  refine ⟨fun W => ?_, fun W => ?_, fun W => ?_, fun W => ?_, fun W => ?_, fun W => ?_⟩
  · simp [Instr.typeAssert, run_underlying Try.underlying3, zeroValue, typeInfo, hi1, hz1]
  · simp [Instr.typeAssert, run_underlying Try.underlying2, zeroValue, typeInfo, hi2, hz2]
  · simp [Instr.typeAssert, run_underlying Try.underlying4, zeroValue, typeInfo, hi3, hz3]
  · simp [Instr.typeAssert, run_underlying Try.underlying21, zeroValue, typeInfo, hi4, hz4]
  · simp [Instr.typeAssert, run_underlying Try.underlying9, zeroValue, typeInfo, hi5, hz5]
  · simp [Instr.typeAssert, run_underlying Try.underlying46, zeroValue, typeInfo, hi6, hz6]
end
/-- What Of says of a value. -/
def Ofs (v : Value) (r : Option Int) : Prop := ∀ W : World, Calls Try.prog 29 #[v] W fun e w' => e = .returned (.tuple #[.int .i64 (r.getD 0), .bool r.isSome]) ∧ Below W.heap.size W w'
set_option maxHeartbeats 800000 in
set_option maxRecDepth 100000 in
theorem of_int (n : Int) : Ofs (.iface 3 (.int .i64 n)) (some n) := fun W => by
  have f1 := finds_int (x := .int .i64 n) W
  go_enter Try.func29, Try.ntmps29
  go_wp2_with fail
  go_ret2
  exact ⟨by first | rfl | (simp; done), Below.refl _ _⟩
set_option maxHeartbeats 800000 in
set_option maxRecDepth 100000 in
theorem of_int64 (n : Int) : Ofs (.iface 2 (.int .i64 n)) (some n) := fun W => by
  have f1 := not_int (T := 2) (x := .int .i64 n) (by decide) W
  have f2 := finds_int64 (x := .int .i64 n) W
  go_enter Try.func29, Try.ntmps29
  go_wp2_with fail
  go_ret2
  exact ⟨by first | rfl | (simp; done), Below.refl _ _⟩
set_option maxHeartbeats 800000 in
set_option maxRecDepth 100000 in
theorem of_bool (b : Bool) : Ofs (.iface 4 (.bool b)) (some (if b then 1 else 0)) := fun W => by
  have f1 := not_int (T := 4) (x := .bool b) (by decide) W
  have f2 := not_int64 (T := 4) (x := .bool b) (by decide) W
  have f3 := finds_bool (x := .bool b) W
  cases b
  all_goals
    go_enter Try.func29, Try.ntmps29
    go_wp2_with fail
    go_ret2
    exact ⟨by first | rfl | (simp; done), Below.refl _ _⟩
set_option maxHeartbeats 800000 in
set_option maxRecDepth 100000 in
theorem of_rune (n : Int) (hn : -2147483648 ≤ n ∧ n ≤ 2147483647) : Ofs (.iface 21 (.int .i32 n)) (some n) := fun W => by
  have f1 := not_int (T := 21) (x := .int .i32 n) (by decide) W
  have f2 := not_int64 (T := 21) (x := .int .i32 n) (by decide) W
  have f3 := not_bool (T := 21) (x := .int .i32 n) (by decide) W
  have f4 := finds_rune (x := .int .i32 n) W
  have hw : IntKind.i64.wrap n = n := by rw [IntKind.wrap_i64]; omega
  clear hn
  go_enter Try.func29, Try.ntmps29
  go_wp2_with fail
  go_ret2
  exact ⟨by first | rfl | (simp; done) | (simp [hw]; done), Below.refl _ _⟩
set_option maxHeartbeats 800000 in
set_option maxRecDepth 100000 in
theorem of_string (s : ByteArray) : Ofs (.iface 9 (.string s)) (some (runesF s)) := fun W => by
  have f1 := not_int (T := 9) (x := .string s) (by decide) W
  have f2 := not_int64 (T := 9) (x := .string s) (by decide) W
  have f3 := not_bool (T := 9) (x := .string s) (by decide) W
  have f4 := not_rune (T := 9) (x := .string s) (by decide) W
  have f5 := finds_string (x := .string s) W
  go_enter Try.func29, Try.ntmps29
  go_wp2_with fail
  refine (runes_ s _).mono ?_
  rintro e w' ⟨rfl, hb⟩
  have HB := Aside0.mk hb
  clear hb
  go_wp2_with fail
  go_ret2
  exact ⟨by first | rfl | (simp; done), HB.out⟩
set_option maxHeartbeats 800000 in
set_option maxRecDepth 100000 in
theorem of_anys (A : Option Addr) (n c : Nat) : Ofs (.iface 46 (.slice A n c)) (some (n : Int)) := fun W => by
  have f1 := not_int (T := 46) (x := .slice A n c) (by decide) W
  have f2 := not_int64 (T := 46) (x := .slice A n c) (by decide) W
  have f3 := not_bool (T := 46) (x := .slice A n c) (by decide) W
  have f4 := not_rune (T := 46) (x := .slice A n c) (by decide) W
  have f5 := not_string (T := 46) (x := .slice A n c) (by decide) W
  have f6 := finds_anys (x := .slice A n c) W
  go_enter Try.func29, Try.ntmps29
  go_wp2_with fail
  go_ret2
  exact ⟨by first | rfl | (simp; done), Below.refl _ _⟩
set_option maxHeartbeats 800000 in
set_option maxRecDepth 100000 in
theorem of_other {v : Value} (g1 : Finds v 3 (.int .i64 0) false) (g2 : Finds v 2 (.int .i64 0) false) (g3 : Finds v 4 (.bool false) false) (g4 : Finds v 21 (.int .i32 0) false) (g5 : Finds v 9 (.string ⟨#[]⟩) false) (g6 : Finds v 46 (.slice none 0 0) false) : Ofs v none := fun W => by
  have f1 := g1 W
  have f2 := g2 W
  have f3 := g3 W
  have f4 := g4 W
  have f5 := g5 W
  have f6 := g6 W
  clear g1 g2 g3 g4 g5 g6
  go_enter Try.func29, Try.ntmps29
  go_wp2_with fail
  go_ret2
  exact ⟨by first | rfl | (simp; done), Below.refl _ _⟩
theorem of_nil : Ofs .nilIface none := of_other nil_finds.1 nil_finds.2.1 nil_finds.2.2.1 nil_finds.2.2.2.1 nil_finds.2.2.2.2.1 nil_finds.2.2.2.2.2
theorem of_type {T : TypeId} {x : Value} (h : T ≠ 3 ∧ T ≠ 2 ∧ T ≠ 4 ∧ T ≠ 21 ∧ T ≠ 9 ∧ T ≠ 46) : Ofs (.iface T x) none :=
  of_other (not_int h.1) (not_int64 h.2.1) (not_bool h.2.2.1) (not_rune h.2.2.2.1) (not_string h.2.2.2.2.1) (not_anys h.2.2.2.2.2)
end Go.Proofs.Ytfpkhlhojjmgiaa.Reply
