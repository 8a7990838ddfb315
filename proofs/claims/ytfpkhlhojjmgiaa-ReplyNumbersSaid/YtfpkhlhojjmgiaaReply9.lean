/- engramlaw12: tells, all. -/
import Derived.Test.YtfpkhlhojjmgiaaReply8
namespace Go.Proofs.Ytfpkhlhojjmgiaa.Reply
set_option linter.unusedVariables false
set_option linter.unusedSimpArgs false
open Go.RowKit Go.Proofs.YtfpkhlhojjmgiaaW.PrintWords Go.Proofs.YtfpkhlhojjmgiaaW.PrintLast Go.Proofs.YtfpkhlhojjmgiaaW.PrintMore Go.Proofs.Ytfpkhlhojjmgiaa.Kit
set_option maxHeartbeats 800000 in
set_option maxRecDepth 100000 in
theorem tells_some {v : Value} {n : Int} (h : Ofs v (some n)) (w : World) : Calls Try.prog 38 #[v, .int .i64 n, .bool true] w fun e w' => e = .returned (.bool true) ∧ Below w.heap.size w w' := by
  have HO := Aside0.mk h
  clear h
  go_enter Try.func38, Try.ntmps38
  go_wp2_with fail
  refine (HO.out w).mono ?_
  rintro e w1 ⟨rfl, hb1⟩
  have A1 := Aside0.mk ((Sep.start w).below hb1)
  rw [show (some n).getD 0 = n from rfl, show (some n).isSome = true from rfl]
  clear hb1
  go_wp2_with fail
  refine (must_ HO.out w1).mono ?_
  rintro e w2 ⟨rfl, hb2⟩
  have A2 := Aside0.mk (A1.out.below hb2)
  rw [show (some n).getD (-1) = n from rfl]
  clear hb2
  go_wp2_with fail
  go_ret
  exact ⟨by first | rfl | (simp; done), A2.out.toBelow⟩
set_option maxHeartbeats 800000 in
set_option maxRecDepth 100000 in
theorem tells_none {v : Value} {n : Int} (h : Ofs v none) (w : World) : Calls Try.prog 38 #[v, .int .i64 n, .bool false] w fun e w' => e = .returned (.bool true) ∧ Below w.heap.size w w' := by
  have HO := Aside0.mk h
  clear h
  go_enter Try.func38, Try.ntmps38
  go_wp2_with fail
  refine (HO.out w).mono ?_
  rintro e w1 ⟨rfl, hb1⟩
  have A1 := Aside0.mk ((Sep.start w).below hb1)
  clear hb1
  go_wp2_with fail
  refine (must_ HO.out w1).mono ?_
  rintro e w2 ⟨rfl, hb2⟩
  have A2 := Aside0.mk (A1.out.below hb2)
  clear hb2
  go_wp2_with fail
  go_ret
  exact ⟨by first | rfl | (simp; done), A2.out.toBelow⟩
/-- The thirteen values that have no number. -/
def odd (p0 p1 p2 p3 : Nat) : List OV := [vNil, ⟨.iface 83 (.float .f64 4609434218613702656), rfl⟩, ⟨.iface 56 (.agg #[.int .i64 3]), rfl⟩, ⟨.iface 84 (.pointer (some ⟨p0, 0, none⟩)), rfl⟩, ⟨.iface 27 (.slice (some ⟨p1, 0, none⟩) 1 1), rfl⟩, ⟨.iface 5 (.int .u8 3), rfl⟩, ⟨.iface 32 (.int .u64 4), rfl⟩, ⟨.iface 87 (.int .i64 0), rfl⟩, ⟨.iface 87 (.int .i64 1), rfl⟩, ⟨.iface 43 (.slice (some ⟨p2, 0, none⟩) 1 1), rfl⟩, ⟨.iface 88 (.pointer (some ⟨p3, 0, none⟩)), rfl⟩, ⟨.iface 89 (.int .i16 4), rfl⟩, ⟨.iface 90 (.complex .f64 4607182418800017408 4611686018427387904), rfl⟩]
theorem odd_ofs (p0 p1 p2 p3 : Nat) : OfsAll (odd p0 p1 p2 p3) (List.replicate 13 none) :=
  .cons of_nil (.cons (of_type (by decide)) (.cons (of_type (by decide)) (.cons (of_type (by decide)) (.cons (of_type (by decide)) (.cons (of_type (by decide)) (.cons (of_type (by decide)) (.cons (of_type (by decide)) (.cons (of_type (by decide)) (.cons (of_type (by decide)) (.cons (of_type (by decide)) (.cons (of_type (by decide)) (.cons (of_type (by decide)) .nil))))))))))))
end Go.Proofs.Ytfpkhlhojjmgiaa.Reply
