/- Package nest: a matcher; its innermost part; a beginning. -/
import Derived.Test.YtkkgfpdjlohojaaNestP
import Derived.Test.YtkkgfpdjlohojaaRawPut
import Derived.Test.YtkkgfpdjlohojaaCutsAny
import Derived.Test.YtkkgfpdjlohojaaFx
import Derived.Test.YtkkgfpdjlohojaaBook
import Derived.Deep.Cut
namespace Go.Proofs.Ytkkgfpdjlohojaa.Nest
set_option linter.unusedVariables false
set_option linter.unusedSimpArgs false
open Go.RowKit Go.Proofs.YtkkgfpdjlohojaaW.PrintWords Go.Proofs.YtkkgfpdjlohojaaW.PrintLast Go.Proofs.YtkkgfpdjlohojaaW.PrintMore Go.Proofs.Ytkkgfpdjlohojaa.Kit
open Go.Proofs.Ytkkgfpdjlohojaa.NestP
abbrev I64 : Kd Int := Kd.int .i64
def cellsP (p : Pt) (v : Value) : List Value := [.bool p.loop, .int .i64 (p.beg : Int), .int .i64 (p.oth : Int), v]
/-- The parts' leaves, each a row of its own. -/
def lvR : List Pt → List Value → List HP
  | p :: ps, v :: vs => Row I64 3 v (p.lvs.map (fun k : Nat => (k : Int))) :: lvR ps vs
  | _, _ => []
def rawC : List Pt → List Value → List (List Value)
  | p :: ps, v :: vs => cellsP p v :: rawC ps vs
  | _, _ => []
theorem rawC_len : ∀ (ps : List Pt) (vs : List Value), vs.length = ps.length → (rawC ps vs).length = ps.length
  | [], [], _ => rfl
  | p :: ps, v :: vs, h => by
    show (rawC ps vs).length + 1 = ps.length + 1
    rw [rawC_len ps vs (by simpa using h)]
theorem rawC_app : ∀ (ps qs : List Pt) (vs us : List Value), vs.length = ps.length → rawC (ps ++ qs) (vs ++ us) = rawC ps vs ++ rawC qs us
  | [], qs, [], us, _ => rfl
  | p :: ps, qs, v :: vs, us, h => by
    show cellsP p v :: rawC (ps ++ qs) (vs ++ us) = _
    rw [rawC_app ps qs vs us (by simpa using h)]
    rfl
theorem lvR_app : ∀ (ps qs : List Pt) (vs us : List Value), vs.length = ps.length → lvR (ps ++ qs) (vs ++ us) = lvR ps vs ++ lvR qs us
  | [], qs, [], us, _ => rfl
  | p :: ps, qs, v :: vs, us, h => by
    show _ :: lvR (ps ++ qs) (vs ++ us) = _
    rw [lvR_app ps qs vs us (by simpa using h)]
    rfl
/-- A matcher's resources: the parts bottom first. -/
def MtL (gm : Nat) (vt vo : Value) (tt : List Int) (ps : List Pt) (deep : Nat) (vs : List Value) : List HP :=
  Blk gm 69 #[vt, vo, .int .i64 (deep : Int)] :: Row I64 3 vt tt :: Row (Kd.raw 4) 92 vo (rawC ps vs) :: lvR ps vs
section
variable {w0 W : World} {F : List HP} {gm : Nat} {vt vo : Value} {tt : List Int} {ps : List Pt} {deep : Nat} {vs : List Value}
set_option maxHeartbeats 800000 in
/-- Nothing is open. -/
theorem top_nil (h : Sep w0 W (MtL gm vt vo tt [] deep [] ++ F)) : Calls Try.prog 46 #[.pointer (some ⟨gm, 0, none⟩)] W fun e w' => e = .returned (.pointer none) ∧ W = w' := by
  have z1 := (Sep.cell (show Sep w0 W (Blk gm 69 #[vt, vo, .int .i64 (deep : Int)] :: _) from h) 1).trans rfl
  obtain ⟨A, c, rfl⟩ := Sep.rowN (n := 0) (show Sep w0 W (Row (Kd.raw 4) 92 vo [] :: _) from h.tail.tail) rfl
  clear h
  go_enter Try.func46, Try.ntmps46
  go_wp2_with fail
  go_ret
  exact ⟨by first | rfl | (simp; done), rfl⟩
set_option maxHeartbeats 800000 in
/-- The innermost part. -/
theorem top_some {ga N n c : Nat} (h : Sep w0 W (MtL gm vt (.slice (some ⟨ga, 0, none⟩) N c) tt ps deep vs ++ F)) (hN : N = n + 1) : Calls Try.prog 46 #[.pointer (some ⟨gm, 0, none⟩)] W fun e w' => e = .returned (.pointer (some ⟨ga, n * 4, none⟩)) ∧ Sep w0 w' (MtL gm vt (.slice (some ⟨ga, 0, none⟩) N c) tt ps deep vs ++ F) := by
  have H0 := Aside0.mk h
  have hNm : (N : Int) ≤ 9223372036854775807 := by
    have := (Sep.rowC' (show Sep w0 W (Row (Kd.raw 4) 92 (.slice (some ⟨ga, 0, none⟩) N c) (rawC ps vs) :: _) from h.tail.tail)).2.1
    have h2 : N ≤ 9223372036854775807 := this
    omega
  have z1 := (Sep.cell (show Sep w0 W (Blk gm 69 #[vt, .slice (some ⟨ga, 0, none⟩) N c, .int .i64 (deep : Int)] :: _) from h) 1).trans rfl
  have z1q := fun q => (Sep.cell (show Sep w0 (W.drewN q) (Blk gm 69 #[vt, .slice (some ⟨ga, 0, none⟩) N c, .int .i64 (deep : Int)] :: _) from h.drewN q) 1).trans rfl
  have hd : decide ((N : Int) = 0) = false := decide_eq_false (by omega)
  have hd2 : decide (N = 0) = false := decide_eq_false (by omega)
  have hw : wrap64 ((N : Int) - 1) = (n : Int) := by rw [IntWalk.wrap64_in _ (by omega)]; omega
  have hnl : (n : Int) < (N : Int) := by omega
  have hn0 : ¬ (N : Int) = 0 := by omega
  have hn0' : ¬ N = 0 := by omega
  have HN := Aside0.mk hN
  clear h hN
  go_enter Try.func46, Try.ntmps46
  go_wp2_with fail
  go_quiet (fail)
  go_wp2_with fail
  go_ret
  exact ⟨by first | rfl | (simp; done) | (simp; have := HN.out; omega), H0.out.drewN _⟩
end
end Go.Proofs.Ytkkgfpdjlohojaa.Nest
