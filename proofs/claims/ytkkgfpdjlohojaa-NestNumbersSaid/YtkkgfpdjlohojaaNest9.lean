/- Package nest: Of, Deep. -/
import Derived.Test.YtkkgfpdjlohojaaNest8
namespace Go.Proofs.Ytkkgfpdjlohojaa.Nest
set_option linter.unusedVariables false
set_option linter.unusedSimpArgs false
open Go.RowKit Go.Proofs.YtkkgfpdjlohojaaW.PrintWords Go.Proofs.YtkkgfpdjlohojaaW.PrintLast Go.Proofs.YtkkgfpdjlohojaaW.PrintMore Go.Proofs.Ytkkgfpdjlohojaa.Kit
open Go.Proofs.Ytkkgfpdjlohojaa.NestP Go.Proofs.Ytkkgfpdjlohojaa.TokP Go.Proofs.Ytkkgfpdjlohojaa.Tok
def ofR (w0 w' : World) (F : List HP) (e : Ending) : Option MS → Prop
  | some m => ∃ v, e = .returned (.tuple #[v, .int .i64 0]) ∧ Sep w0 w' (Row I64 3 v m.tt :: F)
  | none => e = .returned (.tuple #[.slice none 0 0, .int .i64 13]) ∧ Sep w0 w' F
def deepR (w0 w' : World) (F : List HP) (e : Ending) : Option MS → Prop
  | some m => e = .returned (.int .i64 (m.deep : Int)) ∧ Sep w0 w' F
  | none => e = .returned (.int .i64 (-1)) ∧ Sep w0 w' F
section
variable {w0 W : World} {F : List HP}
set_option maxHeartbeats 1600000 in
set_option maxRecDepth 100000 in
theorem of_ {A : Option Addr} {n c : Nat} {l : List Tok} (hC : ∀ W', Sep w0 W' F → TC W' A n l) (h : Sep w0 W F) (hn : n ≤ 1000000) :
    Calls Try.prog 13 #[.slice A n c] W fun e w' => ofR w0 w' F e (matchN (sgn l)) := by
  have HC := Aside0.mk hC
  have H := Aside0.mk h
  clear hC h
  obtain ⟨o, ho⟩ : ∃ o, matchN (sgn l) = o := ⟨_, rfl⟩
  have HO := Aside0.mk ho
  rw [ho]
  clear ho
  go_enter Try.func13, Try.ntmps13
  cases o with
  | none =>
    go_wp2_with (go_at_call 28; refine (match_ HC.out H.out hn).mono ?_; rintro e w1 ⟨gm, hA⟩; rw [HO.out] at hA; obtain ⟨rfl, hA⟩ := hA; replace hA := Aside0.mk hA)
    go_ret2
    exact ⟨by first | rfl | (simp; done), hA.out⟩
  | some m =>
    go_wp2_with (go_at_call 28; refine (match_ HC.out H.out hn).mono ?_; rintro e w1 ⟨gm, hA⟩; rw [HO.out] at hA; obtain ⟨rfl, hA⟩ := hA; obtain ⟨vt, vo, vs, hv, hs⟩ := mt_open hA; obtain ⟨A9, c9, rfl⟩ := Sep.rowV (show Sep w0 w1 (Row I64 3 vt m.tt :: _) from Sep.pull [_] hs); have z0 : w1.cell? ⟨gm, 0, none⟩ = some (.slice A9 m.tt.length c9) := (Sep.cell (show Sep w0 w1 (Blk gm 69 #[.slice A9 m.tt.length c9, vo, .int .i64 (m.deep : Int)] :: _) from hs) 0).trans rfl; replace hA := Aside0.mk hs; clear hs hv)
    go_ret2
    refine ⟨_, by first | rfl | (simp; done), ?_⟩
    have h2 : Sep w0 w1 (Row I64 3 (.slice A9 m.tt.length c9) m.tt :: _) := Sep.pull [_] hA.out
    have h3 := h2.tail.tail
    have h4 : Sep w0 w1 (_ :: (Row I64 3 (.slice A9 m.tt.length c9) m.tt :: (lvR m.opn.reverse vs ++ F))) := (Sep.at2 hA.out.tail)
    have h5 : Sep w0 w1 ((Row I64 3 (.slice A9 m.tt.length c9) m.tt :: lvR m.opn.reverse vs) ++ F) := h4.tail
    exact Sep.weak (L := lvR m.opn.reverse vs) (Sep.push (lvR m.opn.reverse vs) h5)
set_option maxHeartbeats 1600000 in
set_option maxRecDepth 100000 in
theorem deep_ {A : Option Addr} {n c : Nat} {l : List Tok} (hC : ∀ W', Sep w0 W' F → TC W' A n l) (h : Sep w0 W F) (hn : n ≤ 1000000) :
    Calls Try.prog 14 #[.slice A n c] W fun e w' => deepR w0 w' F e (matchN (sgn l)) := by
  have HC := Aside0.mk hC
  have H := Aside0.mk h
  clear hC h
  obtain ⟨o, ho⟩ : ∃ o, matchN (sgn l) = o := ⟨_, rfl⟩
  have HO := Aside0.mk ho
  rw [ho]
  clear ho
  go_enter Try.func14, Try.ntmps14
  cases o with
  | none =>
    go_wp2_with (go_at_call 28; refine (match_ HC.out H.out hn).mono ?_; rintro e w1 ⟨gm, hA⟩; rw [HO.out] at hA; obtain ⟨rfl, hA⟩ := hA; replace hA := Aside0.mk hA)
    go_ret
    exact ⟨by first | rfl | (simp; done), hA.out⟩
  | some m =>
    go_wp2_with (go_at_call 28; refine (match_ HC.out H.out hn).mono ?_; rintro e w1 ⟨gm, hA⟩; rw [HO.out] at hA; obtain ⟨rfl, hA⟩ := hA; obtain ⟨vt, vo, vs, hv, hs⟩ := mt_open hA; have z0 : w1.cell? ⟨gm, 2, none⟩ = some (.int .i64 (m.deep : Int)) := (Sep.cell (show Sep w0 w1 (Blk gm 69 #[vt, vo, .int .i64 (m.deep : Int)] :: _) from hs) 2).trans rfl; replace hA := Aside0.mk hA.tail; clear hs hv)
    go_ret
    exact ⟨by first | rfl | (simp; done), hA.out⟩
end
end Go.Proofs.Ytkkgfpdjlohojaa.Nest
