/- engramlaw8: same. -/
import Derived.Test.YtkkgfpdjlohojaaNest9
import Derived.Test.YtkkgfpdjlohojaaNestR3
import Derived.Test.YtkkgfpdjlohojaaSame
namespace Go.Proofs.Ytkkgfpdjlohojaa.Law8
set_option linter.unusedVariables false
set_option linter.unusedSimpArgs false
open Go.RowKit Go.Proofs.YtkkgfpdjlohojaaW.PrintWords Go.Proofs.YtkkgfpdjlohojaaW.PrintLast Go.Proofs.YtkkgfpdjlohojaaW.PrintMore Go.Proofs.Ytkkgfpdjlohojaa.Kit
open Go.Proofs.Ytkkgfpdjlohojaa.NestP Go.Proofs.Ytkkgfpdjlohojaa.TokP Go.Proofs.Ytkkgfpdjlohojaa.Tok
abbrev I64 : Kd Int := Kd.int .i64
theorem nilC (W : World) : I64.C W none 0 [] := ⟨rfl, by decide, fun h => by cases h⟩
section
variable {w0 W : World} {F : List HP}
set_option maxHeartbeats 1600000 in
set_option maxRecDepth 100000 in
theorem same_ {A : Option Addr} {n c : Nat} {l : List Tok} (hC : ∀ W', Sep w0 W' F → TC W' A n l) (h : Sep w0 W F) (hn : n ≤ 1000000) :
    Calls Try.prog 7 #[.slice A n c] W fun e w' => e = .returned (.bool true) ∧ Sep w0 w' F := by
  have HC := Aside0.mk hC
  have H := Aside0.mk h
  clear hC h
  obtain ⟨o, ho⟩ : ∃ o, matchN (sgn l) = o := ⟨_, rfl⟩
  have HO := Aside0.mk ho
  have HR : Aside0 (nestR (sgn l) = o.map (fun m => (m.tt, m.deep))) := ⟨by rw [nest_eq, ho]⟩
  clear ho
  go_enter Try.func7, Try.ntmps7
  cases o with
  | none =>
    go_wp2_with (first
      | (go_at_call 13; refine (Nest.of_ HC.out H.out hn).mono ?_; intro e w1 hA; rw [HO.out] at hA; obtain ⟨rfl, hA⟩ := hA; have H1 := Aside0.mk hA; clear hA)
      | (go_at_call 15; refine (NestR.nest_ HC.out H1.out hn).mono ?_; intro e w2 hA; rw [HR.out] at hA; obtain ⟨rfl, hA⟩ := hA; have H2 := Aside0.mk hA; clear hA)
      | (go_at_call 16; go_loud (refine (Book.sameI_ (nilC _) (nilC _)).mono ?_; rintro e w3 ⟨rfl, hb⟩; have H3 := Aside0.mk (H2.out.below hb); clear hb))
      | (go_at_call 14; go_loud (refine (Nest.deep_ HC.out H3.out hn).mono ?_; intro e w4 hA; rw [HO.out] at hA; obtain ⟨rfl, hA⟩ := hA; have H4 := Aside0.mk hA; clear hA)))
    go_ret
    exact ⟨by first | rfl | (simp; done), H4.out⟩
  | some m =>
    go_wp2_with (first
      | (go_at_call 13; refine (Nest.of_ HC.out H.out hn).mono ?_; intro e w1 hA; rw [HO.out] at hA; obtain ⟨v1, rfl, hA⟩ := hA; obtain ⟨A1, c1, rfl⟩ := hA.rowV; have H1 := Aside0.mk hA; clear hA)
      | (go_at_call 15; refine (NestR.nest_ (fun W' h' => HC.out W' h'.tail) H1.out hn).mono ?_; intro e w2 hA; rw [HR.out] at hA; obtain ⟨v2, rfl, hA⟩ := hA; obtain ⟨A2, c2, rfl⟩ := hA.rowV; have H2 := Aside0.mk hA; clear hA)
      | (go_at_call 16; go_loud (refine (Book.sameI_ (xs := m.tt) (ys := m.tt) (H2.out.at2.rowC') (H2.out.rowC')).mono ?_; rintro e w3 ⟨rfl, hb⟩; rw [decide_eq_true (rfl : m.tt = m.tt)]; have H3 := Aside0.mk (H2.out.tail.tail.below hb); clear hb))
      | (go_at_call 14; go_loud (refine (Nest.deep_ HC.out H3.out hn).mono ?_; intro e w4 hA; rw [HO.out] at hA; obtain ⟨rfl, hA⟩ := hA; have H4 := Aside0.mk hA; clear hA)))
    go_ret
    exact ⟨by first | rfl | (simp; done), H4.out⟩
end
end Go.Proofs.Ytkkgfpdjlohojaa.Law8
