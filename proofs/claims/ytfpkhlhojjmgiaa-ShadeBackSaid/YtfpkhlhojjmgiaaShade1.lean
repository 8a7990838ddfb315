/- Package shade: a page of bytes; the page that tells lengths. -/
import Derived.Test.YtfpkhlhojjmgiaaSum2
import Derived.Test.YtfpkhlhojjmgiaaEqual
import Derived.Test.YtfpkhlhojjmgiaaCuts
import Derived.Test.YtfpkhlhojjmgiaaZero
import Derived.Lib.SlBytesConst
import Derived.Deep.LoopGhost
namespace Go.Proofs.Ytfpkhlhojjmgiaa.Shade
set_option linter.unusedVariables false
set_option linter.unusedSimpArgs false
open Go.RowKit Go.Proofs.YtfpkhlhojjmgiaaW.PrintWords Go.Proofs.YtfpkhlhojjmgiaaW.PrintLast Go.Proofs.YtfpkhlhojjmgiaaW.PrintMore Go.Proofs.Ytfpkhlhojjmgiaa.Kit Go.Proofs.Ytfpkhlhojjmgiaa.Base Go.Proofs.Ytfpkhlhojjmgiaa.Plain Go.Proofs.Ytfpkhlhojjmgiaa.Sum
theorem lit_C (w : World) (k : IntKind) (C : Array Value) (t : TypeId) (fr : Nat × Nat) (xs : List Int) (hC : C = (xs.map (Value.int k)).toArray) (hn : xs.length ≤ 9223372036854775807) :
    Kd.C (Kd.int k) (w.alloc (.cells C t fr)) (some ⟨w.heap.size, 0, none⟩) xs.length xs := by
  subst hC
  refine Kd.C_of_reads (enc := Value.int k) (d := 0) (h1 := fun _ => rfl) ⟨rfl, hn, fun _ => ⟨_, rfl, fun j hj => ?_⟩⟩
  rw [add_plain, World.cell?_alloc_mark]
  simp [List.getD_eq_getElem?_getD, hj]
def mark : List Int := [85, 78, 73, 84]
def metaF (t p : Int) : List Int := mark ++ put4 t ++ put4 p ++ List.replicate 52 0
set_option maxHeartbeats 800000 in
set_option maxRecDepth 100000 in
theorem meta_ {t p : Int} {w : World} (ht : 0 ≤ t ∧ t ≤ 4294967295) (hp : 0 ≤ p ∧ p ≤ 4294967295) :
    Calls Try.prog 48 #[.int .i64 t, .int .i64 p] w fun e w' => ∃ v, e = .returned v ∧ Sep w w' [Row U8 5 v (metaF t p)] := by
  have kc := fun (w : World) (C : Array Value) (n c : Nat) => Lib.run_convert_bytes_const (P := Try.prog) w 22 5 C n c Try.underlying22 Try.underlying5
  have h1 : IntKind.u32.wrap t = t := by rw [IntKind.wrap_u32]; omega
  have h2 : IntKind.u32.wrap p = p := by rw [IntKind.wrap_u32]; omega
  have HT := Aside0.mk (And.intro ht hp)
  clear ht hp
  go_enter Try.func48, Try.ntmps48
  go_wp2_with fail
  refine (put_ (l := mark) (m := t) (n := 4) (lit_C _ _ _ _ _ _ rfl (by decide)) HT.out.1 (by decide)).mono ?_
  rintro e w1 ⟨v1, rfl, hS1⟩
  obtain ⟨A1, c1, rfl⟩ := hS1.rowN (n := 8) rfl
  have B1 := Aside0.mk (((Sep.start w).alloc _).lift1 hS1)
  clear kc hS1
  go_wp2_with fail
  refine (put_ (l := mark ++ put4 t) (m := p) (n := 8) B1.out.rowC.2.2 HT.out.2 (by decide)).mono ?_
  rintro e w2 ⟨v2, rfl, hS2⟩
  obtain ⟨A2, c2, rfl⟩ := hS2.rowN (n := 12) rfl
  have B2 := Aside0.mk (B1.out.tail.lift1 hS2)
  clear hS2
  go_wp2_with (first | (refine gate_builtin (b := .append) (xs := #[.tmp 14, .tmp 17]) rfl ?_; go_loud (refine B2.out.zerosRow (0 : Int) rfl (.tmp 14) (.tmp 17) 22 3 1 rfl Try.underlying22 Try.underlying3 infoB rfl (by decide) 52 rfl rfl (by simp [mark, put4]) ?_; intro v3 w3 hS3; have B3 := Aside0.mk hS3; clear hS3)))
  go_ret
  exact ⟨_, by first | rfl | (simp; done), B3.out⟩
def pageF (b : List Int) (i : Nat) : List Int := if b.length < 64 * (i + 1) then [] else (b.take (64 * (i + 1))).drop (64 * i)
theorem pageF_in {b : List Int} {i : Nat} (h : 64 * (i + 1) ≤ b.length) : pageF b i = (b.take (64 * (i + 1))).drop (64 * i) := if_neg (by omega)
theorem pageF_len {b : List Int} {i : Nat} (h : 64 * (i + 1) ≤ b.length) : (pageF b i).length = 64 := by rw [pageF_in h, List.length_drop, List.length_take]; omega
set_option maxHeartbeats 800000 in
theorem page_ {A : Option Addr} {n c i : Nat} {b : List Int} {w : World} (hl : b.length = n) (hc : n ≤ c) (hn : n ≤ 1000000) (hi : i ≤ 10000) :
    Calls Try.prog 45 #[.slice A n c, .int .i64 (i : Int)] w fun e w' => ∃ A' c', e = .returned (.slice A' (pageF b i).length c') ∧ (pageF b i).length ≤ c' ∧ w = w' ∧ ∀ W : World, U8.C W A n b → U8.C W A' (pageF b i).length (pageF b i) := by
  by_cases h : n < 64 * (i + 1)
  · have hp : pageF b i = [] := if_pos (by omega)
    have HP := Aside0.mk hp
    have h1 : (n : Int) < ((i : Int) + 1) * 64 := by omega
    clear hp
    go_enter Try.func45, Try.ntmps45
    go_wp2_with fail
    go_ret
    exact ⟨none, 0, by rw [HP.out]; first | rfl | (simp; done), by rw [HP.out]; exact Nat.le_refl _, rfl, fun W _ => by rw [HP.out]; exact Kd.C_nil _ _⟩
  · have h1 : ¬ (n : Int) < ((i : Int) + 1) * 64 := by omega
    have HL := Aside0.mk (pageF_len (b := b) (i := i) (by omega))
    have HP := Aside0.mk (pageF_in (b := b) (i := i) (by omega))
    obtain ⟨A', hcut, hT⟩ := Base.mid8 (A := A) (n := n) (c := c) (a := 64 * i) (b := 64 * (i + 1)) (J := (i : Int) * 64) (K := ((i : Int) + 1) * 64) (l := b) (by omega) (by omega) hl (by omega) (by omega) hc
    have HT := Aside0.mk hT
    rw [show 64 * (i + 1) - 64 * i = 64 by omega] at hcut HT
    have hcc : Aside0 (64 ≤ c - 64 * i) := ⟨by omega⟩
    clear hT hl
    go_enter Try.func45, Try.ntmps45
    go_wp2_with fail
    go_ret
    exact ⟨A', c - 64 * i, by rw [HL.out]; first | rfl | (simp; done), by rw [HL.out]; exact hcc.out, rfl, fun W hC => by rw [HL.out, HP.out]; exact HT.out W hC⟩
end Go.Proofs.Ytfpkhlhojjmgiaa.Shade
