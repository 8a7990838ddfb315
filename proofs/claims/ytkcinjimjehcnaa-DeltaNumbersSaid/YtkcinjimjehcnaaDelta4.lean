/- Package delta: are changes the same. -/
import Derived.Test.YtkcinjimjehcnaaDelta3
import Derived.Test.YtkcinjimjehcnaaEqual
namespace Go.Proofs.Ytkcinjimjehcnaa.Delta
set_option linter.unusedVariables false
set_option linter.unusedSimpArgs false
open Go.RowKit Go.Proofs.YtkcinjimjehcnaaW.PrintWords Go.Proofs.YtkcinjimjehcnaaW.PrintLast Go.Proofs.YtkcinjimjehcnaaW.PrintMore Go.Proofs.Ytkcinjimjehcnaa.Kit Go.Proofs.Ytkcinjimjehcnaa.Base Go.Proofs.Ytkcinjimjehcnaa.Plain
set_option maxHeartbeats 400000 in
theorem same1_ {p q : Int} {A B : Option Addr} {n c m d : Nat} {xs ys : List Int} {w : World} (h1 : U8.C w A n xs) (h2 : U8.C w B m ys) :
    Calls Try.prog 44 #[.agg #[.int .i64 p, .slice A n c], .agg #[.int .i64 q, .slice B m d]] w fun e w' => e = .returned (.bool (decide (p = q ∧ xs = ys))) ∧ Below w.heap.size w w' := by
  have H1 := Aside0.mk h1
  have H2 := Aside0.mk h2
  clear h1 h2
  have BL := Aside0.mk (((Sep.start w).newBlk 42 #[.int .i64 p, .slice A n c]).newBlk 42 #[.int .i64 q, .slice B m d])
  by_cases hpq : p = q
  · subst hpq
    go_enter Try.func44, Try.ntmps44
    go_wp2_with fail
    refine (equal_ (Kd.C_below H1.out BL.out.toBelow) (Kd.C_below H2.out BL.out.toBelow)).mono ?_
    rintro e w2 ⟨rfl, hb⟩
    have B2 := Aside0.mk (BL.out.below hb).toBelow
    clear hb
    go_wp2_with fail
    go_ret
    exact ⟨by simp, B2.out⟩
  · have hd : (p == q) = false := by simpa using hpq
    go_enter Try.func44, Try.ntmps44
    go_wp2_with fail
    go_ret
    exact ⟨by simp [hpq], BL.out.toBelow⟩
theorem chg_eq {a b : Chg} : a = b ↔ a.1 = b.1 ∧ a.2 = b.2 := by
  constructor
  · rintro rfl; exact ⟨rfl, rfl⟩
  · rintro ⟨h1, h2⟩; exact Prod.ext h1 h2
set_option maxHeartbeats 1600000 in
set_option maxRecDepth 100000 in
theorem equalF_ {A B : Option Addr} {n c m d : Nat} {xs ys : List Chg} {w : World} (h1 : KC.C w A n xs) (h2 : KC.C w B m ys) :
    Calls Try.prog 43 #[.slice A n c, .slice B m d, .func (.func 44) #[] #[]] w fun e w' => e = .returned (.bool (decide (xs = ys))) ∧ Below w.heap.size w w' := by
  obtain rfl : xs.length = n := h1.1
  obtain rfl : ys.length = m := h2.1
  have hm1 : xs.length ≤ 9223372036854775807 := h1.2.1
  have hm2 : ys.length ≤ 9223372036854775807 := h2.2.1
  have H1 := Aside0.mk h1
  have H2 := Aside0.mk h2
  clear h1 h2
  by_cases hl : xs.length = ys.length
  · have hl' : (xs.length : Int) = (ys.length : Int) := by omega
    clear hl
    go_enter Try.func43, Try.ntmps43
    go_wp2_with fail
    go_loopg [17] xs.length (fun k p wr => ∃ j : Nat, p = .int .i64 (j : Int) ∧ j + k = xs.length ∧ Below w.heap.size w wr ∧ ∀ i, i < j → xs[i]? = ys[i]?)
    case atStart => exact ⟨0, rfl, by omega, Below.refl _ _, fun i hi => by omega⟩
    case round =>
      obtain ⟨j, rfl, hjk, hB, hp⟩ := hrel
      have AB := Aside0.mk hB
      have AP := Aside0.mk hp
      have AK := Aside0.mk hjk
      clear hp
      by_cases hj : j < xs.length
      · clear hjk
        obtain ⟨hx, a, Ba, ca, rfl, e0, e1, e2, e3⟩ := elem2_ (Kd.C_below H1.out AB.out) hj
        obtain ⟨hy, b, Bb, cb, rfl, f0, f1, f2, f3⟩ := elem2_ (Kd.C_below H2.out AB.out) (show j < ys.length by omega)
        have HX : Aside0 (xs[j]? = some (xs[j]) ∧ ys[j]? = some (ys[j])) := ⟨List.getElem?_eq_getElem hx, List.getElem?_eq_getElem hy⟩
        have HNE : Aside0 (¬ ((xs[j]).1 = (ys[j]).1 ∧ (xs[j]).2 = (ys[j]).2) → xs ≠ ys) := ⟨fun h he => h (by subst he; exact ⟨rfl, rfl⟩)⟩
        have HC := Aside0.mk (And.intro e3 f3)
        generalize hxv : xs[j] = x at *
        generalize hyv : ys[j] = y at *
        have hlx : x.2.length ≤ 9223372036854775807 := e3.2.1
        have hly : y.2.length ≤ 9223372036854775807 := f3.2.1
        clear hxv hyv e2 e3 f2 f3
        have BL := Aside0.mk ((((Sep.start w).below hB).newBlk 42 #[.int .i64 x.1, .slice Ba x.2.length ca]).newBlk 42 #[.int .i64 y.1, .slice Bb y.2.length cb])
        have BW := Aside0.mk (((Sep.start wr).newBlk 42 #[.int .i64 x.1, .slice Ba x.2.length ca]).newBlk 42 #[.int .i64 y.1, .slice Bb y.2.length cb]).toBelow
        have f4 := cell_later (below_alloc (Below.refl wr.heap.size wr) (.cells #[.int .i64 x.1, .slice Ba x.2.length ca] 42)) f0
        have f5 := cell_later (below_alloc (Below.refl wr.heap.size wr) (.cells #[.int .i64 x.1, .slice Ba x.2.length ca] 42)) f1
        clear hB f0 f1
        go_wp2_with fail
        refine (same1_ (p := x.1) (q := y.1) (Kd.C_below HC.out.1 BW.out) (Kd.C_below HC.out.2 BW.out)).mono ?_
        rintro e w2 ⟨rfl, hb⟩
        have B2 := Aside0.mk (BL.out.below hb).toBelow
        clear hb
        by_cases hxy : x.1 = y.1 ∧ x.2 = y.2
        · rw [decide_eq_true hxy]
          have HXY := Aside0.mk hxy
          clear hxy
          go_wp2_with fail
          go_roundg (gk - 1)
          case measure => have := AK.out; omega
          case rel => exact ⟨j + 1, by go_num, by have := AK.out; omega, B2.out, fun i hi => by
            by_cases hij : i < j
            · exact AP.out i hij
            · obtain rfl : i = j := by omega
              rw [HX.out.1, HX.out.2, chg_eq.2 HXY.out]⟩
        · rw [decide_eq_false hxy]
          have ANE := Aside0.mk (HNE.out hxy)
          clear hxy
          go_wp2_with fail
          go_ret
          exact ⟨by rw [decide_eq_false ANE.out]; rfl, B2.out⟩
      · have hq : xs = ys := List.ext_getElem? (fun i => by
          by_cases hi : i < j
          · exact AP.out i hi
          · rw [List.getElem?_eq_none (by omega), List.getElem?_eq_none (by omega)])
        have AQ := Aside0.mk hq
        clear hq hjk hB
        go_wp2_with fail
        go_ret
        exact ⟨by rw [decide_eq_true AQ.out]; rfl, AB.out⟩
  · have hne : xs ≠ ys := fun h => hl (by rw [h])
    have ANE := Aside0.mk hne
    have hl' : ¬ (xs.length : Int) = (ys.length : Int) := by omega
    clear hne
    go_enter Try.func43, Try.ntmps43
    go_wp2_with fail
    go_ret
    exact ⟨by rw [decide_eq_false ANE.out]; rfl, Below.refl _ _⟩
set_option maxHeartbeats 400000 in
theorem same_ {A B : Option Addr} {n c m d : Nat} {xs ys : List Chg} {w : World} (h1 : KC.C w A n xs) (h2 : KC.C w B m ys) :
    Calls Try.prog 28 #[.slice A n c, .slice B m d] w fun e w' => e = .returned (.bool (decide (xs = ys))) ∧ Below w.heap.size w w' := by
  go_enter Try.func28, Try.ntmps28
  go_wp2_with fail
  refine (equalF_ h1 h2).mono ?_
  rintro e w2 ⟨rfl, hb⟩
  go_wp2_with fail
  go_ret
  exact ⟨by first | rfl | (simp; done), hb⟩
end Go.Proofs.Ytkcinjimjehcnaa.Delta
