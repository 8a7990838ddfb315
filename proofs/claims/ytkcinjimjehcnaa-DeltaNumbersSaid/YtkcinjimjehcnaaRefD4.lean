/- The document's own sameness of changes. -/
import Derived.Test.YtkcinjimjehcnaaRefD3
namespace Go.Proofs.Ytkcinjimjehcnaa.Delta
set_option linter.unusedVariables false
set_option linter.unusedSimpArgs false
open Go.RowKit Go.Proofs.YtkcinjimjehcnaaW.PrintWords Go.Proofs.YtkcinjimjehcnaaW.PrintLast Go.Proofs.YtkcinjimjehcnaaW.PrintMore Go.Proofs.Ytkcinjimjehcnaa.Kit Go.Proofs.Ytkcinjimjehcnaa.Base Go.Proofs.Ytkcinjimjehcnaa.Plain
theorem strC {W : World} {A : Option Addr} {n c : Nat} {xs : List Int} (h : U8.C W A n xs) : (convert 22 9 (.slice A n c)).run Try.prog W = .ok (.string (strOfNums xs)) W := by
  obtain rfl : xs.length = n := h.1
  exact Kd.C_string (P := Try.prog) (c := c) Try.underlying22 Try.underlying5 Try.underlying9 h
theorem beq_str (a b : ByteArray) : (a.toList == b.toList) = decide (a = b) := by
  rw [ByteArray.toList_eq, ByteArray.toList_eq]
  by_cases h : a = b
  · subst h; simp
  · rw [decide_eq_false h]
    exact beq_eq_false_iff_ne.2 (fun h2 => h (ByteArray.ext (by rw [← Array.toList_inj]; exact h2)))
theorem str_inj {xs ys : List Int} (hx : Bytes xs) (hy : Bytes ys) (h : strOfNums xs = strOfNums ys) : xs = ys := by
  have h2 : (strOfNums xs).data.toList = (strOfNums ys).data.toList := by rw [h]
  rw [strOfNums_data, strOfNums_data] at h2
  have hl : xs.length = ys.length := by simpa using congrArg List.length h2
  apply List.ext_getElem hl
  intro i h3 h4
  have h5 : (xs.map fun n => UInt8.ofNat n.toNat)[i]? = (ys.map fun n => UInt8.ofNat n.toNat)[i]? := by rw [h2]
  rw [List.getElem?_map, List.getElem?_map, List.getElem?_eq_getElem h3, List.getElem?_eq_getElem h4, Option.map_some, Option.map_some, Option.some.injEq] at h5
  have a1 := hx xs[i] (List.getElem_mem h3)
  have a2 := hy ys[i] (List.getElem_mem h4)
  have h6 := congrArg UInt8.toNat h5
  rw [UInt8.toNat_ofNat', UInt8.toNat_ofNat'] at h6
  omega
set_option maxHeartbeats 1600000 in
set_option maxRecDepth 100000 in
theorem rsame_ {A B : Option Addr} {n c m d : Nat} {xs ys : List Chg} {w : World} (h1 : KC.C w A n xs) (h2 : KC.C w B m ys) (b1 : ∀ c ∈ xs, Bytes c.2) (b2 : ∀ c ∈ ys, Bytes c.2) :
    Calls Try.prog 29 #[.slice A n c, .slice B m d] w fun e w' => e = .returned (.bool (decide (xs = ys))) ∧ Below w.heap.size w w' := by
  obtain rfl : xs.length = n := h1.1
  obtain rfl : ys.length = m := h2.1
  have hm1 : xs.length ≤ 9223372036854775807 := h1.2.1
  have hm2 : ys.length ≤ 9223372036854775807 := h2.2.1
  have H1 := Aside0.mk h1
  have H2 := Aside0.mk h2
  have HB := Aside0.mk (And.intro b1 b2)
  clear h1 h2 b1 b2
  by_cases hl : xs.length = ys.length
  · have hl' : ((xs.length : Int) != (ys.length : Int)) = false := by simp; omega
    have AEQ := Aside0.mk hl
    clear hl
    go_enter Try.func29, Try.ntmps29
    go_wp2_with fail
    go_loopg [13] xs.length (fun k p wr => ∃ j : Nat, p = .int .i64 (j : Int) ∧ j + k = xs.length ∧ Below w.heap.size w wr ∧ ∀ i, i < j → xs[i]? = ys[i]?)
    case atStart => exact ⟨0, rfl, by omega, Below.refl _ _, fun i hi => by omega⟩
    case round =>
      obtain ⟨j, rfl, hjk, hB, hp⟩ := hrel
      have AB := Aside0.mk hB
      have AP := Aside0.mk hp
      have AK := Aside0.mk hjk
      clear hp
      by_cases hj : j < xs.length
      · have hj2 : j < ys.length := by have := AEQ.out; omega
        obtain ⟨hx, a, Ba, ca, rfl, e0, e1, e2, e3⟩ := elem2_ (Kd.C_below H1.out AB.out) hj
        obtain ⟨hy, b, Bb, cb, rfl, f0, f1, f2, f3⟩ := elem2_ (Kd.C_below H2.out AB.out) hj2
        have HX : Aside0 (xs[j]? = some (xs[j]) ∧ ys[j]? = some (ys[j])) := ⟨List.getElem?_eq_getElem hx, List.getElem?_eq_getElem hy⟩
        have HNE : Aside0 (¬ ((xs[j]).1 = (ys[j]).1 ∧ (xs[j]).2 = (ys[j]).2) → xs ≠ ys) := ⟨fun h he => h (by subst he; exact ⟨rfl, rfl⟩)⟩
        have HBB : Aside0 (Bytes (xs[j]).2 ∧ Bytes (ys[j]).2) := ⟨HB.out.1 _ (List.getElem_mem hx), HB.out.2 _ (List.getElem_mem hy)⟩
        generalize hxv : xs[j] = x at *
        generalize hyv : ys[j] = y at *
        obtain ⟨x1, x2⟩ := x
        obtain ⟨y1, y2⟩ := y
        have z0 : ∀ q, (wr.drewN q).cell? (a.add (j * 2)) = some (.int .i64 x1) := fun q => cell_later (pw_below_drewN (Below.refl _ _) q) e0
        have z1 : ∀ q, (wr.drewN q).cell? ⟨(a.add (j * 2)).block, (a.add (j * 2)).off + 1, none⟩ = some (.slice Ba x2.length ca) := fun q => cell_later (pw_below_drewN (Below.refl _ _) q) e1
        have z2 : ∀ q, (wr.drewN q).cell? (b.add (j * 2)) = some (.int .i64 y1) := fun q => cell_later (pw_below_drewN (Below.refl _ _) q) f0
        have z3 : ∀ q, (wr.drewN q).cell? ⟨(b.add (j * 2)).block, (b.add (j * 2)).off + 1, none⟩ = some (.slice Bb y2.length cb) := fun q => cell_later (pw_below_drewN (Below.refl _ _) q) f1
        have k1 := fun q => strC (c := ca) (Kd.C_below e3 (pw_below_drewN (Below.refl _ _) q))
        have k2 := fun q => strC (c := cb) (Kd.C_below f3 (pw_below_drewN (Below.refl _ _) q))
        have HI : Aside0 (strOfNums x2 = strOfNums y2 → x2 = y2) := ⟨str_inj HBB.out.1 HBB.out.2⟩
        have HI2 : Aside0 (x2 = y2 → strOfNums x2 = strOfNums y2) := ⟨fun h => by rw [h]⟩
        generalize strOfNums x2 = sx at *
        generalize strOfNums y2 = sy at *
        have hjl : (j : Int) < (xs.length : Int) := by omega
        have hjl2 : (j : Int) < (ys.length : Int) := by omega
        have hlx : x2.length ≤ 9223372036854775807 := e3.2.1
        have hly : y2.length ≤ 9223372036854775807 := f3.2.1
        obtain ⟨nx, hnx⟩ : ∃ nx, x2.length = nx := ⟨_, rfl⟩
        obtain ⟨ny, hny⟩ : ∃ ny, y2.length = ny := ⟨_, rfl⟩
        rw [hnx] at z1 k1 hlx
        rw [hny] at z3 k2 hly
        clear hxv hyv e0 e1 e2 e3 f0 f1 f2 f3 hjk hB hnx hny
        by_cases hxy : x1 = y1
        · have hp1 : (x1 != y1) = false := by simpa using hxy
          have HXY := Aside0.mk hxy
          clear hxy
          by_cases hss : sx = sy
          · have hp2 : (sx.toList == sy.toList) = true := by rw [beq_str, decide_eq_true hss]
            have HSS := Aside0.mk hss
            clear hss
            go_wp2_with fail
            go_quiet (fail)
            go_wp2_with fail
            go_roundg (gk - 1)
            case measure => have := AK.out; omega
            case rel => exact ⟨j + 1, by go_num, by have := AK.out; omega, pw_below_drewN AB.out _, fun i hi => by
              by_cases hij : i < j
              · exact AP.out i hij
              · obtain rfl : i = j := by omega
                rw [HX.out.1, HX.out.2, HXY.out, HI.out HSS.out]⟩
          · have hp2 : (sx.toList == sy.toList) = false := by rw [beq_str, decide_eq_false hss]
            have ANE : Aside0 (xs ≠ ys) := ⟨HNE.out (fun h => hss (HI2.out h.2))⟩
            clear hss
            go_wp2_with fail
            go_quiet (fail)
            go_wp2_with fail
            go_ret
            exact ⟨by rw [decide_eq_false ANE.out]; rfl, pw_below_drewN AB.out _⟩
        · have hp1 : (x1 != y1) = true := by simpa using hxy
          have ANE : Aside0 (xs ≠ ys) := ⟨HNE.out (fun h => hxy h.1)⟩
          clear hxy
          go_wp2_with fail
          go_quiet (fail)
          go_wp2_with fail
          go_ret
          exact ⟨by rw [decide_eq_false ANE.out]; rfl, pw_below_drewN AB.out _⟩
      · have hq : xs = ys := List.ext_getElem? (fun i => by
          by_cases hi : i < j
          · exact AP.out i hi
          · have := AEQ.out
            rw [List.getElem?_eq_none (by omega), List.getElem?_eq_none (by omega)])
        have AQ := Aside0.mk hq
        clear hq hjk hB
        go_wp2_with fail
        go_ret
        exact ⟨by rw [decide_eq_true AQ.out]; rfl, AB.out⟩
  · have hne : xs ≠ ys := fun h => hl (by rw [h])
    have ANE := Aside0.mk hne
    have hl' : ¬ (xs.length : Int) = (ys.length : Int) := by omega
    clear hne
    go_enter Try.func29, Try.ntmps29
    go_wp2_with fail
    go_ret
    exact ⟨by rw [decide_eq_false ANE.out]; rfl, Below.refl _ _⟩
end Go.Proofs.Ytkcinjimjehcnaa.Delta
