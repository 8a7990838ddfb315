/- Plain law: changes written are read as themselves. DeltaBack: the walk. -/
import Derived.Test.YtkcinjimjehcnaaLaw4b
namespace Go.Proofs.Ytkcinjimjehcnaa.Delta
set_option linter.unusedVariables false
set_option linter.unusedSimpArgs false
open Go.RowKit Go.Proofs.YtkcinjimjehcnaaW.PrintWords Go.Proofs.YtkcinjimjehcnaaW.PrintLast Go.Proofs.YtkcinjimjehcnaaW.PrintMore Go.Proofs.Ytkcinjimjehcnaa.Kit Go.Proofs.Ytkcinjimjehcnaa.Base Go.Proofs.Ytkcinjimjehcnaa.Plain Go.Proofs.Ytkcinjimjehcnaa.Tape
theorem okF_all : ∀ {l : List Chg} {pages last : Int}, okF pages last l = true → -1 ≤ last → ∀ c ∈ l, 0 ≤ c.1 ∧ c.1 < pages ∧ c.2.length = 64
  | [], _, _, _, _, _, hc => by cases hc
  | c :: r, pages, last, h, hl, x, hx => by
    unfold okF at h
    rw [Bool.and_eq_true, decide_eq_true_eq] at h
    rcases List.mem_cons.1 hx with rfl | hx
    · exact ⟨by omega, by omega, h.1.2.2⟩
    · exact okF_all h.2 (by omega) x hx
theorem flat_drop : ∀ {l : List Chg} (_ : ∀ c ∈ l, c.2.length = 64) (i : Nat), (l.flatMap oneF).drop (66 * i) = (l.drop i).flatMap oneF
  | _, _, 0 => rfl
  | [], _, i + 1 => by simp
  | c :: r, h, i + 1 => by
    have hlen : (oneF c).length = 66 := by simp [oneF, two, h c (List.mem_cons_self ..)]
    rw [List.flatMap_cons, show 66 * (i + 1) = 66 + 66 * i by omega, ← List.drop_drop, List.drop_left' hlen, List.drop_succ_cons]
    exact flat_drop (fun x hx => h x (List.mem_cons_of_mem _ hx)) i
theorem undelta_delta {l : List Chg} {pages : Int} (h : rightF l pages = true) : undeltaF (deltaF l) pages = some l := by
  have hr := right_len h
  have h' := h
  unfold rightF at h'
  rw [Bool.and_eq_true, decide_eq_true_eq] at h'
  have hall := okF_all h'.2 (by omega)
  have hfl : ∀ c ∈ l, c.2.length = 64 := fun c hc => (hall c hc).2.2
  have hc : countF (deltaF l) = l.length := by
    unfold countF deltaF two rd
    simp
    omega
  have hraw : rawF (deltaF l) = l := by
    unfold rawF
    rw [hc]
    apply List.ext_getElem (by simp)
    intro i h1 h2
    rw [List.getElem_map, List.getElem_range]
    have hd : (deltaF l).drop (2 + 66 * i) = oneF l[i] ++ (l.drop (i + 1)).flatMap oneF := by
      rw [← List.drop_drop]
      show ((l.flatMap oneF).drop (66 * i)) = _
      rw [flat_drop hfl, List.drop_eq_getElem_cons h2, List.flatMap_cons]
    have hr2 : ∀ k : Nat, rd (deltaF l) ((2 + 66 * i + k : Nat) : Int) = rd (oneF l[i] ++ (l.drop (i + 1)).flatMap oneF) (k : Int) := fun k => by
      rw [← hd]
      unfold rd
      rw [Int.toNat_natCast, Int.toNat_natCast, List.getD_eq_getElem?_getD, List.getD_eq_getElem?_getD, List.getElem?_drop]
    have hp := hall l[i] (List.getElem_mem h2)
    have e0 := hr2 0
    have e1 := hr2 1
    unfold chunkF
    apply Prod.ext
    · show rd (deltaF l) ((2 + 66 * i : Nat) : Int) * 256 + rd (deltaF l) ((3 + 66 * i : Nat) : Int) = _
      rw [show 3 + 66 * i = 2 + 66 * i + 1 by omega, e1]
      have e0' : rd (deltaF l) ((2 + 66 * i : Nat) : Int) = _ := e0
      rw [e0']
      have hpp : pages ≤ 64 := h'.1
      simp [oneF, two, rd]
      omega
    · show ((deltaF l).drop (4 + 66 * i)).take 64 = _
      rw [show 4 + 66 * i = 2 + 66 * i + 2 by omega, ← List.drop_drop, hd]
      show (((l[i]).2 ++ (l.drop (i + 1)).flatMap oneF)).take 64 = _
      rw [List.take_append_of_le_length (by rw [hp.2.2]; exact Nat.le_refl _), List.take_of_length_le (by rw [hp.2.2]; exact Nat.le_refl _)]
  unfold undeltaF
  rw [if_neg (by omega), if_neg (by rw [hc]; omega), hraw, h]
  rfl
theorem two_bytes {n : Int} : Bytes (two n) := by
  intro x hx
  simp only [two, List.mem_cons, List.not_mem_nil, or_false] at hx
  rcases hx with rfl | rfl <;> omega
theorem delta_bytes {l : List Chg} (h : ∀ c ∈ l, Bytes c.2) : Bytes (deltaF l) := by
  intro x hx
  rcases List.mem_append.1 hx with h1 | h1
  · exact two_bytes x h1
  · obtain ⟨c, hc, h2⟩ := List.mem_flatMap.1 h1
    rcases List.mem_append.1 h2 with h3 | h3
    · exact two_bytes x h3
    · exact h c hc x h3
theorem good_right {m : Nat} {l : List Chg} (h : good m l) (hm : m ≤ 64) : rightF l (m : Int) = true := by
  unfold rightF
  rw [h.1, decide_eq_true (by omega)]
  rfl
set_option maxHeartbeats 1600000 in
set_option maxRecDepth 100000 in
theorem deltaBack_ {A : Option Addr} {n c : Nat} {L : List Int} {pages : Int} {w : World} (ht : I64.C w A n L) :
    Calls Try.prog 10 #[.slice A n c, .int .i64 pages] w fun e w' => e = .returned (.bool true) ∧ Below w.heap.size w w' := by
  have AT := Aside0.mk ht
  have hin := Book.withinF_in (n := pages) (lo := 1) (hi := 20) (by decide)
  obtain ⟨m, hm⟩ := Int.eq_ofNat_of_zero_le (show 0 ≤ Book.withinF pages 1 20 by omega)
  have hm2 : m ≤ 20 := by omega
  have HM := Aside0.mk hm
  clear ht hin hm
  go_enter Try.func10, Try.ntmps10
  go_wp2_with fail
  refine (Book.within_ pages 1 20 w (by decide) (by decide) (by decide)).mono ?_
  rintro e w1 ⟨rfl, rfl⟩
  rw [HM.out]
  have A1 := Aside0.mk ((Sep.start w).newBlk 50 #[.slice A n c, .int .i64 0])
  go_wp2_with fail
  refine (changes_ AT.out (Int.le_refl 0) A1.out m (by omega)).mono ?_
  rintro e w2 ⟨v2, l, p2, rfl, hg, -, hS2⟩
  obtain ⟨A2, c2, rfl⟩ := hS2.rowV
  have A2' := Aside0.mk hS2
  have HG := Aside0.mk hg
  have HR := Aside0.mk (good_right hg (by omega))
  have HL := Aside0.mk (right_len (good_right hg (by omega)))
  have HD := Aside0.mk (undelta_delta (good_right hg (by omega)))
  clear hS2 hg
  go_wp2_with fail
  refine (bytes_ A2'.out.rowC.2.2 (by have := HL.out; omega)).mono ?_
  rintro e w3 ⟨v3, rfl, hS3⟩
  obtain ⟨A3, c3, rfl⟩ := hS3.rowV
  have B3 := Aside0.mk (A2'.out.lift1 hS3)
  clear hS3
  go_wp2_with fail
  refine (read_ B3.out.rowC.2.2 B3.out.rowC.2.1 (delta_bytes HG.out.2.1) (by have := HL.out; omega) (m : Int)).mono ?_
  rintro e w4 ⟨v4, rfl, hS4⟩
  rw [HD.out] at hS4 ⊢
  obtain ⟨A4, c4, rfl⟩ := hS4.rowN (n := l.length) rfl
  have B4 : Aside0 (Sep w w4 (Row KC 42 (.slice A4 l.length c4) l :: _)) := ⟨B3.out.lift1 hS4⟩
  clear hS4
  have hlen : ((deltaF l).length : Int) = 2 + 66 * (l.length : Int) := by have := HL.out; omega
  have hll : l.length ≤ 64 := HL.out.2
  rw [show (some l).isSome = true from rfl]
  go_wp2_with fail
  refine (rsame_ B4.out.rowC.2.2 B4.out.at3.rowC.2.2 HG.out.2.1 HG.out.2.1).mono ?_
  rintro e w5 ⟨rfl, hb5⟩
  rw [decide_eq_true rfl]
  have B5 := Aside0.mk (B4.out.below hb5)
  clear hb5
  go_wp2_with fail
  refine (need_ (l.length : Int) _).mono ?_
  rintro e w6 ⟨rfl, rfl⟩
  rw [show needF (l.length : Int) = 18 + (l.length : Int) * 66 from if_neg (by omega)]
  have hw1 : wrap64 (18 + (l.length : Int) * 66 - 16) = ((deltaF l).length : Int) := by rw [IntWalk.wrap64_in _ (by omega)]; omega
  have hw2 : ((deltaF l).length : Int) = 18 + (l.length : Int) * 66 - 16 := by omega
  go_wp2_with fail
  refine (same_ B5.out.rowC.2.2 B5.out.at3.rowC.2.2).mono ?_
  rintro e w7 ⟨rfl, hb7⟩
  rw [decide_eq_true rfl]
  have B7 := Aside0.mk (B5.out.below hb7)
  clear hb7
  go_wp2_with fail
  refine (known_ _).mono ?_
  rintro e w8 ⟨rfl, hb8⟩
  go_wp2_with fail
  go_ret
  exact ⟨by first | rfl | (simp; done), (B7.out.below hb8).toBelow⟩
end Go.Proofs.Ytkcinjimjehcnaa.Delta
