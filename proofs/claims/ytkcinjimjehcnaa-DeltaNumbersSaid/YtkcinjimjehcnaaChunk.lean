/- slices.Chunk of bytes, 66 at a time: the iterator's contract. -/
import Derived.Test.YtkcinjimjehcnaaRound
import Derived.Test.YtkcinjimjehcnaaCuts
namespace Go.Proofs.Ytkcinjimjehcnaa.Delta
set_option linter.unusedVariables false
set_option linter.unusedSimpArgs false
open Go.RowKit Go.Shelf Go.Proofs.YtkcinjimjehcnaaW.PrintWords Go.Proofs.YtkcinjimjehcnaaW.PrintLast Go.Proofs.YtkcinjimjehcnaaW.PrintMore Go.Proofs.Ytkcinjimjehcnaa.Kit Go.Proofs.Ytkcinjimjehcnaa.Base
attribute [local go_sem] Oper.semAt_some
def Boxes (W : World) (b1 b2 : Nat) (A : Option Addr) (L c : Nat) : Prop := W.heap[b1]? = some (.cells #[.slice A L c] 22 (0, 0)) ∧ W.heap[b2]? = some (.cells #[.int .i64 66] 3 (0, 0))
def Kq (b1 b2 : Nat) (W W' : World) : Prop := W'.heap[b1]? = W.heap[b1]? ∧ W'.heap[b2]? = W.heap[b2]?
theorem Boxes.keep {W W' : World} {b1 b2 : Nat} {A : Option Addr} {L c : Nat} (h : Boxes W b1 b2 A L c) (k : Kq b1 b2 W W') : Boxes W' b1 b2 A L c := ⟨k.1.trans h.1, k.2.trans h.2⟩
theorem num0 {k : IntKind} {a b : Int} (h : a = b) : Value.int k a = .int k b := by rw [h]
def encC (m : Nat) (A : Option Addr) (i : Fin m) : Array Value := #[.slice (A.map (·.add (66 * i.1))) 66 66]
set_option maxHeartbeats 1600000 in
set_option maxRecDepth 100000 in
theorem chunk1_in (n : Nat) (hn : 1 ≤ n) {m b1 b2 c L : Nat} {A : Option Addr} {w : World} (hL : 66 * m = L) (hb : Boxes w b1 b2 A L c) (hc : L ≤ c) (hm : m ≤ 1000000) :
    SeqStopsK Fence.wide n Try.prog 51 #[.pointer (some ⟨b1, 0, none⟩), .pointer (some ⟨b2, 0, none⟩)] (encC m A) (Kq b1 b2) (fun xs => xs = List.finRange m) (fun _ => True) m w := by
  subst hL
  intro l J Jx W hW hJ hJx hY h0
  have hb1 : b1 < w.heap.size := blk_lt hb.1
  have hb2 : b2 < w.heap.size := blk_lt hb.2
  have hBW : Boxes W b1 b2 A (66 * m) c := ⟨(hW.block b1 hb1).trans hb.1, (hW.block b2 hb2).trans hb.2⟩
  have ABW := Aside0.mk hBW
  have AY := Aside0.mk hY
  have AJ := Aside0.mk hJ
  clear hb hb1 hb2 hBW hY hW
  refine callsIn_of_wp Try.func51 rfl trivial ?_ rfl
  simp only [Try.ntmps51, List.size_toArray, List.length_cons, List.length_nil, Nat.reduceAdd, Nat.reduceSub, Array.replicate_succ, Array.replicate_zero, List.push_toArray, List.append_toArray, List.nil_append, List.cons_append]
  gi_wp2
  gi_loopw [4] (fun p wr => ∃ k : Nat, p = .int .i64 (66 * (k : Int)) ∧ k ≤ m ∧ Boxes wr b1 b2 A (66 * m) c ∧ J ((List.finRange m).take k) wr) (fun p wr => 66 * m - (intOf p).toNat)
  case atStart => exact ⟨0, rfl, Nat.zero_le _, ABW.out, h0⟩
  case round =>
    obtain ⟨k, rfl, hk, hB, hJk⟩ := hrel
    have AB := Aside0.mk hB
    have AJk := Aside0.mk hJk
    have d1 : wr.cell? ⟨b1, 0, none⟩ = some (.slice A (66 * m) c) := blk_cell hB.1 0
    by_cases hlt : k < m
    · have d2 : wr.drew.cell? ⟨b2, 0, none⟩ = some (.int .i64 66) := blk_cell (w := wr.drew) hB.2 0
      have d1' : wr.drew.cell? ⟨b1, 0, none⟩ = some (.slice A (66 * m) c) := blk_cell (w := wr.drew) hB.1 0
      obtain ⟨A', hcut⟩ := cut1 A (66 * m) c (66 * k) (by omega) hc
      have hcut3 := cut3 A (66 * m) c (66 * k) (66 * k + 66) (66 * k + 66) (by omega) (Nat.le_refl _) (by omega) (by omega)
      rw [show ((66 * k : Nat) : Int) = 66 * (k : Int) by omega] at hcut
      rw [show ((66 * k : Nat) : Int) = 66 * (k : Int) by omega, show ((66 * k + 66 : Nat) : Int) = 66 * (k : Int) + 66 by omega, Nat.add_sub_cancel_left] at hcut3
      obtain ⟨fn, tmps, assign, body, hy, hR⟩ := AY.out ((List.finRange m).take k) ⟨k, hlt⟩ wr.drew (AJ.out _ _ _ none hJk ⟨rfl, rfl, rfl, Nat.le_refl _, fun _ _ _ => rfl⟩ (fun r h => by cases h)) (by rw [List.length_take, List.length_finRange]; omega)
      unfold encC at hy
      dsimp only at hy
      have hmin : min (66 : Int) (((66 * m - 66 * k : Nat) : Int)) = 66 := by omega
      have AR := Aside0.mk hR
      clear hB hJk hR
      gi_wp2
      refine wpIn_wide.2 ?_
      refine start_ (n := 7) (S := fun w' => w'.cell? ⟨b1, 0, none⟩ = some (.slice A (66 * m) c) ∧ w'.cell? ⟨b2, 0, none⟩ = some (.int .i64 66)) (ds := []) #[false, false, false, false, false, false, false] (by kernel_rfl) rfl rfl ⟨d1', d2⟩ (fun hHeld => ?_)
      refine pure_ (i := 2) (N := some 15) (v := ?_) (a' := ?_) #[false, false, true, false, false, false, false] rfl rfl (by kernel_rfl) (fun _ _ _ h => h) (Or.inl ⟨by rfl, ?_⟩) ?_ ?_
      rotate_left
      · intro w'
        go_simp
        with_reducible rfl
      rotate_left
      · simp only [Act.put, List.setIfInBounds_toArray, List.set_cons_zero, List.set_cons_succ, i64_w, i32_w]
        rfl
      refine take_ (i := 0) (N := some 13) (v := ?_) (a' := ?_) #[true, false, true, false, false, false, false] rfl rfl (by kernel_rfl) (fun _ _ _ h => h) (Or.inl ⟨by rfl, ?_⟩) hHeld ?_ ?_
      rotate_left
      · rintro w' ⟨s0, s1⟩
        go_simp
        with_reducible rfl
      rotate_left
      · simp only [Act.put, List.setIfInBounds_toArray, List.set_cons_zero, List.set_cons_succ, i64_w, i32_w]
        rfl
      refine take_ (i := 1) (N := some 14) (v := ?_) (a' := ?_) #[true, true, true, false, false, false, false] rfl rfl (by kernel_rfl) (fun _ _ _ h => h) (Or.inl ⟨by rfl, ?_⟩) hHeld ?_ ?_
      rotate_left
      · rintro w' ⟨s0, s1⟩
        go_simp
        with_reducible rfl
      rotate_left
      · simp only [Act.put, List.setIfInBounds_toArray, List.set_cons_zero, List.set_cons_succ, i64_w, i32_w]
        rfl
      refine pure_ (i := 3) (N := some 16) (v := ?_) (a' := ?_) #[true, true, true, true, false, false, false] rfl rfl (by kernel_rfl) (fun _ _ _ h => h) (Or.inl ⟨by rfl, ?_⟩) ?_ ?_
      rotate_left
      · intro w'
        go_simp
        with_reducible rfl
      rotate_left
      · simp only [Act.put, List.setIfInBounds_toArray, List.set_cons_zero, List.set_cons_succ, i64_w, i32_w]
        rfl
      refine pure_ (i := 4) (N := some 17) (v := ?_) (a' := ?_) #[true, true, true, true, true, false, false] rfl rfl (by kernel_rfl) (fun _ _ _ h => h) (Or.inl ⟨by rfl, ?_⟩) ?_ ?_
      rotate_left
      · intro w'
        go_simp
        with_reducible rfl
      rotate_left
      · simp only [Act.put, List.setIfInBounds_toArray, List.set_cons_zero, List.set_cons_succ, i64_w, i32_w]
        rfl
      refine pure_ (i := 5) (N := some 18) (v := ?_) (a' := ?_) #[true, true, true, true, true, true, false] rfl rfl (by kernel_rfl) (fun _ _ _ h => h) (Or.inl ⟨by rfl, ?_⟩) ?_ ?_
      rotate_left
      · intro w'
        go_simp
        with_reducible rfl
      rotate_left
      · simp only [Act.put, List.setIfInBounds_toArray, List.set_cons_zero, List.set_cons_succ, i64_w, i32_w]
        rfl
      refine pure_ (i := 6) (N := some 5) (v := ?_) (a' := ?_) #[true, true, true, true, true, true, true] rfl rfl (by kernel_rfl) (fun _ _ _ h => h) (Or.inl ⟨by rfl, ?_⟩) ?_ ?_
      rotate_left
      · intro w'
        go_simp
        with_reducible rfl
      rotate_left
      · simp only [Act.put, List.setIfInBounds_toArray, List.set_cons_zero, List.set_cons_succ, i64_w, i32_w]
        rfl
      refine done_ (by kernel_rfl) ?_
      gi_wp2
      refine AR.out.mono ?_
      rintro e W3 (⟨rfl, hJ3, hk3⟩ | ⟨rfl, hJx3⟩)
      · have hB3 : Boxes W3 b1 b2 A (66 * m) c := AB.out.keep hk3
        have q2 : W3.cell? ⟨b2, 0, none⟩ = some (.int .i64 66) := blk_cell hB3.2 0
        have htk : (List.finRange m).take (k + 1) = (List.finRange m).take k ++ [⟨k, hlt⟩] := by
          rw [List.take_add_one, List.getElem?_eq_getElem (by rw [List.length_finRange]; exact hlt), List.getElem_finRange]
          rfl
        have AK := Aside0.mk (And.intro hB3 (And.intro hJ3 htk))
        clear hB3 hJ3 hk3 htk hy hcut hcut3 hmin d1' d2
        gi_wp2
        go_roundw
        case rel => exact ⟨k + 1, num0 (by omega), hlt, AK.out.1, by rw [AK.out.2.2]; exact AK.out.2.1⟩
        case measure => simp [intOf]; omega
      · clear hy hcut hcut3 hmin
        gi_wp2
        refine bodyPost_ret (results_none rfl _ _ _) rfl ?_
        exact ⟨⟨_, rfl⟩, .inr ⟨_, trivial, hJx3⟩⟩
    · have hkm : k = m := by omega
      subst hkm
      rw [List.take_of_length_le (by rw [List.length_finRange]; exact Nat.le_refl _)] at hJk
      have AJm := Aside0.mk hJk
      clear hB hJk AJk hk hlt
      gi_wp2
      go_end0
      exact ⟨⟨_, rfl⟩, .inl ⟨_, rfl, AJm.out⟩⟩
set_option maxHeartbeats 400000 in
theorem chunk_ {A : Option Addr} {n c : Nat} (w : World) : Calls Try.prog 47 #[.slice A n c, .int .i64 66] w fun e w' =>
    e = .returned (.func (.func 51) #[] #[.pointer (some ⟨w.heap.size, 0, none⟩), .pointer (some ⟨w.heap.size + 1, 0, none⟩)]) ∧ w' = (w.alloc (.cells #[.slice A n c] 22)).alloc (.cells #[.int .i64 66] 3) := by
  have hmf : ∀ (fn : Fn) (first cap : Array Value) (w : World), (Instr.makeFunc fn first cap).run Try.prog w = .ok (.func fn first cap) w := fun _ _ _ _ => rfl
  go_enter Try.func47, Try.ntmps47
  go_wp2
  go_ret
  exact ⟨by first | rfl | (simp; done), rfl⟩
end Go.Proofs.Ytkcinjimjehcnaa.Delta
