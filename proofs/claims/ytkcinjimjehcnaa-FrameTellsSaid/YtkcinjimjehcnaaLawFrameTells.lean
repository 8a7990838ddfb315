/- FrameTells: the law's walk by hand: each of its two ways at the byte that is turned, and at the bytes that are cut. -/
import Derived.Test.YtkcinjimjehcnaaOFrameTellsx4
import Derived.Test.YtkcinjimjehcnaaOFrameTellsx5
import Derived.Test.YtkcinjimjehcnaaPureFrameTells
import Derived.ArgAppend
namespace Go.Proofs.Ytkcinjimjehcnaa.OFrameTells
set_option linter.unusedVariables false
set_option linter.unusedSimpArgs false
open Go.RowKit Go.Proofs.YtkcinjimjehcnaaW.PrintWords Go.Proofs.YtkcinjimjehcnaaW.PrintLast Go.Proofs.YtkcinjimjehcnaaW.PrintMore
/-- A cut with a capacity: b[:k:k]. -/
theorem cut_full (A : Option Addr) (n c : Nat) (j : Nat) (hm : j ≤ n) (hc : n ≤ c) :
    ∀ W : World, (Instr.slice 22 (.slice A n c) none (some (.int .i64 (j : Int))) (some (.int .i64 (j : Int)))).run Try.prog W = .ok (.slice A j j) W := by
  intro W
  obtain ⟨i, hi, -⟩ := Option.map_eq_some_iff.1 (show (Try.prog.info? 5).map (fun i => (i.zero, i.size, i.bytes)) = some (some (.int .u8 0), 1, 1) from info5)
  have ha : (A.map fun x => x.add 0) = A := by cases A <;> simp [Addr.add]
  have h1 : (j : Int) ≤ c := by omega
  simp [Instr.slice, run_underlying Try.underlying22, Instr.sliceBounds, run_sliceBound, sizeOf, typeInfo, hi, h1, ha]
theorem full_append {W : World} {A B : Option Addr} {xs ys : List Int} {c : Nat} (hA : Kd.C (Kd.int .u8) W A xs.length xs) (hB : Kd.C (Kd.int .u8) W B ys.length ys) (hl : xs.length + ys.length ≤ 140737488355328) :
    ∃ v1 w1, (Builtin.append_ #[22, 22] 22 #[.slice A xs.length xs.length, .slice B ys.length c]).run Try.prog W = .ok v1 w1 ∧ Below W.heap.size W w1 ∧ ∃ A' c', v1 = .slice A' (xs ++ ys).length c' ∧ (xs ++ ys).length ≤ c' ∧ Kd.C (Kd.int .u8) w1 A' (xs ++ ys).length (xs ++ ys) ∧ (ys ≠ [] → Kd.R (Kd.int .u8) 5 w1 W.heap.size (fun _ => True) v1 (xs ++ ys)) := by
  obtain ⟨i0, hi, hzz⟩ := Option.map_eq_some_iff.1 (show (Try.prog.info? 5).map (fun i => (i.zero, i.size, i.bytes)) = some (some (.int .u8 0), 1, 1) from info5)
  simp only [Prod.mk.injEq] at hzz
  obtain ⟨hz0, hz1, hz2⟩ := hzz
  by_cases hy : ys = []
  · subst hy
    refine ⟨.slice A xs.length xs.length, W, ?_, Below.refl _ _, A, xs.length, by simp, by simp, by simpa using hA, fun h => absurd rfl h⟩
    rcases A with _ | a
    · have : xs.length = 0 := by
        rcases Nat.eq_zero_or_pos xs.length with h | h
        · exact h
        · obtain ⟨ad, h', _⟩ := hA.2.2 h; cases h'
      rcases B with _ | b <;> simp [Builtin.append_, run_underlying Try.underlying22, sizeOf, typeInfo, hi, Builtin.lenOf, Builtin.firstCells, this, loadCells, loadCellsFrom, storeCells]
    · rcases B with _ | b <;> simp [Builtin.append_, run_underlying Try.underlying22, sizeOf, typeInfo, hi, Builtin.lenOf, Builtin.firstCells, loadCells, loadCellsFrom, storeCells]
  · have hp : 0 < ys.length := List.length_pos_iff.mpr hy
    obtain ⟨b, rfl, -⟩ := hB.2.2 hp
    have rB := Kd.reads_of_C (d := (0 : Int)) hB
    have nB : ∀ j u, (ys.map (Value.int .u8))[j]? = some u → W.cell? (b.add j) = some u := by
      intro j u hu
      obtain ⟨ad, e, hc⟩ := rB.2.2 hp
      cases e
      rw [List.getElem?_map] at hu
      obtain ⟨y, hy, rfl⟩ := Option.map_eq_some_iff.1 hu
      obtain ⟨hj, -⟩ := List.getElem?_eq_some_iff.1 hy
      have := hc j hj
      rw [this, List.getD_eq_getElem?_getD, hy]; rfl
    rcases A with _ | a
    · have h0 : xs.length = 0 := by
        rcases Nat.eq_zero_or_pos xs.length with h | h
        · exact h
        · obtain ⟨ad, h', _⟩ := hA.2.2 h; cases h'
      have hx : xs = [] := List.eq_nil_of_length_eq_zero h0
      subst hx
      obtain ⟨v', w', hr, ho, hg, -, -⟩ := run_append_own_at (P := Try.prog) W W.heap.size 22 22 5 i0 (.int .u8 0) 1 1 Try.underlying22 hi hz0 hz1 hz2 rfl (by decide) (.slice none 0 0) 0 [] ⟨rfl, .inl ⟨rfl, rfl⟩⟩ b ys.length c (ys.map (Value.int .u8)) (by simp) nB (by simp [Value.oneCell']) (by simp only [maxLen]; omega) (by omega) (Nat.le_refl _)
      have hR : Kd.R (Kd.int .u8) 5 w' W.heap.size (fun _ => True) v' ys := Kd.R_of_own (by simpa [encs] using ho) (fun _ _ => trivial)
      obtain ⟨A', c', rfl, hle, hC⟩ := Kd.R_reads hR
      exact ⟨_, _, hr, (Below.refl _ _).grown hg (Nat.le_refl _) (by simp [Value.ownBlock]), A', c', by simp, by simpa using hle, by simpa using hC, fun _ => by simpa using hR⟩
    · have nA : ∀ j u, (xs.map (Value.int .u8))[j]? = some u → W.cell? (a.add j) = some u := by
        intro j u hu
        rw [List.getElem?_map] at hu
        obtain ⟨y, hy, rfl⟩ := Option.map_eq_some_iff.1 hu
        obtain ⟨hj, -⟩ := List.getElem?_eq_some_iff.1 hy
        obtain ⟨ad, e, hc⟩ := (Kd.reads_of_C (d := (0 : Int)) hA).2.2 (by omega)
        cases e
        have := hc j hj
        rw [this, List.getD_eq_getElem?_getD, hy]; rfl
      obtain ⟨v', w', hr, ho, hg⟩ := run_append_arg_grows (P := Try.prog) W 22 22 5 i0 (.int .u8 0) 1 1 Try.underlying22 hi hz0 hz1 hz2 rfl (by decide) a xs.length xs.length (xs.map (Value.int .u8)) (by simp) nA b ys.length c (ys.map (Value.int .u8)) (by simp) nB (by omega) (by simp only [maxLen]; omega) (by omega)
      have hR : Kd.R (Kd.int .u8) 5 w' W.heap.size (fun _ => True) v' (xs ++ ys) := Kd.R_of_own (by simpa [encs] using ho) (fun _ _ => trivial)
      obtain ⟨A', c', rfl, hle, hC⟩ := Kd.R_reads hR
      exact ⟨_, _, hr, (Below.refl _ _).grown hg (Nat.le_refl _) (by simp), A', c', rfl, hle, hC, fun _ => hR⟩

section
variable {ops : Array Oper} {rest : List Oper} {o : Oper} {a : Act} {Q : Exit → Act → World → Prop}
theorem C_append {W : World} (hgd : o.guard = none) (s x : Operand) (ho : o.op = .call { callee := .builtin .append, args := #[s, x], argTypes := #[22, 22] }) (hty : o.type = 22) (A B : Option Addr) (xs ys : List Int) (n m c : Nat) (hn : n = xs.length) (hm : m = ys.length)
    (hs : a.eval s = .slice A n n) (hx : a.eval x = .slice B m c)
    (hA : Kd.C (Kd.int .u8) W A xs.length xs) (hB : Kd.C (Kd.int .u8) W B ys.length ys) (hl : xs.length + ys.length ≤ 140737488355328)
    (h : ∀ v1 w1, Below W.heap.size W w1 → (∃ A' c', v1 = .slice A' (xs ++ ys).length c' ∧ (xs ++ ys).length ≤ c' ∧ Kd.C (Kd.int .u8) w1 A' (xs ++ ys).length (xs ++ ys) ∧ (ys ≠ [] → Kd.R (Kd.int .u8) 5 w1 W.heap.size (fun _ => True) v1 (xs ++ ys))) → wpList Try.prog ops Q rest (a.put o.dst v1) w1) :
    wpList Try.prog ops Q (o :: rest) a W := by
  subst hn hm
  obtain ⟨v1, w1, hr, hb, hc⟩ := full_append (c := c) hA hB hl
  refine wpList_plain hgd fun K hK => ?_
  unfold Oper.wp execOp
  simp only [ho, hty, resolve, invoke, builtin, Sem.run_bind, Sem.run_pure, Result.andThen_ok, List.map_toArray, List.map_cons, List.map_nil, hs, hx, hr]
  exact hK _ _ (h v1 w1 hb hc)
theorem C_append_op {W : World} {Kc : Act → World → Prop} {Q' : Exit → Act → World → Prop} (s x : Operand) (ho : o.op = .call { callee := .builtin .append, args := #[s, x], argTypes := #[22, 22] }) (hty : o.type = 22) (A B : Option Addr) (xs ys : List Int) (n m c : Nat) (hn : n = xs.length) (hm : m = ys.length)
    (hs : a.eval s = .slice A n n) (hx : a.eval x = .slice B m c)
    (hA : Kd.C (Kd.int .u8) W A xs.length xs) (hB : Kd.C (Kd.int .u8) W B ys.length ys) (hl : xs.length + ys.length ≤ 140737488355328)
    (h : ∀ v1 w1, Below W.heap.size W w1 → (∃ A' c', v1 = .slice A' (xs ++ ys).length c' ∧ (xs ++ ys).length ≤ c' ∧ Kd.C (Kd.int .u8) w1 A' (xs ++ ys).length (xs ++ ys) ∧ (ys ≠ [] → Kd.R (Kd.int .u8) 5 w1 W.heap.size (fun _ => True) v1 (xs ++ ys))) → Kc (a.put o.dst v1) w1) :
    Oper.wp Try.prog o a W Kc Q' := by
  subst hn hm
  obtain ⟨v1, w1, hr, hb, hc⟩ := full_append (c := c) hA hB hl
  unfold Oper.wp execOp
  simp only [ho, hty, resolve, invoke, builtin, Sem.run_bind, Sem.run_pure, Result.andThen_ok, List.map_toArray, List.map_cons, List.map_nil, hs, hx, hr]
  exact h v1 w1 hb hc
end
theorem set_turned {b : List Int} {a5 : Int} {j : Nat} (hb : Plain.Bytes b) (t0 : 0 ≤ a5) (t1 : a5 ≤ 255) : Plain.Bytes (b.set j (Go.bits .xor .u8 (rd b (j : Int)) a5)) := by
  have r := hb.at (j : Int)
  generalize rd b (j : Int) = x at *
  obtain ⟨x, rfl⟩ := Int.eq_ofNat_of_zero_le r.1
  obtain ⟨t, rfl⟩ := Int.eq_ofNat_of_zero_le t0
  rw [Plain.xor8_nat x t (by omega) (by omega)]
  have := Nat.xor_lt_two_pow (x := x) (y := t) (n := 8) (by omega) (by omega)
  exact Plain.set_bytes j hb (by omega) (by omega)
theorem same_n (K : Nat) (A : Option Addr) (n c : Nat) (l : List Int) (ep sq : Int) (w : World) (hn : n = l.length) (hC : Kd.C (Kd.int .u8) w A l.length l) (hc : n ≤ c) (h : engramlaw3_same.f K l ep sq = some true) :
    Calls Try.prog 13 #[.slice A n c, .int .u32 ep, .int .u32 sq] w fun e w' => e = .returned (.bool true) ∧ Below w.heap.size w w' := by
  subst hn
  exact engramlaw3_same.calls K A c l ep sq true w hC hc h
set_option maxHeartbeats 400000 in
set_option maxRecDepth 100000 in
theorem tells1 (w : World) (A0 : Option Addr) (c0 : Nat) (l0 : List (List Int)) (A1 : Option Addr) (c1 : Nat) (l1 : List Int) (a2 a3 a4 a5 : Int) (b : List Int) (j k K : Nat)
    (hr0 : Kd.C (Kd.slice 5 (Kd.int .u8)) w A0 l0.length l0) (hc0 : l0.length ≤ c0) (hr1 : Kd.C (Kd.int .u8) w A1 l1.length l1) (hc1 : l1.length ≤ c1)
    (Hrow : engramlaw3_row.f K a2 l0 = some b) (Hsame : ∀ l ep sq, Plain.Bytes l → l.length ≤ 1000 → engramlaw3_same.f K l ep sq = some true)
    (hb : Plain.Bytes b) (hbl : b.length ≤ 400) (hl1 : Plain.Bytes l1) (t0 : 0 ≤ a5) (t1 : a5 ≤ 255)
    (hp : 0 < b.length) (hw : (l1.length : Int) > 200) (Hj : engrambook_Within.f K a4 0 ((b.length : Int) - 1) = some (j : Int) ∧ j < b.length) (Hk : engrambook_Within.f K a4 0 (b.length : Int) = some (k : Int) ∧ k ≤ b.length) :
    Calls Try.prog 4 #[.slice A0 l0.length c0, .slice A1 l1.length c1, .int .u32 a2, .int .u32 a3, .int .i64 a4, .int .u8 a5] w fun e w' => e = .returned (.bool true) ∧ Below w.heap.size w w' := by
  have HR1 := Aside0.mk hr1
  have HJ := Aside0.mk Hj
  have HK := Aside0.mk Hk
  have HS := Aside0.mk Hsame
  have HBB := Aside0.mk hb
  have hpos : decide (0 < b.length) = true := decide_eq_true hp
  have hbne : b ≠ [] := by intro e; rw [e] at hp; exact absurd hp (by decide)
  have hwd : decide (200 < (l1.length : Int)) = true := decide_eq_true hw
  clear hr1 Hj Hk Hsame hb
  go_enter Try.func4, Try.ntmps4
  go_wp2_with fail
  refine (engramlaw3_row.calls K a2 A0 c0 l0 b _ ?s1 ?s2 Hrow).mono ?_
  case s1 => exact hr0
  case s2 => exact hc0
  rintro e w1 ⟨vb, rfl, ho1, hb1⟩
  obtain ⟨Ab, cb, rfl⟩ := Kd.R_slice ho1
  have HB := Aside0.mk hb1
  have hbc : b.length ≤ cb := (Kd.R_reads' ho1).2.1
  have HCb := Aside0.mk (Kd.R_reads' ho1).2.2
  have HR1' := Aside0.mk (Kd.C_below HR1.out hb1)
  clear ho1 hb1 HR1 hr0
  go_wp2_with ((with_reducible refine gate_builtin (b := .append) (xs := #[.tmp 19, .tmp 20]) rfl ?_); at_builtin; refine C_append rfl (.tmp 19) (.tmp 20) rfl rfl _ _ [] b _ _ _ rfl rfl rfl rfl ?hA ?hB ?hl ?_; (case hA => exact ⟨rfl, by decide, fun h => absurd h (by decide)⟩); (case hB => exact Kd.C_alloc HCb.out _); (case hl => simp; omega); intro vx w2 hb2 hx2; rw [List.nil_append] at hx2; obtain ⟨Ax, cx, rfl, hcx, hCx, hRx⟩ := hx2; have HX := Aside0.mk hCx; have HRX := Aside0.mk hRx; have HCX := Aside0.mk hcx; have BW := Aside0.mk (below_step (below_alloc (Below.refl w1.heap.size w1) _) hb2); clear hb2 hcx hCx hRx)
  refine (engrambook_Within.calls K a4 0 _ (j : Int) _ HJ.out.1).mono ?_
  rintro e w3 ⟨rfl, hb3⟩
  have hRx := Kd.R_below (HRX.out hbne) hb3.below
  have BW3 := Aside0.mk (below_step BW.out hb3.below)
  clear HRX HX BW hb3
  obtain ⟨g, cap, e_, hbg, hlt, hcl⟩ := Kd.R_form hRx hp
  cases e_
  have hj0 : (0 : Int) ≤ (j : Int) := by omega
  have hjb : (j : Int) < (b.length : Int) := by have := HJ.out.2; omega
  obtain ⟨hx1, hf1⟩ := Kd.R_celln 0 hRx (j : Int) hj0 hjb
  have hP := Kd.R_putg hRx (j : Int) (Go.bits .xor .u8 (rd b (j : Int)) a5)
  have hx1' : w3.cell? ⟨g, j, none⟩ = some (.int .u8 (rd b (j : Int))) := hx1
  have hf1' : w3.frozen? ⟨g, j, none⟩ = false := hf1
  have hP : Kd.R (Kd.int .u8) 5 (w3.setCell ⟨g, j, none⟩ (.int .u8 (Go.bits .xor .u8 (rd b (j : Int)) a5))) (w1.alloc (Obj.cells #[] 5)).heap.size (fun _ => True) (.slice (some ⟨g, 0, none⟩) b.length cx) (b.set j (Go.bits .xor .u8 (rd b (j : Int)) a5)) := hP.1
  have BW4 := Aside0.mk (Below.setCell BW3.out (p := ⟨g, j, none⟩) (show w1.heap.size ≤ g from by simp at hbg; omega) (.int .u8 (Go.bits .xor .u8 (rd b (j : Int)) a5)))
  have HX := Aside0.mk (Kd.R_reads' hP)
  clear hRx hP hbg hcl BW3 hx1 hf1
  replace hj0 := eq_true hj0
  replace hjb := eq_true hjb
  go_wp2_with fail
  refine (engrambook_Within.calls K a4 0 _ (k : Int) _ HK.out.1).mono ?_
  rintro e w5 ⟨rfl, hb5⟩
  have BW5 := Aside0.mk (below_step BW4.out hb5.below)
  have HX5 := Aside0.mk (Kd.C_below HX.out.2.2 hb5.below)
  have HL := Aside0.mk HX.out.1
  have HXC := Aside0.mk HX.out.2.1
  have HB5 := Aside0.mk (Kd.C_below HCb.out BW5.out)
  have HR5 := Aside0.mk (Kd.C_below HR1'.out BW5.out)
  have hkb : k ≤ b.length := HK.out.2
  have hcutk := cut_to (P := Try.prog) 22 5 .i64 Try.underlying22 (Option.map_eq_some_iff.1 (show (Try.prog.info? 5).map (fun i => (i.zero, i.size, i.bytes)) = some (some (.int .u8 0), 1, 1) from info5)).choose_spec.1 Ab b.length cb (k : Int) (by omega) (by omega) hbc
  rw [Int.toNat_natCast] at hcutk
  have hcutf := cut_full Ab b.length cb k hkb hbc
  have HRAW := Aside0.mk (Kd.C_take HR5.out (m := 200) (by omega))
  have HRL : Aside0 (200 = ((l1.take 200)).length) := ⟨by rw [List.length_take]; omega⟩
  have HRB : Aside0 (Plain.Bytes (l1.take 200) ∧ ((l1.take 200)).length ≤ 200) := ⟨⟨hl1.take 200, by rw [List.length_take]; omega⟩⟩
  have HXB : Aside0 (Plain.Bytes (b.set j (Go.bits .xor .u8 (rd b (j : Int)) a5))) := ⟨set_turned HBB.out t0 t1⟩
  have HXL : Aside0 (((b.set j (Go.bits .xor .u8 (rd b (j : Int)) a5))).length ≤ 1000) := ⟨by rw [List.length_set]; omega⟩
  clear BW4 HX hb5 HCb HR1'
  go_wp2_with fail
  refine (same_n K Ab _ cb b a2 0 _ rfl HB5.out hbc (HS.out b a2 0 HBB.out (by omega))).mono ?_
  rintro e w6 ⟨rfl, hb6⟩
  go_wp2_with fail
  refine (same_n K _ _ _ (b.set j (Go.bits .xor .u8 (rd b (j : Int)) a5)) a2 0 _ HL.out (Kd.C_below HX5.out hb6) HXC.out (HS.out (b.set j (Go.bits .xor .u8 (rd b (j : Int)) a5)) a2 0 HXB.out HXL.out)).mono ?_
  rintro e w7 ⟨rfl, hb7⟩
  have htl : Aside0 (k = (b.take k).length) := ⟨by rw [List.length_take]; omega⟩
  have HT5 := Kd.C_take HB5.out (m := k) hkb
  go_wp2_with fail
  refine (same_n K Ab _ cb (b.take k) a2 _ _ htl.out (Kd.C_below (Kd.C_below HT5 hb6) hb7) (by omega) (HS.out (b.take k) a2 _ (HBB.out.take k) (by rw [List.length_take]; omega))).mono ?_
  rintro e w8 ⟨rfl, hb8⟩
  have HT8 := Aside0.mk (Kd.C_below (Kd.C_below (Kd.C_below HT5 hb6) hb7) hb8)
  have HR8 := Aside0.mk (Kd.C_below (Kd.C_below (Kd.C_below HRAW.out hb6) hb7) hb8)
  have BW8 := Aside0.mk (below_step (below_step (below_step BW5.out hb6) hb7) hb8)
  clear HT5 hb6 hb7 hb8 BW5 HX5 HB5 HR5
  go_wp2_with ((with_reducible refine gate_builtin (b := .append) (xs := #[.tmp 66, .tmp 67]) rfl ?_); (try (refine gate_guard (by rfl) ?_; dsimp only)); at_builtin; refine C_append rfl (.tmp 66) (.tmp 67) rfl rfl Ab A1 (b.take k) (l1.take 200) k _ c1 htl.out HRL.out rfl rfl HT8.out HR8.out ?hl ?_; (case hl => have := HRB.out.2; have := htl.out; omega); intro vy w9 hb9 hy9; obtain ⟨Ay, cy, ey, hcy, hCy, -⟩ := hy9; obtain ⟨N, hN⟩ : ∃ N, N = (b.take k ++ (l1.take 200)).length := ⟨_, rfl⟩; rw [← hN] at ey; subst ey; have HN := Aside0.mk hN; clear hN; have HY := Aside0.mk hCy; have HCY := Aside0.mk hcy; have HR9 := Aside0.mk (Kd.C_below HR8.out hb9); have BW9 := Aside0.mk (below_step BW8.out hb9); clear hb9 hcy hCy HT8 HR8 BW8)
  refine (same_n K Ay N cy (b.take k ++ (l1.take 200)) a2 0 _ HN.out HY.out (by rw [HN.out]; exact HCY.out) (HS.out _ a2 0 ((HBB.out.take k).app HRB.out.1) (by have := HRB.out.2; rw [List.length_append, List.length_take]; omega))).mono ?_
  rintro e w10 ⟨rfl, hb10⟩
  have HR10 := Aside0.mk (Kd.C_below HR9.out hb10)
  have BW10 := Aside0.mk (below_step BW9.out hb10)
  clear hb10 HR9 BW9 HY HCY
  go_wp2_with fail
  refine (same_n K A1 _ c1 (l1.take 200) a2 a3 _ HRL.out HR10.out (by omega) (HS.out _ a2 a3 HRB.out.1 (by have := HRB.out.2; omega))).mono ?_
  rintro e w11 ⟨rfl, hb11⟩
  have BW11 := Aside0.mk (below_step BW10.out hb11)
  clear hb11 BW10 HR10
  go_wp2_with fail
  refine (engramlaw3_known.calls true _ rfl).mono ?_
  rintro e w12 ⟨rfl, hb12⟩
  have BW12 := Aside0.mk (below_step BW11.out hb12)
  clear hb12 BW11
  go_wp2_with fail
  go_ret
  exact ⟨by first | rfl | (simp; done), below_step HB.out BW12.out⟩
set_option maxHeartbeats 400000 in
set_option maxRecDepth 100000 in
theorem tells2 (w : World) (A0 : Option Addr) (c0 : Nat) (l0 : List (List Int)) (A1 : Option Addr) (c1 : Nat) (l1 : List Int) (a2 a3 a4 a5 : Int) (b : List Int) (j k K : Nat)
    (hr0 : Kd.C (Kd.slice 5 (Kd.int .u8)) w A0 l0.length l0) (hc0 : l0.length ≤ c0) (hr1 : Kd.C (Kd.int .u8) w A1 l1.length l1) (hc1 : l1.length ≤ c1)
    (Hrow : engramlaw3_row.f K a2 l0 = some b) (Hsame : ∀ l ep sq, Plain.Bytes l → l.length ≤ 1000 → engramlaw3_same.f K l ep sq = some true)
    (hb : Plain.Bytes b) (hbl : b.length ≤ 400) (hl1 : Plain.Bytes l1) (t0 : 0 ≤ a5) (t1 : a5 ≤ 255)
    (hp : 0 < b.length) (hw : ¬ (l1.length : Int) > 200) (Hj : engrambook_Within.f K a4 0 ((b.length : Int) - 1) = some (j : Int) ∧ j < b.length) (Hk : engrambook_Within.f K a4 0 (b.length : Int) = some (k : Int) ∧ k ≤ b.length) :
    Calls Try.prog 4 #[.slice A0 l0.length c0, .slice A1 l1.length c1, .int .u32 a2, .int .u32 a3, .int .i64 a4, .int .u8 a5] w fun e w' => e = .returned (.bool true) ∧ Below w.heap.size w w' := by
  have HR1 := Aside0.mk hr1
  have HJ := Aside0.mk Hj
  have HK := Aside0.mk Hk
  have HS := Aside0.mk Hsame
  have HBB := Aside0.mk hb
  have hpos : decide (0 < b.length) = true := decide_eq_true hp
  have hbne : b ≠ [] := by intro e; rw [e] at hp; exact absurd hp (by decide)
  have hwd : decide (200 < (l1.length : Int)) = false := decide_eq_false hw
  clear hr1 Hj Hk Hsame hb
  go_enter Try.func4, Try.ntmps4
  go_wp2_with fail
  refine (engramlaw3_row.calls K a2 A0 c0 l0 b _ ?s1 ?s2 Hrow).mono ?_
  case s1 => exact hr0
  case s2 => exact hc0
  rintro e w1 ⟨vb, rfl, ho1, hb1⟩
  obtain ⟨Ab, cb, rfl⟩ := Kd.R_slice ho1
  have HB := Aside0.mk hb1
  have hbc : b.length ≤ cb := (Kd.R_reads' ho1).2.1
  have HCb := Aside0.mk (Kd.R_reads' ho1).2.2
  have HR1' := Aside0.mk (Kd.C_below HR1.out hb1)
  clear ho1 hb1 HR1 hr0
  go_wp2_with ((with_reducible refine gate_builtin (b := .append) (xs := #[.tmp 19, .tmp 20]) rfl ?_); at_builtin; refine C_append rfl (.tmp 19) (.tmp 20) rfl rfl _ _ [] b _ _ _ rfl rfl rfl rfl ?hA ?hB ?hl ?_; (case hA => exact ⟨rfl, by decide, fun h => absurd h (by decide)⟩); (case hB => exact Kd.C_alloc HCb.out _); (case hl => simp; omega); intro vx w2 hb2 hx2; rw [List.nil_append] at hx2; obtain ⟨Ax, cx, rfl, hcx, hCx, hRx⟩ := hx2; have HX := Aside0.mk hCx; have HRX := Aside0.mk hRx; have HCX := Aside0.mk hcx; have BW := Aside0.mk (below_step (below_alloc (Below.refl w1.heap.size w1) _) hb2); clear hb2 hcx hCx hRx)
  refine (engrambook_Within.calls K a4 0 _ (j : Int) _ HJ.out.1).mono ?_
  rintro e w3 ⟨rfl, hb3⟩
  have hRx := Kd.R_below (HRX.out hbne) hb3.below
  have BW3 := Aside0.mk (below_step BW.out hb3.below)
  clear HRX HX BW hb3
  obtain ⟨g, cap, e_, hbg, hlt, hcl⟩ := Kd.R_form hRx hp
  cases e_
  have hj0 : (0 : Int) ≤ (j : Int) := by omega
  have hjb : (j : Int) < (b.length : Int) := by have := HJ.out.2; omega
  obtain ⟨hx1, hf1⟩ := Kd.R_celln 0 hRx (j : Int) hj0 hjb
  have hP := Kd.R_putg hRx (j : Int) (Go.bits .xor .u8 (rd b (j : Int)) a5)
  have hx1' : w3.cell? ⟨g, j, none⟩ = some (.int .u8 (rd b (j : Int))) := hx1
  have hf1' : w3.frozen? ⟨g, j, none⟩ = false := hf1
  have hP : Kd.R (Kd.int .u8) 5 (w3.setCell ⟨g, j, none⟩ (.int .u8 (Go.bits .xor .u8 (rd b (j : Int)) a5))) (w1.alloc (Obj.cells #[] 5)).heap.size (fun _ => True) (.slice (some ⟨g, 0, none⟩) b.length cx) (b.set j (Go.bits .xor .u8 (rd b (j : Int)) a5)) := hP.1
  have BW4 := Aside0.mk (Below.setCell BW3.out (p := ⟨g, j, none⟩) (show w1.heap.size ≤ g from by simp at hbg; omega) (.int .u8 (Go.bits .xor .u8 (rd b (j : Int)) a5)))
  have HX := Aside0.mk (Kd.R_reads' hP)
  clear hRx hP hbg hcl BW3 hx1 hf1
  replace hj0 := eq_true hj0
  replace hjb := eq_true hjb
  go_wp2_with fail
  refine (engrambook_Within.calls K a4 0 _ (k : Int) _ HK.out.1).mono ?_
  rintro e w5 ⟨rfl, hb5⟩
  have BW5 := Aside0.mk (below_step BW4.out hb5.below)
  have HX5 := Aside0.mk (Kd.C_below HX.out.2.2 hb5.below)
  have HL := Aside0.mk HX.out.1
  have HXC := Aside0.mk HX.out.2.1
  have HB5 := Aside0.mk (Kd.C_below HCb.out BW5.out)
  have HR5 := Aside0.mk (Kd.C_below HR1'.out BW5.out)
  have hkb : k ≤ b.length := HK.out.2
  have hcutk := cut_to (P := Try.prog) 22 5 .i64 Try.underlying22 (Option.map_eq_some_iff.1 (show (Try.prog.info? 5).map (fun i => (i.zero, i.size, i.bytes)) = some (some (.int .u8 0), 1, 1) from info5)).choose_spec.1 Ab b.length cb (k : Int) (by omega) (by omega) hbc
  rw [Int.toNat_natCast] at hcutk
  have hcutf := cut_full Ab b.length cb k hkb hbc
  have HRAW := Aside0.mk (HR5.out)
  have HRL : Aside0 (l1.length = (l1).length) := ⟨rfl⟩
  have HRB : Aside0 (Plain.Bytes l1 ∧ (l1).length ≤ 200) := ⟨⟨hl1, by omega⟩⟩
  have HXB : Aside0 (Plain.Bytes (b.set j (Go.bits .xor .u8 (rd b (j : Int)) a5))) := ⟨set_turned HBB.out t0 t1⟩
  have HXL : Aside0 (((b.set j (Go.bits .xor .u8 (rd b (j : Int)) a5))).length ≤ 1000) := ⟨by rw [List.length_set]; omega⟩
  clear BW4 HX hb5 HCb HR1'
  go_wp2_with fail
  refine (same_n K Ab _ cb b a2 0 _ rfl HB5.out hbc (HS.out b a2 0 HBB.out (by omega))).mono ?_
  rintro e w6 ⟨rfl, hb6⟩
  go_wp2_with fail
  refine (same_n K _ _ _ (b.set j (Go.bits .xor .u8 (rd b (j : Int)) a5)) a2 0 _ HL.out (Kd.C_below HX5.out hb6) HXC.out (HS.out (b.set j (Go.bits .xor .u8 (rd b (j : Int)) a5)) a2 0 HXB.out HXL.out)).mono ?_
  rintro e w7 ⟨rfl, hb7⟩
  have htl : Aside0 (k = (b.take k).length) := ⟨by rw [List.length_take]; omega⟩
  have HT5 := Kd.C_take HB5.out (m := k) hkb
  go_wp2_with fail
  refine (same_n K Ab _ cb (b.take k) a2 _ _ htl.out (Kd.C_below (Kd.C_below HT5 hb6) hb7) (by omega) (HS.out (b.take k) a2 _ (HBB.out.take k) (by rw [List.length_take]; omega))).mono ?_
  rintro e w8 ⟨rfl, hb8⟩
  have HT8 := Aside0.mk (Kd.C_below (Kd.C_below (Kd.C_below HT5 hb6) hb7) hb8)
  have HR8 := Aside0.mk (Kd.C_below (Kd.C_below (Kd.C_below HRAW.out hb6) hb7) hb8)
  have BW8 := Aside0.mk (below_step (below_step (below_step BW5.out hb6) hb7) hb8)
  clear HT5 hb6 hb7 hb8 BW5 HX5 HB5 HR5
  go_wp2_with ((with_reducible refine gate_builtin (b := .append) (xs := #[.tmp 66, .tmp 67]) rfl ?_); (try (refine gate_guard (by rfl) ?_; dsimp only)); at_builtin; refine C_append rfl (.tmp 66) (.tmp 67) rfl rfl Ab A1 (b.take k) l1 k _ c1 htl.out rfl rfl rfl HT8.out HR8.out ?hl ?_; (case hl => have := HRB.out.2; have := htl.out; omega); intro vy w9 hb9 hy9; obtain ⟨Ay, cy, ey, hcy, hCy, -⟩ := hy9; obtain ⟨N, hN⟩ : ∃ N, N = (b.take k ++ l1).length := ⟨_, rfl⟩; rw [← hN] at ey; subst ey; have HN := Aside0.mk hN; clear hN; have HY := Aside0.mk hCy; have HCY := Aside0.mk hcy; have HR9 := Aside0.mk (Kd.C_below HR8.out hb9); have BW9 := Aside0.mk (below_step BW8.out hb9); clear hb9 hcy hCy HT8 HR8 BW8)
  refine (same_n K Ay N cy (b.take k ++ l1) a2 0 _ HN.out HY.out (by rw [HN.out]; exact HCY.out) (HS.out _ a2 0 ((HBB.out.take k).app HRB.out.1) (by have := HRB.out.2; rw [List.length_append, List.length_take]; omega))).mono ?_
  rintro e w10 ⟨rfl, hb10⟩
  have HR10 := Aside0.mk (Kd.C_below HR9.out hb10)
  have BW10 := Aside0.mk (below_step BW9.out hb10)
  clear hb10 HR9 BW9 HY HCY
  go_wp2_with fail
  refine (same_n K A1 _ c1 l1 a2 a3 _ rfl HR10.out (by omega) (HS.out _ a2 a3 HRB.out.1 (by have := HRB.out.2; omega))).mono ?_
  rintro e w11 ⟨rfl, hb11⟩
  have BW11 := Aside0.mk (below_step BW10.out hb11)
  clear hb11 BW10 HR10
  go_wp2_with fail
  refine (engramlaw3_known.calls true _ rfl).mono ?_
  rintro e w12 ⟨rfl, hb12⟩
  have BW12 := Aside0.mk (below_step BW11.out hb12)
  clear hb12 BW11
  go_wp2_with fail
  go_ret
  exact ⟨by first | rfl | (simp; done), below_step HB.out BW12.out⟩
set_option maxHeartbeats 400000 in
set_option maxRecDepth 100000 in
theorem tells3 (w : World) (A0 : Option Addr) (c0 : Nat) (l0 : List (List Int)) (A1 : Option Addr) (c1 : Nat) (l1 : List Int) (a2 a3 a4 a5 : Int) (b : List Int) (k K : Nat)
    (hr0 : Kd.C (Kd.slice 5 (Kd.int .u8)) w A0 l0.length l0) (hc0 : l0.length ≤ c0) (hr1 : Kd.C (Kd.int .u8) w A1 l1.length l1) (hc1 : l1.length ≤ c1)
    (Hrow : engramlaw3_row.f K a2 l0 = some b) (Hsame : ∀ l ep sq, Plain.Bytes l → l.length ≤ 1000 → engramlaw3_same.f K l ep sq = some true)
    (hb : Plain.Bytes b) (hbl : b.length ≤ 400) (hl1 : Plain.Bytes l1) (t0 : 0 ≤ a5) (t1 : a5 ≤ 255)
    (hp : ¬ 0 < b.length) (hw : (l1.length : Int) > 200) (Hk : engrambook_Within.f K a4 0 (b.length : Int) = some (k : Int) ∧ k ≤ b.length) :
    Calls Try.prog 4 #[.slice A0 l0.length c0, .slice A1 l1.length c1, .int .u32 a2, .int .u32 a3, .int .i64 a4, .int .u8 a5] w fun e w' => e = .returned (.bool true) ∧ Below w.heap.size w w' := by
  have HR1 := Aside0.mk hr1
  have HK := Aside0.mk Hk
  have HS := Aside0.mk Hsame
  have HBB := Aside0.mk hb
  have hpos : decide (0 < b.length) = false := decide_eq_false hp
  have hwd : decide (200 < (l1.length : Int)) = true := decide_eq_true hw
  clear hr1 Hk Hsame hb
  go_enter Try.func4, Try.ntmps4
  go_wp2_with fail
  refine (engramlaw3_row.calls K a2 A0 c0 l0 b _ ?s1 ?s2 Hrow).mono ?_
  case s1 => exact hr0
  case s2 => exact hc0
  rintro e w1 ⟨vb, rfl, ho1, hb1⟩
  obtain ⟨Ab, cb, rfl⟩ := Kd.R_slice ho1
  have HB := Aside0.mk hb1
  have hbc : b.length ≤ cb := (Kd.R_reads' ho1).2.1
  have HCb := Aside0.mk (Kd.R_reads' ho1).2.2
  have HR1' := Aside0.mk (Kd.C_below HR1.out hb1)
  clear ho1 hb1 HR1 hr0
  go_wp2_with ((with_reducible refine gate_builtin (b := .append) (xs := #[.tmp 19, .tmp 20]) rfl ?_); at_builtin; refine C_append rfl (.tmp 19) (.tmp 20) rfl rfl _ _ [] b _ _ _ rfl rfl rfl rfl ?hA ?hB ?hl ?_; (case hA => exact ⟨rfl, by decide, fun h => absurd h (by decide)⟩); (case hB => exact Kd.C_alloc HCb.out _); (case hl => simp; omega); intro vx w2 hb2 hx2; rw [List.nil_append] at hx2; obtain ⟨Ax, cx, rfl, hcx, hCx, hRx⟩ := hx2; have HX := Aside0.mk hCx; have HRX := Aside0.mk hRx; have HCX := Aside0.mk hcx; have BW := Aside0.mk (below_step (below_alloc (Below.refl w1.heap.size w1) _) hb2); clear hb2 hcx hCx hRx)
  have BW4 := BW
  have HX := Aside0.mk (show b.length = b.length ∧ b.length ≤ cx ∧ Kd.C (Kd.int .u8) w2 Ax b.length b from ⟨rfl, HCX.out, HX.out⟩)
  clear BW HRX HCX
  refine (engrambook_Within.calls K a4 0 _ (k : Int) _ HK.out.1).mono ?_
  rintro e w5 ⟨rfl, hb5⟩
  have BW5 := Aside0.mk (below_step BW4.out hb5.below)
  have HX5 := Aside0.mk (Kd.C_below HX.out.2.2 hb5.below)
  have HL := Aside0.mk HX.out.1
  have HXC := Aside0.mk HX.out.2.1
  have HB5 := Aside0.mk (Kd.C_below HCb.out BW5.out)
  have HR5 := Aside0.mk (Kd.C_below HR1'.out BW5.out)
  have hkb : k ≤ b.length := HK.out.2
  have hcutk := cut_to (P := Try.prog) 22 5 .i64 Try.underlying22 (Option.map_eq_some_iff.1 (show (Try.prog.info? 5).map (fun i => (i.zero, i.size, i.bytes)) = some (some (.int .u8 0), 1, 1) from info5)).choose_spec.1 Ab b.length cb (k : Int) (by omega) (by omega) hbc
  rw [Int.toNat_natCast] at hcutk
  have hcutf := cut_full Ab b.length cb k hkb hbc
  have HRAW := Aside0.mk (Kd.C_take HR5.out (m := 200) (by omega))
  have HRL : Aside0 (200 = ((l1.take 200)).length) := ⟨by rw [List.length_take]; omega⟩
  have HRB : Aside0 (Plain.Bytes (l1.take 200) ∧ ((l1.take 200)).length ≤ 200) := ⟨⟨hl1.take 200, by rw [List.length_take]; omega⟩⟩
  have HXB : Aside0 (Plain.Bytes b) := ⟨HBB.out⟩
  have HXL : Aside0 ((b).length ≤ 1000) := ⟨by omega⟩
  clear BW4 HX hb5 HCb HR1'
  go_wp2_with fail
  refine (same_n K Ab _ cb b a2 0 _ rfl HB5.out hbc (HS.out b a2 0 HBB.out (by omega))).mono ?_
  rintro e w6 ⟨rfl, hb6⟩
  go_wp2_with fail
  refine (same_n K _ _ _ b a2 0 _ rfl (Kd.C_below HX5.out hb6) HXC.out (HS.out b a2 0 HXB.out HXL.out)).mono ?_
  rintro e w7 ⟨rfl, hb7⟩
  have htl : Aside0 (k = (b.take k).length) := ⟨by rw [List.length_take]; omega⟩
  have HT5 := Kd.C_take HB5.out (m := k) hkb
  go_wp2_with fail
  refine (same_n K Ab _ cb (b.take k) a2 _ _ htl.out (Kd.C_below (Kd.C_below HT5 hb6) hb7) (by omega) (HS.out (b.take k) a2 _ (HBB.out.take k) (by rw [List.length_take]; omega))).mono ?_
  rintro e w8 ⟨rfl, hb8⟩
  have HT8 := Aside0.mk (Kd.C_below (Kd.C_below (Kd.C_below HT5 hb6) hb7) hb8)
  have HR8 := Aside0.mk (Kd.C_below (Kd.C_below (Kd.C_below HRAW.out hb6) hb7) hb8)
  have BW8 := Aside0.mk (below_step (below_step (below_step BW5.out hb6) hb7) hb8)
  clear HT5 hb6 hb7 hb8 BW5 HX5 HB5 HR5
  go_wp2_with ((with_reducible refine gate_builtin (b := .append) (xs := #[.tmp 66, .tmp 67]) rfl ?_); (try (refine gate_guard (by rfl) ?_; dsimp only)); at_builtin; refine C_append rfl (.tmp 66) (.tmp 67) rfl rfl Ab A1 (b.take k) (l1.take 200) k _ c1 htl.out HRL.out rfl rfl HT8.out HR8.out ?hl ?_; (case hl => have := HRB.out.2; have := htl.out; omega); intro vy w9 hb9 hy9; obtain ⟨Ay, cy, ey, hcy, hCy, -⟩ := hy9; obtain ⟨N, hN⟩ : ∃ N, N = (b.take k ++ (l1.take 200)).length := ⟨_, rfl⟩; rw [← hN] at ey; subst ey; have HN := Aside0.mk hN; clear hN; have HY := Aside0.mk hCy; have HCY := Aside0.mk hcy; have HR9 := Aside0.mk (Kd.C_below HR8.out hb9); have BW9 := Aside0.mk (below_step BW8.out hb9); clear hb9 hcy hCy HT8 HR8 BW8)
  refine (same_n K Ay N cy (b.take k ++ (l1.take 200)) a2 0 _ HN.out HY.out (by rw [HN.out]; exact HCY.out) (HS.out _ a2 0 ((HBB.out.take k).app HRB.out.1) (by have := HRB.out.2; rw [List.length_append, List.length_take]; omega))).mono ?_
  rintro e w10 ⟨rfl, hb10⟩
  have HR10 := Aside0.mk (Kd.C_below HR9.out hb10)
  have BW10 := Aside0.mk (below_step BW9.out hb10)
  clear hb10 HR9 BW9 HY HCY
  go_wp2_with fail
  refine (same_n K A1 _ c1 (l1.take 200) a2 a3 _ HRL.out HR10.out (by omega) (HS.out _ a2 a3 HRB.out.1 (by have := HRB.out.2; omega))).mono ?_
  rintro e w11 ⟨rfl, hb11⟩
  have BW11 := Aside0.mk (below_step BW10.out hb11)
  clear hb11 BW10 HR10
  go_wp2_with fail
  refine (engramlaw3_known.calls true _ rfl).mono ?_
  rintro e w12 ⟨rfl, hb12⟩
  have BW12 := Aside0.mk (below_step BW11.out hb12)
  clear hb12 BW11
  go_wp2_with fail
  go_ret
  exact ⟨by first | rfl | (simp; done), below_step HB.out BW12.out⟩
set_option maxHeartbeats 400000 in
set_option maxRecDepth 100000 in
theorem tells4 (w : World) (A0 : Option Addr) (c0 : Nat) (l0 : List (List Int)) (A1 : Option Addr) (c1 : Nat) (l1 : List Int) (a2 a3 a4 a5 : Int) (b : List Int) (k K : Nat)
    (hr0 : Kd.C (Kd.slice 5 (Kd.int .u8)) w A0 l0.length l0) (hc0 : l0.length ≤ c0) (hr1 : Kd.C (Kd.int .u8) w A1 l1.length l1) (hc1 : l1.length ≤ c1)
    (Hrow : engramlaw3_row.f K a2 l0 = some b) (Hsame : ∀ l ep sq, Plain.Bytes l → l.length ≤ 1000 → engramlaw3_same.f K l ep sq = some true)
    (hb : Plain.Bytes b) (hbl : b.length ≤ 400) (hl1 : Plain.Bytes l1) (t0 : 0 ≤ a5) (t1 : a5 ≤ 255)
    (hp : ¬ 0 < b.length) (hw : ¬ (l1.length : Int) > 200) (Hk : engrambook_Within.f K a4 0 (b.length : Int) = some (k : Int) ∧ k ≤ b.length) :
    Calls Try.prog 4 #[.slice A0 l0.length c0, .slice A1 l1.length c1, .int .u32 a2, .int .u32 a3, .int .i64 a4, .int .u8 a5] w fun e w' => e = .returned (.bool true) ∧ Below w.heap.size w w' := by
  have HR1 := Aside0.mk hr1
  have HK := Aside0.mk Hk
  have HS := Aside0.mk Hsame
  have HBB := Aside0.mk hb
  have hpos : decide (0 < b.length) = false := decide_eq_false hp
  have hwd : decide (200 < (l1.length : Int)) = false := decide_eq_false hw
  clear hr1 Hk Hsame hb
  go_enter Try.func4, Try.ntmps4
  go_wp2_with fail
  refine (engramlaw3_row.calls K a2 A0 c0 l0 b _ ?s1 ?s2 Hrow).mono ?_
  case s1 => exact hr0
  case s2 => exact hc0
  rintro e w1 ⟨vb, rfl, ho1, hb1⟩
  obtain ⟨Ab, cb, rfl⟩ := Kd.R_slice ho1
  have HB := Aside0.mk hb1
  have hbc : b.length ≤ cb := (Kd.R_reads' ho1).2.1
  have HCb := Aside0.mk (Kd.R_reads' ho1).2.2
  have HR1' := Aside0.mk (Kd.C_below HR1.out hb1)
  clear ho1 hb1 HR1 hr0
  go_wp2_with ((with_reducible refine gate_builtin (b := .append) (xs := #[.tmp 19, .tmp 20]) rfl ?_); at_builtin; refine C_append rfl (.tmp 19) (.tmp 20) rfl rfl _ _ [] b _ _ _ rfl rfl rfl rfl ?hA ?hB ?hl ?_; (case hA => exact ⟨rfl, by decide, fun h => absurd h (by decide)⟩); (case hB => exact Kd.C_alloc HCb.out _); (case hl => simp; omega); intro vx w2 hb2 hx2; rw [List.nil_append] at hx2; obtain ⟨Ax, cx, rfl, hcx, hCx, hRx⟩ := hx2; have HX := Aside0.mk hCx; have HRX := Aside0.mk hRx; have HCX := Aside0.mk hcx; have BW := Aside0.mk (below_step (below_alloc (Below.refl w1.heap.size w1) _) hb2); clear hb2 hcx hCx hRx)
  have BW4 := BW
  have HX := Aside0.mk (show b.length = b.length ∧ b.length ≤ cx ∧ Kd.C (Kd.int .u8) w2 Ax b.length b from ⟨rfl, HCX.out, HX.out⟩)
  clear BW HRX HCX
  refine (engrambook_Within.calls K a4 0 _ (k : Int) _ HK.out.1).mono ?_
  rintro e w5 ⟨rfl, hb5⟩
  have BW5 := Aside0.mk (below_step BW4.out hb5.below)
  have HX5 := Aside0.mk (Kd.C_below HX.out.2.2 hb5.below)
  have HL := Aside0.mk HX.out.1
  have HXC := Aside0.mk HX.out.2.1
  have HB5 := Aside0.mk (Kd.C_below HCb.out BW5.out)
  have HR5 := Aside0.mk (Kd.C_below HR1'.out BW5.out)
  have hkb : k ≤ b.length := HK.out.2
  have hcutk := cut_to (P := Try.prog) 22 5 .i64 Try.underlying22 (Option.map_eq_some_iff.1 (show (Try.prog.info? 5).map (fun i => (i.zero, i.size, i.bytes)) = some (some (.int .u8 0), 1, 1) from info5)).choose_spec.1 Ab b.length cb (k : Int) (by omega) (by omega) hbc
  rw [Int.toNat_natCast] at hcutk
  have hcutf := cut_full Ab b.length cb k hkb hbc
  have HRAW := Aside0.mk (HR5.out)
  have HRL : Aside0 (l1.length = (l1).length) := ⟨rfl⟩
  have HRB : Aside0 (Plain.Bytes l1 ∧ (l1).length ≤ 200) := ⟨⟨hl1, by omega⟩⟩
  have HXB : Aside0 (Plain.Bytes b) := ⟨HBB.out⟩
  have HXL : Aside0 ((b).length ≤ 1000) := ⟨by omega⟩
  clear BW4 HX hb5 HCb HR1'
  go_wp2_with fail
  refine (same_n K Ab _ cb b a2 0 _ rfl HB5.out hbc (HS.out b a2 0 HBB.out (by omega))).mono ?_
  rintro e w6 ⟨rfl, hb6⟩
  go_wp2_with fail
  refine (same_n K _ _ _ b a2 0 _ rfl (Kd.C_below HX5.out hb6) HXC.out (HS.out b a2 0 HXB.out HXL.out)).mono ?_
  rintro e w7 ⟨rfl, hb7⟩
  have htl : Aside0 (k = (b.take k).length) := ⟨by rw [List.length_take]; omega⟩
  have HT5 := Kd.C_take HB5.out (m := k) hkb
  go_wp2_with fail
  refine (same_n K Ab _ cb (b.take k) a2 _ _ htl.out (Kd.C_below (Kd.C_below HT5 hb6) hb7) (by omega) (HS.out (b.take k) a2 _ (HBB.out.take k) (by rw [List.length_take]; omega))).mono ?_
  rintro e w8 ⟨rfl, hb8⟩
  have HT8 := Aside0.mk (Kd.C_below (Kd.C_below (Kd.C_below HT5 hb6) hb7) hb8)
  have HR8 := Aside0.mk (Kd.C_below (Kd.C_below (Kd.C_below HRAW.out hb6) hb7) hb8)
  have BW8 := Aside0.mk (below_step (below_step (below_step BW5.out hb6) hb7) hb8)
  clear HT5 hb6 hb7 hb8 BW5 HX5 HB5 HR5
  go_wp2_with ((with_reducible refine gate_builtin (b := .append) (xs := #[.tmp 66, .tmp 67]) rfl ?_); (try (refine gate_guard (by rfl) ?_; dsimp only)); at_builtin; refine C_append rfl (.tmp 66) (.tmp 67) rfl rfl Ab A1 (b.take k) l1 k _ c1 htl.out rfl rfl rfl HT8.out HR8.out ?hl ?_; (case hl => have := HRB.out.2; have := htl.out; omega); intro vy w9 hb9 hy9; obtain ⟨Ay, cy, ey, hcy, hCy, -⟩ := hy9; obtain ⟨N, hN⟩ : ∃ N, N = (b.take k ++ l1).length := ⟨_, rfl⟩; rw [← hN] at ey; subst ey; have HN := Aside0.mk hN; clear hN; have HY := Aside0.mk hCy; have HCY := Aside0.mk hcy; have HR9 := Aside0.mk (Kd.C_below HR8.out hb9); have BW9 := Aside0.mk (below_step BW8.out hb9); clear hb9 hcy hCy HT8 HR8 BW8)
  refine (same_n K Ay N cy (b.take k ++ l1) a2 0 _ HN.out HY.out (by rw [HN.out]; exact HCY.out) (HS.out _ a2 0 ((HBB.out.take k).app HRB.out.1) (by have := HRB.out.2; rw [List.length_append, List.length_take]; omega))).mono ?_
  rintro e w10 ⟨rfl, hb10⟩
  have HR10 := Aside0.mk (Kd.C_below HR9.out hb10)
  have BW10 := Aside0.mk (below_step BW9.out hb10)
  clear hb10 HR9 BW9 HY HCY
  go_wp2_with fail
  refine (same_n K A1 _ c1 l1 a2 a3 _ rfl HR10.out (by omega) (HS.out _ a2 a3 HRB.out.1 (by have := HRB.out.2; omega))).mono ?_
  rintro e w11 ⟨rfl, hb11⟩
  have BW11 := Aside0.mk (below_step BW10.out hb11)
  clear hb11 BW10 HR10
  go_wp2_with fail
  refine (engramlaw3_known.calls true _ rfl).mono ?_
  rintro e w12 ⟨rfl, hb12⟩
  have BW12 := Aside0.mk (below_step BW11.out hb12)
  clear hb12 BW11
  go_wp2_with fail
  go_ret
  exact ⟨by first | rfl | (simp; done), below_step HB.out BW12.out⟩
/-- Both ways at each. -/
theorem tells (w : World) (A0 : Option Addr) (c0 : Nat) (l0 : List (List Int)) (A1 : Option Addr) (c1 : Nat) (l1 : List Int) (a2 a3 a4 a5 : Int)
    (hr0 : Kd.C (Kd.slice 5 (Kd.int .u8)) w A0 l0.length l0) (hc0 : l0.length ≤ c0) (hr1 : Kd.C (Kd.int .u8) w A1 l1.length l1) (hc1 : l1.length ≤ c1)
    (h0 : ∀ x ∈ l0, Plain.Bytes x) (hl1 : Plain.Bytes l1) (t0 : 0 ≤ a5) (t1 : a5 ≤ 255) :
    Calls Try.prog 4 #[.slice A0 l0.length c0, .slice A1 l1.length c1, .int .u32 a2, .int .u32 a3, .int .i64 a4, .int .u8 a5] w fun e w' => e = .returned (.bool true) ∧ Below w.heap.size w w' := by
  obtain ⟨b, Hrow, hb, hbl⟩ := Pure.FrameTellsL.row_is 3000 a2 l0 h0 (by decide)
  have Hsame : ∀ l ep sq, Plain.Bytes l → l.length ≤ 1000 → engramlaw3_same.f 3000 l ep sq = some true := fun l ep sq hb hl => Pure.FrameTellsL.same_is 3000 l ep sq hb (by omega) (by omega)
  obtain ⟨k, ek, k0, k1, -⟩ := Pure.FrameTellsL.within_is 2999 a4 0 (b.length : Int) (by decide) (by omega) (by omega)
  obtain ⟨k, rfl⟩ := Int.eq_ofNat_of_zero_le k0
  have Hk : engrambook_Within.f 3000 a4 0 (b.length : Int) = some (k : Int) ∧ k ≤ b.length := ⟨ek, by omega⟩
  by_cases hp : 0 < b.length
  · obtain ⟨j, ej, j0, j1, -⟩ := Pure.FrameTellsL.within_is 2999 a4 0 ((b.length : Int) - 1) (by decide) (by omega) (by omega)
    obtain ⟨j, rfl⟩ := Int.eq_ofNat_of_zero_le j0
    have Hj : engrambook_Within.f 3000 a4 0 ((b.length : Int) - 1) = some (j : Int) ∧ j < b.length := ⟨ej, by omega⟩
    generalize 3000 = K at *
    by_cases hw : (l1.length : Int) > 200
    · exact tells1 w A0 c0 l0 A1 c1 l1 a2 a3 a4 a5 b j k K hr0 hc0 hr1 hc1 Hrow Hsame hb hbl hl1 t0 t1 hp hw Hj Hk
    · exact tells2 w A0 c0 l0 A1 c1 l1 a2 a3 a4 a5 b j k K hr0 hc0 hr1 hc1 Hrow Hsame hb hbl hl1 t0 t1 hp hw Hj Hk
  · generalize 3000 = K at *
    by_cases hw : (l1.length : Int) > 200
    · exact tells3 w A0 c0 l0 A1 c1 l1 a2 a3 a4 a5 b k K hr0 hc0 hr1 hc1 Hrow Hsame hb hbl hl1 t0 t1 hp hw Hk
    · exact tells4 w A0 c0 l0 A1 c1 l1 a2 a3 a4 a5 b k K hr0 hc0 hr1 hc1 Hrow Hsame hb hbl hl1 t0 t1 hp hw Hk
end Go.Proofs.Ytkcinjimjehcnaa.OFrameTells
