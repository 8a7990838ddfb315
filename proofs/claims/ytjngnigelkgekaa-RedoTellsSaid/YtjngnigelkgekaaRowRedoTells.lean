/- RedoTells: the row. -/
import Derived.Test.YtjngnigelkgekaaTredoTells15
import Derived.Lib.SmallJoins
import Derived.Test.YtjngnigelkgekaaRows
import Derived.Test.YtjngnigelkgekaaWSized
namespace Go.Proofs.Ytjngnigelkgekaa.redoTells
open Go.ChangeShapes Go.WideShapes Go.ChangeAt Go.RowKit Go.Proofs.YtjngnigelkgekaaW.PrintWords Go.Proofs.Ytjngnigelkgekaa.Kit
open Go.ChangeMaps (open_string shut_string)
set_option linter.unusedVariables false
theorem own : ownKnob Try.prog.godebug = none := by kernel_rfl
theorem laidOut : laidOutB Try.prog = true := by kernel_rfl
set_option maxRecDepth 100000 in
theorem lifted (os : Os) (started : os.Started) (H : Type) (enc : TypeId × Value → H) :
    ReturnsInHanded {} Try.checked os 16 .any (Rows.redoTellsSpec.pre6 enc Try.prog Try.f16 Rows.redoTellsRow.domain false) (Rows.redoTellsSpec.post enc Try.prog Try.f16 false true false false) := by
  refine returnsInHanded_of_change_sized (C := Try.checked) own started (by kernel_rfl) Try.func16
    (ChangeSpec.witness6 (enc := enc) (C := Try.checked) false ⟨#[], #[.slice none 0 0, .slice none 0 0, .agg #[.int .i64 0, .int .i64 0, .int .u32 0], .slice none 0 0, .int .i64 0, .int .u8 0], []⟩ 8 (by kernel_rfl) (by kernel_rfl) (by kernel_rfl) (by kernel_rfl)) ?_
  intro W base args ds gs before hval0 hW hcnd hsz0 _
  have hsz : (DataW.weightsEach Try.prog (Try.f16.params.toList ++ Rows.redoTellsSpec.plain.varTypes Try.prog) (ds ++ gs)).all (· ≤ reachBytes) = true := hsz0
  have hval : ∀ (j : Nat) t v, Try.f16.params[j]? = some t → args[j]? = some v → Value.okWide Try.prog W .any base t v := hval0
  have hW' := hW
  obtain ⟨p, q, hA0, hV, rfl, hfz, hnd⟩ := hW
  have hA : DataW.TrodAll enc Try.prog W 0 (fun _ => true) true Try.f16.params.toList args.toList ds p := hA0
  rw [Try.params16] at hA hval hsz
  obtain ⟨v0, vs0, d0, ds0, p0, q0, hargs, rfl, rfl, h0, r0⟩ := trodAll_cons hA
  obtain ⟨v1, vs1, d1, ds1, p1, q1, rfl, rfl, rfl, h1, r1⟩ := trodAll_cons r0
  obtain ⟨v2, vs2, d2, ds2, p2, q2, rfl, rfl, rfl, h2, r2⟩ := trodAll_cons r1
  obtain ⟨v3, vs3, d3, ds3, p3, q3, rfl, rfl, rfl, h3, r3⟩ := trodAll_cons r2
  obtain ⟨v4, vs4, d4, ds4, p4, q4, rfl, rfl, rfl, h4, r4⟩ := trodAll_cons r3
  obtain ⟨v5, vs5, d5, ds5, p5, q5, rfl, rfl, rfl, h5, r5⟩ := trodAll_cons r4
  obtain ⟨rfl, rfl, rfl⟩ := trodAll_nil r5
  obtain rfl : args = #[v0, v1, v2, v3, v4, v5] := by cases args; simp_all
  obtain ⟨rfl, rfl⟩ := trodVars_none hV
  have k0 := h0
  have lt0 : ∀ x ∈ p0, x.block < W.heap.size := by obtain ⟨m, hm⟩ := k0; exact DataW.trod_lt m _ _ _ hm
  have k1 := h1
  have lt1 : ∀ x ∈ p1, x.block < W.heap.size := by obtain ⟨m, hm⟩ := k1; exact DataW.trod_lt m _ _ _ hm
  have k2 := h2
  have lt2 : ∀ x ∈ p2, x.block < W.heap.size := by obtain ⟨m, hm⟩ := k2; exact DataW.trod_lt m _ _ _ hm
  have k3 := h3
  have lt3 : ∀ x ∈ p3, x.block < W.heap.size := by obtain ⟨m, hm⟩ := k3; exact DataW.trod_lt m _ _ _ hm
  have k4 := h4
  have lt4 : ∀ x ∈ p4, x.block < W.heap.size := by obtain ⟨m, hm⟩ := k4; exact DataW.trod_lt m _ _ _ hm
  have k5 := h5
  have lt5 : ∀ x ∈ p5, x.block < W.heap.size := by obtain ⟨m, hm⟩ := k5; exact DataW.trod_lt m _ _ _ hm
  obtain ⟨A0, n0, c0, e0⟩ := okWide_slice Try.underlying38 (hval 0 38 v0 rfl rfl)
  subst e0
  obtain ⟨xs0, hl0, hC0, hw0⟩ := ints_C Try.underlying38 Try.underlying3 (by kernel_rfl) h0
  obtain ⟨A1, n1, c1, e1⟩ := okWide_slice Try.underlying22 (hval 1 22 v1 rfl rfl)
  subst e1
  obtain ⟨xs1, hl1, hC1, hw1⟩ := Redo.rows2_open h1
  obtain ⟨cA2, cB2, cC2, yA2, yB2, yC2, mm2, ev2, ed2, ep2, hyA2, hyB2, hyC2⟩ := Joins.open_agg3 Try.underlying26 (by kernel_rfl) (by kernel_rfl) (hval 2 26 v2 rfl rfl) h2
  obtain ⟨x2, ex2, -, wx2⟩ := DataW.trod_int Try.underlying3 hyA2
  obtain ⟨y2, ey2, -, wy2⟩ := DataW.trod_int Try.underlying3 hyB2
  obtain ⟨z2, ez2, -, wz2⟩ := DataW.trod_int Try.underlying24 hyC2
  simp at ex2 ey2 ez2
  subst ex2 ey2 ez2
  subst ev2
  obtain ⟨A3, n3, c3, e3⟩ := okWide_slice Try.underlying38 (hval 3 38 v3 rfl rfl)
  subst e3
  obtain ⟨xs3, hl3, hC3, hw3⟩ := ints_C Try.underlying38 Try.underlying3 (by kernel_rfl) h3
  obtain ⟨a4, e4, -, -, w4⟩ := open_int Try.underlying3 (hval 4 3 v4 rfl rfl) h4
  subst e4
  obtain ⟨a5, e5, -, -, w5⟩ := open_int Try.underlying5 (hval 5 5 v5 rfl rfl) h5
  subst e5
  clear hA0 hval0 hsz0
  refine (Redo.redoTells_ (at_ := a4) hC0 (fun x hx => Plain.i64_wf (hw0 x hx)) (Redo.ints_weight h0 hsz (j := 0) rfl rfl) hC1 hw1 (Plain.u32_wf wz2) hC3 (Plain.u8_wf w5)).mono fun e W' ⟨he, bel⟩ => ?_
  subst he
  exact ⟨_, rfl, _, _, _, [], _, [], hW', trodAll_mk1 (shut_bool Try.underlying4 _), (trodAll_cons_mk (Below.trod laidOut (by kernel_rfl) (of_decide_eq_true (by kernel_rfl)) k0 bel lt0) (trodAll_cons_mk (Below.trod laidOut (by kernel_rfl) (of_decide_eq_true (by kernel_rfl)) k1 bel lt1) (trodAll_cons_mk (Below.trod laidOut (by kernel_rfl) (of_decide_eq_true (by kernel_rfl)) k2 bel lt2) (trodAll_cons_mk (Below.trod laidOut (by kernel_rfl) (of_decide_eq_true (by kernel_rfl)) k3 bel lt3) (trodAll_cons_mk (Below.trod laidOut (by kernel_rfl) (of_decide_eq_true (by kernel_rfl)) k4 bel lt4) (trodAll_cons_mk (Below.trod laidOut (by kernel_rfl) (of_decide_eq_true (by kernel_rfl)) k5 bel lt5) trodAll_mk0)))))), rfl, bel.frame _, fun h => by cases h⟩
theorem over : Rows.redoTellsRow.holds Try.pinned (OpenSpec.ofChange Rows.redoTellsSpec) :=
  OpenClaim.holds_of_wide 16 Try.f16 rfl rfl rfl rfl rfl rfl rfl ⟨rfl, rfl, rfl, rfl, rfl⟩ rfl rfl rfl rfl rfl (by kernel_rfl) Try.func16 (by kernel_rfl)
    (of_decide_eq_true (by kernel_rfl)) (by unfold Func.isWrapper; first | (rw [if_pos (by decide +kernel)]; kernel_rfl) | (rw [if_neg (by decide +kernel)]; exact ⟨rfl, rfl⟩))
    (fun os started H enc _ => lifted os started H enc)
theorem proved : Rows.RedoTellsSaid := over
#print axioms proved
end Go.Proofs.Ytjngnigelkgekaa.redoTells
namespace Go.Proofs.Ytjngnigelkgekaa
/-- The row, under a short name, for the claim. -/
theorem redoTells_holds : Rows.RedoTellsSaid := redoTells.proved
end Go.Proofs.Ytjngnigelkgekaa
