/- Memory: which pages are dirty. -/
import Derived.Test.YtfpkhlhojjmgiaaCells5
namespace Go.Proofs.Ytfpkhlhojjmgiaa.Cells
set_option linter.unusedVariables false
set_option linter.unusedSimpArgs false
open Go.RowKit Go.Proofs.YtfpkhlhojjmgiaaW.PrintWords Go.Proofs.YtfpkhlhojjmgiaaW.PrintLast Go.Proofs.YtfpkhlhojjmgiaaW.PrintMore Go.Proofs.Ytfpkhlhojjmgiaa.Kit Go.Proofs.Ytfpkhlhojjmgiaa.Base Go.Proofs.Ytfpkhlhojjmgiaa.Plain
abbrev I64 : Kd Int := Kd.int .i64
theorem infoI : (Try.prog.info? 3).map (fun i => (i.zero, i.size, i.bytes)) = some (some (.int .i64 0), 1, 8) := by kernel_rfl
def dirtyI (d : List Bool) : List Int := (d.zipIdx.filter (·.1)).map (fun p => (p.2 : Int))
theorem dirtyI_snoc (d : List Bool) (x : Bool) : dirtyI (d ++ [x]) = dirtyI d ++ (if x then [(d.length : Int)] else []) := by
  unfold dirtyI
  rw [List.zipIdx_append, List.filter_append, List.map_append]
  cases x <;> simp
theorem dirtyI_le (d : List Bool) : (dirtyI d).length ≤ d.length := by
  unfold dirtyI
  rw [List.length_map]
  have := List.length_filter_le (fun p : Bool × Nat => p.1) d.zipIdx
  simpa using this
theorem dirtyI_none (n : Nat) : dirtyI (List.replicate n false) = [] := by
  induction n with
  | zero => rfl
  | succ n ih => rw [List.replicate_succ', dirtyI_snoc, ih]; rfl
theorem bool_take {d : List Bool} {j : Nat} (h : j < d.length) : d.take (j + 1) = d.take j ++ [d[j]] := by
  rw [List.take_add_one, List.getElem?_eq_getElem h]; rfl
section
variable {w0 W : World} {g : Nat} {b : List Int} {most : Int} {dirty : List Bool} {F : List HP}
set_option maxHeartbeats 800000 in
set_option maxRecDepth 100000 in
theorem dirty_ (h : Sep w0 W (Mem g b most dirty :: F)) :
    Calls Try.prog 14 #[.pointer (some ⟨g, 0, none⟩)] W fun e w' => ∃ v, e = .returned v ∧ Sep w0 w' (Row I64 3 v (dirtyI dirty) :: Mem g b most dirty :: F) := by
  obtain ⟨Ab, cb, Ad, cd, hq, hs⟩ := open_ h
  have c2 : W.cell? ⟨g, 2, none⟩ = some (.slice Ad dirty.length cd) := by rw [hs.cell 2]; rfl
  have hd : dirty.length ≤ 100 := by omega
  obtain ⟨F2, hF2⟩ : ∃ F2, (Row U8 5 (.slice Ab b.length cb) b :: F) = F2 := ⟨_, rfl⟩
  obtain ⟨cs, hcs⟩ : ∃ cs : Array Value, #[Value.slice Ab b.length cb, .int .i64 most, .slice Ad dirty.length cd] = cs := ⟨_, rfl⟩
  have A0 : Aside0 (Sep w0 W (Row I64 3 (.slice none 0 0) [] :: Row BK 4 (.slice Ad dirty.length cd) dirty :: Blk g 77 cs :: F2)) := ⟨by rw [← hF2, ← hcs]; exact hs.at3.nilRow I64 3⟩
  have HQ := Aside0.mk hq
  have HF := Aside0.mk (And.intro hF2 hcs)
  clear hs hq h hF2 hcs
  go_enter Try.func14, Try.ntmps14
  go_wp2_with fail
  go_loopg [3, 11] dirty.length (fun m v p wr => ∃ j : Nat, j + m = dirty.length ∧ p = .int .i64 (j : Int) ∧ Sep w0 wr (Row I64 3 v (dirtyI (dirty.take j)) :: Row BK 4 (.slice Ad dirty.length cd) dirty :: Blk g 77 cs :: F2))
  case atStart => exact ⟨0, by omega, rfl, A0.out⟩
  case round =>
    obtain ⟨j, hjm, rfl, hS⟩ := hrel
    have AK := Aside0.mk hjm
    have AS := Aside0.mk hS
    by_cases hj : j < dirty.length
    · have hC := hS.at2.rowC.2.2
      obtain ⟨ad, hA, hc⟩ := Kd.at_bool hC (j : Int) (by omega) (by omega)
      subst hA
      rw [Int.toNat_natCast] at hc
      have hx : rdOf false dirty (j : Int) = dirty[j] := by
        unfold rdOf; rw [Int.toNat_natCast, List.getD_eq_getElem?_getD, List.getElem?_eq_getElem hj]; rfl
      rw [hx] at hc
      have ht := bool_take hj
      have hsn := dirtyI_snoc (dirty.take j) dirty[j]
      have hle := dirtyI_le (dirty.take j)
      rw [List.length_take, Nat.min_eq_left (by omega)] at hsn hle
      have AT := Aside0.mk (And.intro ht hsn)
      have AE := Aside0.mk hle
      generalize dirty[j] = x at *
      have L0 := Aside0.mk (hS.litRow (enc := Value.int .i64) (h1 := fun _ => rfl) (e := 3) [(j : Int)] (by simp)).at2
      clear hjm hS hC hx ht hsn hle
      cases x
      · go_wp2_with fail
        go_roundg (gk - 1)
        case measure => have := AK.out; omega
        case rel => exact ⟨j + 1, by have := AK.out; omega, by go_num, by rw [AT.out.1, AT.out.2]; simp; exact AS.out⟩
      · go_wp2_with (first | (refine gate_builtin (b := .append) (xs := #[.tmp 17, .tmp 19]) rfl ?_; go_loud (refine L0.out.appendRow rfl (.tmp 17) (.tmp 19) 27 (.int .i64 0) 8 rfl Try.underlying27 infoI rfl (by decide) (some ⟨wr.heap.size, 0, none⟩) 1 1 rfl rfl L0.out.at2.rowC.2.2 (by have := AE.out; rw [List.length_singleton]; omega) ?_; intro v3 w3 hS3; have A3 := Aside0.mk hS3; clear hS3)))
        go_roundg (gk - 1)
        case measure => have := AK.out; omega
        case rel => exact ⟨j + 1, by have := AK.out; omega, by go_num, by rw [AT.out.1, AT.out.2]; exact A3.out.drop2⟩
    · have hjn : j = dirty.length := by omega
      have A5 : Aside0 (Sep w0 wr (Row I64 3 _ (dirtyI dirty) :: Mem g b most dirty :: F)) := ⟨by
        rw [hjn, List.take_length, ← HF.out.1, ← HF.out.2] at hS
        have hq := HQ.out
        exact (shut_ hq.1 hq.2.1 hq.2.2.1 (hS.at3.at4.at2.perm (.cons _ (.cons _ (.swap _ _ _))))).at2⟩
      subst hjn
      clear hS hjm AK hj
      go_wp2_with fail
      go_ret
      exact ⟨_, by first | rfl | (simp; done), A5.out⟩
end
end Go.Proofs.Ytfpkhlhojjmgiaa.Cells
