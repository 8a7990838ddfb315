/- Play, Str, Root5: what StorePlays needs. -/
import Derived.Test.YtjngnigelkgekaaGreatTstorePlays9
import Derived.Deep.Cut
import Derived.Deep.CutRange
set_option linter.unusedVariables false
set_option linter.unusedSimpArgs false
namespace Go.Proofs.YtjngnigelkgekaaGreat.Ref
open Go.RowKit Go.Proofs.YtjngnigelkgekaaGreatW.PrintWords Go.Proofs.YtjngnigelkgekaaGreatW.PrintLast Go.Proofs.YtjngnigelkgekaaGreatW.PrintMore Go.Proofs.YtjngnigelkgekaaGreat.Kit Go.Proofs.YtjngnigelkgekaaGreat.Disk
section
variable {w0 W : World} {g gr n : Nat} {las : List Int} {done : Nat} {F : List HP} {wt : Wt}
theorem rflush_ (h : Sep w0 W (RD gr n las (flushed las wt) (waitL n wt) (-1) (done : Int) :: F)) (hl : las.length = 64 * n) (hw : ∀ i b, wt i = some b → b.length = 64) (hd : done ≤ 1000000) :
    Calls Tryz.prog 44 #[.pointer (some ⟨gr, 0, none⟩)] W fun e w' => e = .returned (.tuple #[]) ∧ Sep w0 w' (RD gr n (flushed las wt) (flushed (flushed las wt) (fun _ => none)) (waitL n (fun _ => none)) (-1) ((done + 1 : Nat) : Int) :: F) := by
  refine (flush_in h (by decide) (by decide) (by omega)).mono ?_
  rintro e w' ⟨rfl, hS⟩
  refine ⟨rfl, ?_⟩
  rw [flushed_none (flushed_len hl hw), waitL_none]
  exact hS
theorem rwrite_ (h : Sep w0 W (RD gr n las (flushed las wt) (waitL n wt) (-1) (done : Int) :: F)) (hl : las.length = 64 * n) (hw : ∀ i b, wt i = some b → b.length = 64) (hd : done ≤ 1000000) (i : Nat) (hi : i < n) {A : Option Addr} {c : Nat} {b : List Int} (hb : ∀ W', Sep w0 W' F → U8.C W' A 64 b) :
    Calls Tryz.prog 79 #[.pointer (some ⟨gr, 0, none⟩), .int .i64 (i : Int), .slice A 64 c] W fun e w' => e = .returned (.bool true) ∧ Sep w0 w' (RD gr n las (flushed las (fun j => if j = i then some b else wt j)) (waitL n (fun j => if j = i then some b else wt j)) (-1) ((done + 1 : Nat) : Int) :: F) := by
  refine (write_in h (by decide) (by decide) (by omega) i hi hb).mono ?_
  rintro e w' ⟨rfl, hS⟩
  refine ⟨rfl, ?_⟩
  rw [← flushed_write hl hw hi (hb W h.tail).1, ← waitL_set wt i b]
  exact hS
theorem rcrash_ {A : Option Addr} {m c : Nat} {cuts : List Int} (h : Sep w0 W (RD gr n las (flushed las wt) (waitL n wt) (-1) (done : Int) :: F)) (hl : las.length = 64 * n) (hw : ∀ i b, wt i = some b → b.length = 64) (hcu : ∀ W', Sep w0 W' F → I64.C W' A m cuts) :
    Calls Tryz.prog 19 #[.pointer (some ⟨gr, 0, none⟩), .slice A m c] W fun e w' => e = .returned (.int .i64 ((keysOf (las.length / 64) wt).length : Int)) ∧ Sep w0 w' (RD gr n (crashed las wt cuts) (flushed (crashed las wt cuts) (fun _ => none)) (waitL n (fun _ => none)) (-1) (done : Int) :: F) := by
  refine (crash_ h hw hcu).mono ?_
  rintro e w' ⟨rfl, hS⟩
  rw [show las.length / 64 = n by omega]
  refine ⟨rfl, ?_⟩
  have hcl : (crashed las wt cuts).length = 64 * n := by
    unfold crashed
    rw [show las.length / 64 = n by omega]
    exact secs_len (cutS_len hl hw)
  rw [flushed_none hcl, waitL_none]
  exact hS
theorem rread_ {left dn : Int} (h : Sep w0 W (RD gr n las (flushed las wt) (waitL n wt) left dn :: F)) (hl : las.length = 64 * n) (hw : ∀ i b, wt i = some b → b.length = 64) (i : Nat) (hi : i < n) :
    Calls Tryz.prog 109 #[.pointer (some ⟨gr, 0, none⟩), .int .i64 (i : Int)] W fun e w' => ∃ v, e = .returned (.tuple #[v, .bool true]) ∧ Sep w0 w' (Row U8 5 v ((wt i).getD (sec las i)) :: RD gr n las (flushed las wt) (waitL n wt) left dn :: F) := by
  refine (read_in h i hi).mono ?_
  rintro e w' ⟨v, rfl, hS⟩
  rw [sec_flushed hl hw hi] at hS
  exact ⟨v, rfl, hS⟩
theorem got_len (hl : las.length = 64 * n) (hw : ∀ i b, wt i = some b → b.length = 64) {i : Nat} (hi : i < n) : ((wt i).getD (sec las i)).length = 64 := by
  cases h : wt i with
  | none => exact sec_len (by omega)
  | some b => exact hw i b h
theorem upd_len {i : Nat} {b : List Int} (hw : ∀ i b, wt i = some b → b.length = 64) (hb : b.length = 64) : ∀ k c, (fun j => if j = i then some b else wt j) k = some c → c.length = 64 := fun k c h => by
  by_cases hki : k = i
  · simp only [if_pos hki] at h; injection h with h; rw [← h]; exact hb
  · simp only [if_neg hki] at h; exact hw k c h
theorem none_len : ∀ (i : Nat) (b : List Int), (fun _ => none : Wt) i = some b → b.length = 64 := fun i b h => by cases h
end
end Go.Proofs.YtjngnigelkgekaaGreat.Ref
namespace Go.Proofs.YtjngnigelkgekaaGreat.Str
open Go.RowKit Go.Proofs.YtjngnigelkgekaaGreatW.PrintWords Go.Proofs.YtjngnigelkgekaaGreatW.PrintLast Go.Proofs.YtjngnigelkgekaaGreatW.PrintMore Go.Proofs.YtjngnigelkgekaaGreat.Kit Go.Proofs.YtjngnigelkgekaaGreat.Plain
abbrev U8 : Kd Int := Kd.int .u8
theorem strC {W : World} {A : Option Addr} {n c : Nat} {xs : List Int} (h : U8.C W A n xs) : (convert 24 9 (.slice A n c)).run Tryz.prog W = .ok (.string (strOfNums xs)) W := by
  obtain rfl : xs.length = n := h.1
  exact Kd.C_string (P := Tryz.prog) (c := c) Tryz.underlying24 Tryz.underlying5 Tryz.underlying9 h
theorem beq_str (a b : ByteArray) : (a.toList == b.toList) = decide (a = b) := by
  rw [ByteArray.toList_eq, ByteArray.toList_eq]
  by_cases h : a = b
  · subst h; simp
  · rw [decide_eq_false h]
    exact beq_eq_false_iff_ne.2 (fun h2 => h (ByteArray.ext (by rw [← Array.toList_inj]; exact h2)))
theorem str_inj {xs ys : List Int} (hx : Bytes xs) (hy : Bytes ys) (h : strOfNums xs = strOfNums ys) : xs = ys := by
  have h2 : (strOfNums xs).data.toList = (strOfNums ys).data.toList := by rw [h]
  rw [strOfNums_data, strOfNums_data] at h2
  have hl : xs.length = ys.length := by simpa using congrArg List.length h2
  apply List.ext_getElem hl
  intro i h3 h4
  have h5 : (xs.map fun n => UInt8.ofNat n.toNat)[i]? = (ys.map fun n => UInt8.ofNat n.toNat)[i]? := by rw [h2]
  rw [List.getElem?_map, List.getElem?_map, List.getElem?_eq_getElem h3, List.getElem?_eq_getElem h4, Option.map_some, Option.map_some, Option.some.injEq] at h5
  have a1 := hx xs[i] (List.getElem_mem h3)
  have a2 := hy ys[i] (List.getElem_mem h4)
  have h6 := congrArg UInt8.toNat h5
  rw [UInt8.toNat_ofNat', UInt8.toNat_ofNat'] at h6
  omega
theorem beq_bytes {xs ys : List Int} (hx : Bytes xs) (hy : Bytes ys) : ((strOfNums xs).toList == (strOfNums ys).toList) = decide (xs = ys) := by
  rw [beq_str]
  by_cases h : xs = ys
  · subst h; simp
  · rw [decide_eq_false h, decide_eq_false (fun e => h (str_inj hx hy e))]
end Go.Proofs.YtjngnigelkgekaaGreat.Str
namespace Go.Proofs.YtjngnigelkgekaaGreat.Root
open Go.RowKit Go.Proofs.YtjngnigelkgekaaGreatW.PrintWords Go.Proofs.YtjngnigelkgekaaGreatW.PrintLast Go.Proofs.YtjngnigelkgekaaGreatW.PrintMore Go.Proofs.YtjngnigelkgekaaGreat.Kit Go.Proofs.YtjngnigelkgekaaGreat.Base Go.Proofs.YtjngnigelkgekaaGreat.Plain Go.Proofs.YtjngnigelkgekaaGreat.Sum
set_option maxHeartbeats 800000 in
set_option maxRecDepth 100000 in
theorem unroot_ {A : Option Addr} {n c : Nat} {l : List Int} {w : World} (hr : U8.C w A n l) (hc : n ≤ c) (hb : Bytes l) :
    Calls Tryz.prog 110 #[.slice A n c] w fun e w' => e = .returned (readV l) ∧ Below w.heap.size w w' := by
  have hl : l.length = n := hr.1
  by_cases h64 : n = 64
  case neg =>
    have hv : Aside0 (unrootF l = none) := ⟨if_neg (fun h => h64 (hl.symm.trans h.1))⟩
    have h1 : ¬ (n : Int) = 64 := by omega
    have h2 : ((n : Int) != 64) = true := by simpa using h1
    clear hr hb hl
    go_enter Tryz.func110, Tryz.ntmps110
    go_wp2_with fail
    go_retc (.tuple #[.agg #[.int .i64 0, .int .i64 0, .int .u32 0], .bool false])
    exact ⟨by unfold readV; rw [hv.out]; rfl, below_alloc (Below.refl _ _) _⟩
  case pos =>
    subst h64
    have HR := Aside0.mk hr
    have HC := Aside0.mk hc
    have HB := Aside0.mk hb
    have HL := Aside0.mk hl
    have HI := Aside0.mk (And.intro (getF_rng hb 4) (And.intro (getF_rng hb 8) (getF_rng hb 12)))
    have hcut := cutHi (z := .int .u8 0) (bytes := 1) Tryz.underlying24 infoB A 64 c 4 (K := 4) rfl (by decide) hc
    have hs4 : (convert 24 9 (.slice A 4 c)).run Tryz.prog (w.alloc (.cells #[.int .i64 0, .int .i64 0, .int .u32 0] 80)) = .ok (.string (strOfNums (l.take 4))) (w.alloc (.cells #[.int .i64 0, .int .i64 0, .int .u32 0] 80)) :=
      Str.strC (Kd.C_alloc (C_hi (b := 4) hr (by decide) hc) _)
    have hq := Str.beq_bytes (hb.take 4) markL_bytes
    rw [show (strOfNums markL).toList = [69, 78, 71, 49] by rw [ByteArray.toList_eq]; rfl] at hq
    have hM : Aside0 (IsRoot l → l.take 4 = markL) := ⟨fun h => by rw [h.2.2.2]; rfl⟩
    have hU0 : Aside0 (¬ IsRoot l → unrootF l = none) := ⟨fun h => if_neg h⟩
    clear hr hb hl hc
    by_cases h4 : l.take 4 = markL
    case neg =>
      have HN : Aside0 (unrootF l = none) := ⟨hU0.out (fun h => h4 (hM.out h))⟩
      rw [decide_eq_false h4] at hq
      generalize strOfNums (l.take 4) = s4 at *
      clear h4
      go_enter Tryz.func110, Tryz.ntmps110
      go_wp2_with fail
      go_retc (.tuple #[.agg #[.int .i64 0, .int .i64 0, .int .u32 0], .bool false])
      exact ⟨by unfold readV; rw [HN.out]; rfl, below_alloc (Below.refl _ _) _⟩
    case pos =>
    rw [decide_eq_true h4] at hq
    generalize strOfNums (l.take 4) = s4 at *
    clear h4
    go_enter Tryz.func110, Tryz.ntmps110
    go_wp2_with fail
    have A0 := Aside0.mk ((Sep.start w).newBlk 80 #[.int .i64 0, .int .i64 0, .int .u32 0])
    refine (rget_ (l := l) (a := 4) (Kd.C_below HR.out A0.out.toBelow) HB.out).mono ?_
    rintro e w1 ⟨rfl, hb1⟩
    have A1 := Aside0.mk (A0.out.below hb1)
    have hx1 : IntKind.i64.wrap (getF l 4) = getF l 4 := by have := HI.out.1; rw [IntKind.wrap_i64]; omega
    have hx2 : IntKind.i64.wrap (getF l 8) = getF l 8 := by have := HI.out.2.1; rw [IntKind.wrap_i64]; omega
    clear hb1 hcut hs4 hq
    go_wp2_with fail
    refine (rget_ (l := l) (a := 8) (Kd.C_below HR.out A1.out.toBelow) HB.out).mono ?_
    rintro e w2 ⟨rfl, hb2⟩
    have A2 := Aside0.mk (A1.out.below hb2)
    clear hb2
    go_wp2_with fail
    refine (rget_ (l := l) (a := 12) (Kd.C_below HR.out A2.out.toBelow) HB.out).mono ?_
    rintro e w3 ⟨rfl, hb3⟩
    have A3 := Aside0.mk (A2.out.below hb3)
    clear hb3
    have hU : Aside0 (∀ h : IsRoot l, unrootF l = some (getF l 4, getF l 8, getF l 12)) := ⟨fun h => if_pos h⟩
    have hIR : Aside0 (IsRoot l ↔ getF l 4 ≤ 2147483647 ∧ getF l 8 ≤ 2147483647 ∧ l = rootF (getF l 4) (getF l 8) (getF l 12)) := ⟨⟨fun h => h.2, fun h => ⟨HL.out, h⟩⟩⟩
    generalize getF l 4 = x at *
    generalize getF l 8 = y at *
    generalize getF l 12 = z at *
    have A4 := Aside0.mk (A3.out.newBlk 80 #[.int .i64 x, .int .i64 y, .int .u32 z])
    have u0 : ∀ q, ((w3.alloc (.cells #[.int .i64 x, .int .i64 y, .int .u32 z] 80)).drewN q).cell? ⟨w3.heap.size, 0, none⟩ = some (.int .i64 x) := fun q => ((A4.out.drewN q).cell 0).trans rfl
    have u1 : ∀ q, ((w3.alloc (.cells #[.int .i64 x, .int .i64 y, .int .u32 z] 80)).drewN q).cell? ⟨w3.heap.size, 1, none⟩ = some (.int .i64 y) := fun q => ((A4.out.drewN q).cell 1).trans rfl
    by_cases hx : 2147483647 < x
    case pos =>
      have HN : Aside0 (unrootF l = none) := ⟨hU0.out (fun h => by have := (hIR.out.1 h).1; omega)⟩
      have hd : decide (2147483647 < x) = true := decide_eq_true hx
      go_wp2_with fail
      go_quiet (fail)
      have A5 := A4.out.drewN nq
      obtain ⟨w5, hw5⟩ : ∃ w5, (w3.alloc (.cells #[.int .i64 x, .int .i64 y, .int .u32 z] 80)).drewN nq = w5 := ⟨_, rfl⟩
      rw [hw5] at A5 ⊢
      clear hw5 u0 u1
      have A6 := A5.at2
      obtain ⟨c0, f0, c1, f1, c2, f2, hS4⟩ := store3 (.int .i64 0) (.int .i64 0) (.int .u32 0) A6
      obtain ⟨w4, hw4⟩ : ∃ w4, (((w5.setCell ⟨w.heap.size, 0, none⟩ (.int .i64 0)).setCell ⟨w.heap.size, 1, none⟩ (.int .i64 0)).setCell ⟨w.heap.size, 2, none⟩ (.int .u32 0)) = w4 := ⟨_, rfl⟩
      rw [hw4] at hS4
      have r0 := (hS4.cell 0).trans rfl
      have r1 := (hS4.cell 1).trans rfl
      have r2 := (hS4.cell 2).trans rfl
      have B4 := Aside0.mk hS4
      clear hS4 A5 A6
      go_wp2_with fail
      go_retc (.tuple #[.agg #[.int .i64 0, .int .i64 0, .int .u32 0], .bool false])
      exact ⟨by unfold readV; rw [HN.out]; rfl, B4.out.toBelow⟩
    case neg =>
    have hd : decide (2147483647 < x) = false := decide_eq_false hx
    by_cases hy : 2147483647 < y
    case pos =>
      have HN : Aside0 (unrootF l = none) := ⟨hU0.out (fun h => by have := (hIR.out.1 h).2.1; omega)⟩
      have hd2 : decide (2147483647 < y) = true := decide_eq_true hy
      go_wp2_with fail
      go_quiet (fail)
      have A5 := A4.out.drewN nq
      obtain ⟨w5, hw5⟩ : ∃ w5, (w3.alloc (.cells #[.int .i64 x, .int .i64 y, .int .u32 z] 80)).drewN nq = w5 := ⟨_, rfl⟩
      rw [hw5] at A5 ⊢
      clear hw5 u0 u1
      have A6 := A5.at2
      obtain ⟨c0, f0, c1, f1, c2, f2, hS4⟩ := store3 (.int .i64 0) (.int .i64 0) (.int .u32 0) A6
      obtain ⟨w4, hw4⟩ : ∃ w4, (((w5.setCell ⟨w.heap.size, 0, none⟩ (.int .i64 0)).setCell ⟨w.heap.size, 1, none⟩ (.int .i64 0)).setCell ⟨w.heap.size, 2, none⟩ (.int .u32 0)) = w4 := ⟨_, rfl⟩
      rw [hw4] at hS4
      have r0 := (hS4.cell 0).trans rfl
      have r1 := (hS4.cell 1).trans rfl
      have r2 := (hS4.cell 2).trans rfl
      have B4 := Aside0.mk hS4
      clear hS4 A5 A6
      go_wp2_with fail
      go_retc (.tuple #[.agg #[.int .i64 0, .int .i64 0, .int .u32 0], .bool false])
      exact ⟨by unfold readV; rw [HN.out]; rfl, B4.out.toBelow⟩
    case neg =>
    have hd2 : decide (2147483647 < y) = false := decide_eq_false hy
    have hm1 := m32_id HI.out.1.1 HI.out.1.2
    have hm2 := m32_id HI.out.2.1.1 HI.out.2.1.2
    have HM := Aside0.mk (And.intro hm1 hm2)
    have hqq := Str.beq_bytes (rootF_bytes x y z) HB.out
    have HQ := Aside0.mk hqq
    have A4d := Aside0.mk A4.out.drew
    clear hm1 hm2 hqq u0 u1
    go_wp2_with fail
    refine start_ (n := 16) (S := fun w' => w'.cell? ⟨w3.heap.size, 0, none⟩ = some (.int .i64 x) ∧ w'.cell? ⟨w3.heap.size, 1, none⟩ = some (.int .i64 y) ∧ w'.cell? ⟨w3.heap.size, 2, none⟩ = some (.int .u32 z) ∧ (convert 24 9 (.slice A 64 c)).run Tryz.prog w' = .ok (.string (strOfNums l)) w') (ds := []) #[false, false, false, false, false, false, false, false, false, false, false, false, false, false, false, false] (by kernel_rfl) rfl rfl ⟨(A4d.out.cell 0).trans rfl, (A4d.out.cell 1).trans rfl, (A4d.out.cell 2).trans rfl, Str.strC (Kd.C_below HR.out A4d.out.toBelow)⟩ (fun hHeld => ?_)
    refine pure_ (i := 0) (N := some 24) (v := ?_) (a' := ?_) #[true, false, false, false, false, false, false, false, false, false, false, false, false, false, false, false] rfl rfl (by kernel_rfl) (fun _ _ _ h => h) (Or.inl ⟨by rfl, ?_⟩) ?_ ?_
    rotate_left
    · intro w'
      go_simp
      with_reducible rfl
    rotate_left
    · simp only [Act.put, sIB, sCz, sCs, i64_w, i32_w]
      rfl
    refine take_ (i := 1) (N := some 25) (v := ?_) (a' := ?_) #[true, true, false, false, false, false, false, false, false, false, false, false, false, false, false, false] rfl rfl (by kernel_rfl) (fun _ _ _ h => h) (Or.inl ⟨by rfl, ?_⟩) hHeld ?_ ?_
    rotate_left
    · rintro w' ⟨s0, s1, s2, s3⟩
      go_simp
      with_reducible rfl
    rotate_left
    · simp only [Act.put, sIB, sCz, sCs, i64_w, i32_w]
      rfl
    refine pure_ (i := 2) (N := some 26) (v := ?_) (a' := ?_) #[true, true, true, false, false, false, false, false, false, false, false, false, false, false, false, false] rfl rfl (by kernel_rfl) (fun _ _ _ h => h) (Or.inl ⟨by rfl, ?_⟩) ?_ ?_
    rotate_left
    · intro w'
      go_simp
      with_reducible rfl
    rotate_left
    · simp only [Act.put, sIB, sCz, sCs, i64_w, i32_w]
      rfl
    refine pure_ (i := 3) (N := some 27) (v := ?_) (a' := ?_) #[true, true, true, true, false, false, false, false, false, false, false, false, false, false, false, false] rfl rfl (by kernel_rfl) (fun _ _ _ h => h) (Or.inl ⟨by rfl, ?_⟩) ?_ ?_
    rotate_left
    · intro w'
      go_simp
      with_reducible rfl
    rotate_left
    · simp only [Act.put, sIB, sCz, sCs, i64_w, i32_w]
      rfl
    refine pure_ (i := 4) (N := some 28) (v := ?_) (a' := ?_) #[true, true, true, true, true, false, false, false, false, false, false, false, false, false, false, false] rfl rfl (by kernel_rfl) (fun _ _ _ h => h) (Or.inl ⟨by rfl, ?_⟩) ?_ ?_
    rotate_left
    · intro w'
      go_simp
      with_reducible rfl
    rotate_left
    · simp only [Act.put, sIB, sCz, sCs, i64_w, i32_w]
      rfl
    refine take_ (i := 5) (N := some 29) (v := ?_) (a' := ?_) #[true, true, true, true, true, true, false, false, false, false, false, false, false, false, false, false] rfl rfl (by kernel_rfl) (fun _ _ _ h => h) (Or.inl ⟨by rfl, ?_⟩) hHeld ?_ ?_
    rotate_left
    · rintro w' ⟨s0, s1, s2, s3⟩
      go_simp
      with_reducible rfl
    rotate_left
    · simp only [Act.put, sIB, sCz, sCs, i64_w, i32_w]
      rfl
    refine pure_ (i := 6) (N := some 30) (v := ?_) (a' := ?_) #[true, true, true, true, true, true, true, false, false, false, false, false, false, false, false, false] rfl rfl (by kernel_rfl) (fun _ _ _ h => h) (Or.inl ⟨by rfl, ?_⟩) ?_ ?_
    rotate_left
    · intro w'
      go_simp
      with_reducible rfl
    rotate_left
    · simp only [Act.put, sIB, sCz, sCs, i64_w, i32_w]
      rfl
    refine pure_ (i := 7) (N := some 31) (v := ?_) (a' := ?_) #[true, true, true, true, true, true, true, true, false, false, false, false, false, false, false, false] rfl rfl (by kernel_rfl) (fun _ _ _ h => h) (Or.inl ⟨by rfl, ?_⟩) ?_ ?_
    rotate_left
    · intro w'
      go_simp
      with_reducible rfl
    rotate_left
    · simp only [Act.put, sIB, sCz, sCs, i64_w, i32_w]
      rfl
    refine pure_ (i := 8) (N := some 32) (v := ?_) (a' := ?_) #[true, true, true, true, true, true, true, true, true, false, false, false, false, false, false, false] rfl rfl (by kernel_rfl) (fun _ _ _ h => h) (Or.inl ⟨by rfl, ?_⟩) ?_ ?_
    rotate_left
    · intro w'
      go_simp
      with_reducible rfl
    rotate_left
    · simp only [Act.put, sIB, sCz, sCs, i64_w, i32_w]
      rfl
    refine pure_ (i := 12) (N := some 36) (v := ?_) (a' := ?_) #[true, true, true, true, true, true, true, true, true, false, false, false, true, false, false, false] rfl rfl (by kernel_rfl) (fun _ _ _ h => h) (Or.inl ⟨by rfl, ?_⟩) ?_ ?_
    rotate_left
    · intro w'
      go_simp
      with_reducible rfl
    rotate_left
    · simp only [Act.put, sIB, sCz, sCs, i64_w, i32_w]
      rfl
    refine take_ (i := 9) (N := some 33) (v := ?_) (a' := ?_) #[true, true, true, true, true, true, true, true, true, true, false, false, true, false, false, false] rfl rfl (by kernel_rfl) (fun _ _ _ h => h) (Or.inl ⟨by rfl, ?_⟩) hHeld ?_ ?_
    rotate_left
    · rintro w' ⟨s0, s1, s2, s3⟩
      go_simp
      with_reducible rfl
    rotate_left
    · simp only [Act.put, sIB, sCz, sCs, i64_w, i32_w]
      rfl
    refine take_ (i := 13) (N := some 37) (v := ?_) (a' := ?_) #[true, true, true, true, true, true, true, true, true, true, false, false, true, true, false, false] rfl rfl (by kernel_rfl) (fun _ _ _ h => h) (Or.inl ⟨by rfl, ?_⟩) hHeld ?_ ?_
    rotate_left
    · rintro w' ⟨s0, s1, s2, s3⟩
      go_simp
      with_reducible rfl
    rotate_left
    · simp only [Act.put, sIB, sCz, sCs, i64_w, i32_w]
      rfl
    refine one_ (i := 10) (N := some 34) #[true, true, true, true, true, true, true, true, true, true, true, false, true, true, false, false] rfl rfl (by kernel_rfl) (by decide) (fun K hK => ?_)
    refine goes_ Tryz.func45 (by kernel_rfl) rfl #[.agg #[.int .i64 x, .int .i64 y, .int .u32 z]] (by rfl) rfl rfl (by simp only [List.map_toArray, List.map_cons, List.map_nil]; rfl) ?_
    with_reducible refine (rroot_ x y z HI.out.2.2 _).mono ?_
    rintro e w5 ⟨v5, rfl, hS5⟩
    refine ⟨_, rfl, ?_⟩
    rw [HM.out.1, HM.out.2] at hS5
    obtain ⟨A5, c5, rfl⟩ := hS5.rowN (n := 64) (rootF_len _ _ _)
    have B5 := Aside0.mk (A4d.out.lift1 hS5)
    have hs5 := Str.strC (c := c5) B5.out.rowC'
    clear hS5
    refine hK.out _ _ ⟨(B5.out.at2.cell 0).trans rfl, (B5.out.at2.cell 1).trans rfl, (B5.out.at2.cell 2).trans rfl, Str.strC (Kd.C_below HR.out B5.out.toBelow)⟩ (fun hHeld => ?_)
    clear hK K
    refine norm_ (a' := ?_) ?_ ?_
    rotate_left
    · show Act.put _ (some 34) _ = _
      simp only [Act.put, sIB, sCz, sCs, i64_w, i32_w]
      rfl
    refine one_ (i := 11) (N := some 35) #[true, true, true, true, true, true, true, true, true, true, true, true, true, true, false, false] rfl rfl (by kernel_rfl) (by decide) (fun K hK => ?_)
    refine value_ (w1 := ?_) (v := ?_) (by rfl) rfl ?_ ?_
    rotate_left 2
    · go_simp
      constructor
      · rfl
      · rfl
    refine hK.out _ _ ⟨(B5.out.at2.cell 0).trans rfl, (B5.out.at2.cell 1).trans rfl, (B5.out.at2.cell 2).trans rfl, Str.strC (Kd.C_below HR.out B5.out.toBelow)⟩ (fun hHeld => ?_)
    clear hK K
    refine norm_ (a' := ?_) ?_ ?_
    rotate_left
    · show Act.put _ (some 35) _ = _
      simp only [Act.put, sIB, sCz, sCs, i64_w, i32_w]
      rfl
    refine pure_ (i := 14) (N := some 38) (v := ?_) (a' := ?_) #[true, true, true, true, true, true, true, true, true, true, true, true, true, true, true, false] rfl rfl (by kernel_rfl) (fun _ _ _ h => h) (Or.inl ⟨by rfl, ?_⟩) ?_ ?_
    rotate_left
    · intro w'
      go_simp
      with_reducible rfl
    rotate_left
    · simp only [Act.put, sIB, sCz, sCs, i64_w, i32_w]
      rfl
    refine pure_ (i := 15) (N := some 39) (v := ?_) (a' := ?_) #[true, true, true, true, true, true, true, true, true, true, true, true, true, true, true, true] rfl rfl (by kernel_rfl) (fun _ _ _ h => h) (Or.inl ⟨by rfl, ?_⟩) ?_ ?_
    rotate_left
    · intro w'
      go_simp
      with_reducible rfl
    rotate_left
    · simp only [Act.put, sIB, sCz, sCs, i64_w, i32_w]
      rfl
    refine done_ (by kernel_rfl) ?_
    have hqq := HQ.out
    by_cases he : rootF x y z = l
    case pos =>
      have HN : Aside0 (unrootF l = some (x, y, z)) := ⟨hU.out (hIR.out.2 ⟨by omega, by omega, he.symm⟩)⟩
      rw [decide_eq_true he] at hqq
      rw [hqq, Bool.not_true]
      clear he
      generalize strOfNums (rootF x y z) = sa at *
      generalize strOfNums l = sb at *
      obtain ⟨c0, f0, c1, f1, c2, f2, hS4⟩ := store3 (.int .i64 x) (.int .i64 y) (.int .u32 z) B5.out.at3
      obtain ⟨w4, hw4⟩ : ∃ w4, (((w5.setCell ⟨w.heap.size, 0, none⟩ (.int .i64 x)).setCell ⟨w.heap.size, 1, none⟩ (.int .i64 y)).setCell ⟨w.heap.size, 2, none⟩ (.int .u32 z)) = w4 := ⟨_, rfl⟩
      rw [hw4] at hS4
      have r0 := (hS4.cell 0).trans rfl
      have r1 := (hS4.cell 1).trans rfl
      have r2 := (hS4.cell 2).trans rfl
      have B4 := Aside0.mk hS4
      have l0 : w5.cell? ⟨w3.heap.size, 0, none⟩ = some (.int .i64 x) := (B5.out.at2.cell 0).trans rfl
      have l1 : w5.cell? ⟨w3.heap.size, 1, none⟩ = some (.int .i64 y) := (B5.out.at2.cell 1).trans rfl
      have l2 : w5.cell? ⟨w3.heap.size, 2, none⟩ = some (.int .u32 z) := (B5.out.at2.cell 2).trans rfl
      clear hS4
      go_wp2_with fail
      go_retc (.tuple #[.agg #[.int .i64 x, .int .i64 y, .int .u32 z], .bool true])
      exact ⟨by unfold readV; rw [HN.out]; rfl, B4.out.toBelow⟩
    case neg =>
      have HN : Aside0 (unrootF l = none) := ⟨hU0.out (fun h => he (hIR.out.1 h).2.2.symm)⟩
      rw [decide_eq_false he] at hqq
      rw [hqq, Bool.not_false]
      clear he
      generalize strOfNums (rootF x y z) = sa at *
      generalize strOfNums l = sb at *
      obtain ⟨c0, f0, c1, f1, c2, f2, hS4⟩ := store3 (.int .i64 0) (.int .i64 0) (.int .u32 0) B5.out.at3
      obtain ⟨w4, hw4⟩ : ∃ w4, (((w5.setCell ⟨w.heap.size, 0, none⟩ (.int .i64 0)).setCell ⟨w.heap.size, 1, none⟩ (.int .i64 0)).setCell ⟨w.heap.size, 2, none⟩ (.int .u32 0)) = w4 := ⟨_, rfl⟩
      rw [hw4] at hS4
      have r0 := (hS4.cell 0).trans rfl
      have r1 := (hS4.cell 1).trans rfl
      have r2 := (hS4.cell 2).trans rfl
      have B4 := Aside0.mk hS4
      clear hS4
      go_wp2_with fail
      go_retc (.tuple #[.agg #[.int .i64 0, .int .i64 0, .int .u32 0], .bool false])
      exact ⟨by unfold readV; rw [HN.out]; rfl, B4.out.toBelow⟩
end Go.Proofs.YtjngnigelkgekaaGreat.Root
