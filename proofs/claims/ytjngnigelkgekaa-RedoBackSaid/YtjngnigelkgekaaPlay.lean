/- Chapter 1's laws: asks are played on a disk and on the document's. -/
import Derived.Test.YtjngnigelkgekaaRef6
import Derived.Deep.Cut
import Derived.Deep.CutRange
namespace Go.Proofs.Ytjngnigelkgekaa.Ref
set_option linter.unusedVariables false
set_option linter.unusedSimpArgs false
open Go.RowKit Go.Proofs.YtjngnigelkgekaaW.PrintWords Go.Proofs.YtjngnigelkgekaaW.PrintLast Go.Proofs.YtjngnigelkgekaaW.PrintMore Go.Proofs.Ytjngnigelkgekaa.Kit Go.Proofs.Ytjngnigelkgekaa.Disk
/-- One ask, as it lies at an address. -/
def AskAt (W : World) (a : Addr) : Prop := ∃ (k x : Int) (Ab : Option Addr) (nb cb : Nat) (bs : List Int) (Ac : Option Addr) (nc cc : Nat) (cs : List Int),
  W.cell? a = some (.int .i64 k) ∧ W.cell? ⟨a.block, a.off + 1, none⟩ = some (.int .i64 x) ∧ W.cell? ⟨a.block, a.off + 2, none⟩ = some (.slice Ab nb cb) ∧ W.cell? ⟨a.block, a.off + 3, none⟩ = some (.slice Ac nc cc) ∧
  (-9223372036854775808 ≤ x ∧ x ≤ 9223372036854775807) ∧ nb ≤ cb ∧ U8.C W Ab nb bs ∧ I64.C W Ac nc cs
/-- n asks. -/
def Asks (W : World) (A : Option Addr) (n : Nat) : Prop := n ≤ 9223372036854775807 ∧ ∀ i, i < n → ∃ a, A = some a ∧ AskAt W (a.add (i * 4))
theorem AskAt.below {W W' : World} {a : Addr} (h : AskAt W a) (hb : Below W.heap.size W W') : AskAt W' a := by
  obtain ⟨k, x, Ab, nb, cb, bs, Ac, nc, cc, cs, h0, h1, h2, h3, h4, h5, h6, h7⟩ := h
  exact ⟨k, x, Ab, nb, cb, bs, Ac, nc, cc, cs, cell_later hb h0, cell_later hb h1, cell_later hb h2, cell_later hb h3, h4, h5, Kd.C_below h6 hb, Kd.C_below h7 hb⟩
theorem Asks.below {W W' : World} {A : Option Addr} {n : Nat} (h : Asks W A n) (hb : Below W.heap.size W W') : Asks W' A n :=
  ⟨h.1, fun i hi => by obtain ⟨a, h1, h2⟩ := h.2 i hi; exact ⟨a, h1, h2.below hb⟩⟩
section
variable {w0 W : World} {g gr n : Nat} {las : List Int} {done : Nat} {F : List HP} {wt : Wt}
theorem rflush_ (h : Sep w0 W (RD gr n las (flushed las wt) (waitL n wt) (-1) (done : Int) :: F)) (hl : las.length = 64 * n) (hw : ∀ i b, wt i = some b → b.length = 64) (hd : done ≤ 1000) :
    Calls Try.prog 97 #[.pointer (some ⟨gr, 0, none⟩)] W fun e w' => e = .returned (.tuple #[]) ∧ Sep w0 w' (RD gr n (flushed las wt) (flushed (flushed las wt) (fun _ => none)) (waitL n (fun _ => none)) (-1) ((done + 1 : Nat) : Int) :: F) := by
  refine (flush_in h (by decide) (by decide) (by omega)).mono ?_
  rintro e w' ⟨rfl, hS⟩
  refine ⟨rfl, ?_⟩
  rw [flushed_none (flushed_len hl hw), waitL_none]
  exact hS
theorem rwrite_ (h : Sep w0 W (RD gr n las (flushed las wt) (waitL n wt) (-1) (done : Int) :: F)) (hl : las.length = 64 * n) (hw : ∀ i b, wt i = some b → b.length = 64) (hd : done ≤ 1000) (i : Nat) (hi : i < n) {A : Option Addr} {c : Nat} {b : List Int} (hb : ∀ W', Sep w0 W' F → U8.C W' A 64 b) :
    Calls Try.prog 87 #[.pointer (some ⟨gr, 0, none⟩), .int .i64 (i : Int), .slice A 64 c] W fun e w' => e = .returned (.bool true) ∧ Sep w0 w' (RD gr n las (flushed las (fun j => if j = i then some b else wt j)) (waitL n (fun j => if j = i then some b else wt j)) (-1) ((done + 1 : Nat) : Int) :: F) := by
  refine (write_in h (by decide) (by decide) (by omega) i hi hb).mono ?_
  rintro e w' ⟨rfl, hS⟩
  refine ⟨rfl, ?_⟩
  rw [← flushed_write hl hw hi (hb W h.tail).1, ← waitL_set wt i b]
  exact hS
theorem rcrash_ {A : Option Addr} {m c : Nat} {cuts : List Int} (h : Sep w0 W (RD gr n las (flushed las wt) (waitL n wt) (-1) (done : Int) :: F)) (hl : las.length = 64 * n) (hw : ∀ i b, wt i = some b → b.length = 64) (hcu : ∀ W', Sep w0 W' F → I64.C W' A m cuts) :
    Calls Try.prog 98 #[.pointer (some ⟨gr, 0, none⟩), .slice A m c] W fun e w' => e = .returned (.int .i64 ((keysOf (las.length / 64) wt).length : Int)) ∧ Sep w0 w' (RD gr n (crashed las wt cuts) (flushed (crashed las wt cuts) (fun _ => none)) (waitL n (fun _ => none)) (-1) (done : Int) :: F) := by
  refine (crash_ h hw hcu).mono ?_
  rintro e w' ⟨rfl, hS⟩
  rw [show las.length / 64 = n by omega]
  refine ⟨rfl, ?_⟩
  have hcl : (crashed las wt cuts).length = 64 * n := by
    unfold crashed
    rw [show las.length / 64 = n by omega]
    exact secs_len (cutS_len hl hw)
  rw [flushed_none hcl, waitL_none]
  exact hS
theorem rread_ (h : Sep w0 W (RD gr n las (flushed las wt) (waitL n wt) (-1) (done : Int) :: F)) (hl : las.length = 64 * n) (hw : ∀ i b, wt i = some b → b.length = 64) (i : Nat) (hi : i < n) :
    Calls Try.prog 99 #[.pointer (some ⟨gr, 0, none⟩), .int .i64 (i : Int)] W fun e w' => ∃ v, e = .returned (.tuple #[v, .bool true]) ∧ Sep w0 w' (Row U8 5 v ((wt i).getD (sec las i)) :: RD gr n las (flushed las wt) (waitL n wt) (-1) (done : Int) :: F) := by
  refine (read_in h i hi).mono ?_
  rintro e w' ⟨v, rfl, hS⟩
  rw [sec_flushed hl hw hi] at hS
  exact ⟨v, rfl, hS⟩
theorem got_len (hl : las.length = 64 * n) (hw : ∀ i b, wt i = some b → b.length = 64) {i : Nat} (hi : i < n) : ((wt i).getD (sec las i)).length = 64 := by
  cases h : wt i with
  | none => exact sec_len (by omega)
  | some b => exact hw i b h
theorem crashed_len {cuts : List Int} (hl : las.length = 64 * n) (hw : ∀ i b, wt i = some b → b.length = 64) : (crashed las wt cuts).length = 64 * n := by
  unfold crashed
  rw [show las.length / 64 = n by omega]
  exact secs_len (cutS_len hl hw)
theorem upd_len {i : Nat} {b : List Int} (hw : ∀ i b, wt i = some b → b.length = 64) (hb : b.length = 64) : ∀ k c, (fun j => if j = i then some b else wt j) k = some c → c.length = 64 := fun k c h => by
  by_cases hki : k = i
  · simp only [if_pos hki] at h; injection h with h; rw [← h]; exact hb
  · simp only [if_neg hki] at h; exact hw k c h
theorem none_len : ∀ (i : Nat) (b : List Int), (fun _ => none : Wt) i = some b → b.length = 64 := fun i b h => by cases h
end
set_option maxHeartbeats 3200000 in
set_option maxRecDepth 100000 in
theorem play_ {A0 A1 : Option Addr} {n0 c0 n1 c1 : Nat} {im : List Int} {w : World} (h0 : U8.C w A0 n0 im) (hc0 : n0 ≤ c0) (h1 : Asks w A1 n1) :
    Calls Try.prog 52 #[.slice A0 n0 c0, .slice A1 n1 c1] w fun e w' => e = .returned (.bool true) ∧ Below w.heap.size w w' := by
  have hn0 : n0 ≤ 9223372036854775807 := h0.2.1
  have hn1 : n1 ≤ 9223372036854775807 := h1.1
  have H0 := Aside0.mk h0
  have H1 := Aside0.mk h1
  clear h0 h1
  by_cases hb : n0 = 0 ∨ n0 % 64 ≠ 0 ∨ 10240 < n0
  · go_enter Try.func52, Try.ntmps52
    go_wp2_with fail
    refine (Disk.of_none H0.out hb).mono ?_
    rintro e w1 ⟨rfl, rfl⟩
    go_wp2_with fail
    refine (of_none hn0 hb).mono ?_
    rintro e w1 ⟨rfl, rfl⟩
    go_wp2_with fail
    go_ret
    exact ⟨by first | rfl | (simp; done), Below.refl _ _⟩
  · obtain ⟨n, rfl⟩ : ∃ n, n0 = 64 * n := ⟨n0 / 64, by omega⟩
    have n1' : 1 ≤ n := by omega
    have n2' : n ≤ 160 := by omega
    clear hb hn0
    go_enter Try.func52, Try.ntmps52
    go_wp2_with fail
    refine (Disk.of_ok (n := n) (l := im) H0.out hc0 (by omega) n1' n2').mono ?_
    rintro e w1 ⟨g, rfl, hS1⟩
    go_wp2_with fail
    refine (of_ok (m := n) (l := im) (Kd.C_below H0.out hS1.toBelow) (by omega) n1' n2').mono ?_
    rintro e w2 ⟨gr, rfl, hS2⟩
    have hS := (hS1.lift1 hS2).at2
    have hl : im.length = 64 * n := H0.out.1
    have AS : Aside0 (Sep w w2 (Dsk g im (fun _ => none) :: RD gr n im (flushed im (fun _ => none)) (waitL n (fun _ => none)) (-1) 0 :: [])) := ⟨by rw [flushed_none hl, waitL_none]; exact hS⟩
    have AL := Aside0.mk hl
    clear hS hS1 hS2 hl
    go_wp2_with fail
    go_loopg [7] 60 (fun q p wr => ∃ (j : Nat) (las : List Int) (wt : Wt) (done : Nat), p = .int .i64 (j : Int) ∧ j + q = 60 ∧ done ≤ j ∧ las.length = 64 * n ∧ (∀ i b, wt i = some b → b.length = 64) ∧ Sep w wr (Dsk g las wt :: [RD gr n las (flushed las wt) (waitL n wt) (-1) (done : Int)]))
    case atStart => exact ⟨0, im, fun _ => none, 0, rfl, by omega, by omega, AL.out, fun i b h => by simp at h, AS.out⟩
    case round =>
      obtain ⟨j, las, wt, done, rfl, hjk, hdj, hl, hw, hS⟩ := hrel
      have AS := Aside0.mk hS
      have AL := Aside0.mk hl
      have AW := Aside0.mk hw
      have AK := Aside0.mk hjk
      have AD := Aside0.mk hdj
      clear hS hl hw hdj
      by_cases hj : j < n1 ∧ j < 60
      · obtain ⟨hj1, hj2⟩ := hj
        obtain ⟨a, hA, k, x, Ab, nb, cb, bs, Ac, nc, cc, cs, e0, e1, e2, e3, e4, e5, e6, e7⟩ := H1.out.2 j hj1
        subst hA
        replace e0 := cell_later AS.out.toBelow e0
        replace e1 := cell_later AS.out.toBelow e1
        replace e2 := cell_later AS.out.toBelow e2
        replace e3 := cell_later AS.out.toBelow e3
        have hj3 : (j : Int) < 60 := by omega
        have AB := Aside0.mk e6
        have AC := Aside0.mk e7
        have ANB : Aside0 (nb ≤ 9223372036854775807) := ⟨e6.2.1⟩
        have BLK := Aside0.mk (AS.out.newBlk 74 #[.int .i64 k, .int .i64 x, .slice Ab nb cb, .slice Ac nc cc])
        have z0 := BLK.out.cell 0
        have z1 := BLK.out.cell 1
        have z2 := BLK.out.cell 2
        have z3 := BLK.out.cell 3
        clear hjk e6 e7
        by_cases k5 : k = 5
        · subst k5
          go_wp2_with fail
          refine (flush_ BLK.out.at2).mono ?_
          rintro e w3 ⟨rfl, hS3⟩
          have A3 := Aside0.mk hS3.at3
          clear hS3 z0 z1 z2 z3
          go_wp2_with fail
          refine (rflush_ A3.out AL.out AW.out (by have := AD.out; omega)).mono ?_
          rintro e w4 ⟨rfl, hS4⟩
          have A4 := Aside0.mk hS4.at2
          clear hS4
          go_wp2_with fail
          refine (same_ (A4.out) (flushed_len AL.out AW.out)).mono ?_
          rintro e wz ⟨rfl, hSz⟩
          have AZ := Aside0.mk hSz
          clear hSz
          go_wp2_with fail
          go_roundg (gk - 1)
          case measure => have := AK.out; omega
          case rel => exact ⟨j + 1, flushed las wt, (fun _ => none), done + 1, by go_num, by have := AK.out; omega, by have := AD.out; omega, flushed_len AL.out AW.out, none_len, Sep.weakR (L := [_, _]) AZ.out⟩
        · by_cases k6 : k = 6
          · subst k6
            clear z0 z1 z2
            have z3 := (BLK.out.drew.cell 3).trans rfl
            go_upto_region 20 with fail
            refine start_ (n := 9) (S := fun w' => w'.cell? ⟨wr.heap.size, 3, none⟩ = some (.slice Ac nc cc)) (ds := [7]) #[false, false, false, false, false, false, false, false, false] (by kernel_rfl) rfl rfl (z3) (fun hHeld => ?_)
            refine pure_ (i := 0) (N := some 68) (v := ?_) (a' := ?_) #[true, false, false, false, false, false, false, false, false] rfl rfl (by kernel_rfl) (fun _ _ _ h => h) (Or.inl ⟨by rfl, ?_⟩) ?_ ?_
            rotate_left
            · intro w'
              go_simp
              with_reducible rfl
            rotate_left
            · simp only [Act.put, List.setIfInBounds_toArray, List.set_cons_zero, List.set_cons_succ, i64_w, i32_w]
              rfl
            refine pure_ (i := 1) (N := some 69) (v := ?_) (a' := ?_) #[true, true, false, false, false, false, false, false, false] rfl rfl (by kernel_rfl) (fun _ _ _ h => h) (Or.inl ⟨by rfl, ?_⟩) ?_ ?_
            rotate_left
            · intro w'
              go_simp
              with_reducible rfl
            rotate_left
            · simp only [Act.put, List.setIfInBounds_toArray, List.set_cons_zero, List.set_cons_succ, i64_w, i32_w]
              rfl
            refine pure_ (i := 4) (N := some 72) (v := ?_) (a' := ?_) #[true, true, false, false, true, false, false, false, false] rfl rfl (by kernel_rfl) (fun _ _ _ h => h) (Or.inl ⟨by rfl, ?_⟩) ?_ ?_
            rotate_left
            · intro w'
              go_simp
              with_reducible rfl
            rotate_left
            · simp only [Act.put, List.setIfInBounds_toArray, List.set_cons_zero, List.set_cons_succ, i64_w, i32_w]
              rfl
            refine pure_ (i := 5) (N := some 73) (v := ?_) (a' := ?_) #[true, true, false, false, true, true, false, false, false] rfl rfl (by kernel_rfl) (fun _ _ _ h => h) (Or.inl ⟨by rfl, ?_⟩) ?_ ?_
            rotate_left
            · intro w'
              go_simp
              with_reducible rfl
            rotate_left
            · simp only [Act.put, List.setIfInBounds_toArray, List.set_cons_zero, List.set_cons_succ, i64_w, i32_w]
              rfl
            refine take_ (i := 2) (N := some 70) (v := ?_) (a' := ?_) #[true, true, true, false, true, true, false, false, false] rfl rfl (by kernel_rfl) (fun _ _ _ h => h) (Or.inl ⟨by rfl, ?_⟩) hHeld ?_ ?_
            rotate_left
            · intro w' s0
              go_simp
              with_reducible rfl
            rotate_left
            · simp only [Act.put, List.setIfInBounds_toArray, List.set_cons_zero, List.set_cons_succ, i64_w, i32_w]
              rfl
            refine take_ (i := 6) (N := some 74) (v := ?_) (a' := ?_) #[true, true, true, false, true, true, true, false, false] rfl rfl (by kernel_rfl) (fun _ _ _ h => h) (Or.inl ⟨by rfl, ?_⟩) hHeld ?_ ?_
            rotate_left
            · intro w' s0
              go_simp
              with_reducible rfl
            rotate_left
            · simp only [Act.put, List.setIfInBounds_toArray, List.set_cons_zero, List.set_cons_succ, i64_w, i32_w]
              rfl
            refine one_ (i := 3) (N := some 71) #[true, true, true, true, true, true, true, false, false] rfl rfl (by kernel_rfl) (by decide) (fun K hK => ?_)
            refine goes_ Try.func55 (by kernel_rfl) rfl #[.pointer (some ⟨g, 0, none⟩), .slice Ac nc cc] (by rfl) rfl rfl (by simp only [List.map_toArray, List.map_cons, List.map_nil]; rfl) ?_
            with_reducible refine (Disk.crash_ (cuts := cs) BLK.out.drew.at2 (fun W' h => Kd.C_below AC.out h.toBelow)).mono ?_
            rintro e w3 ⟨rfl, hS3⟩
            refine ⟨_, rfl, ?_⟩
            have A3 := Aside0.mk hS3.at3
            clear hS3
            refine hK.out _ _ ((A3.out.at3.cell 3).trans rfl) (fun hHeld => ?_)
            clear hK K
            refine norm_ (a' := ?_) ?_ ?_
            rotate_left
            · show Act.put _ (some 71) _ = _
              simp only [Act.put, List.setIfInBounds_toArray, List.set_cons_zero, List.set_cons_succ, i64_w, i32_w]
              rfl
            refine last_ (i := 7) (N := some 75) #[true, true, true, true, true, true, true, true, false] rfl rfl (by kernel_rfl) (by decide) (fun K hK => ?_)
            refine goes_ Try.func98 (by kernel_rfl) rfl #[.pointer (some ⟨gr, 0, none⟩), .slice Ac nc cc] (by rfl) rfl rfl (by simp only [List.map_toArray, List.map_cons, List.map_nil]; rfl) ?_
            with_reducible refine (rcrash_ (cuts := cs) A3.out AL.out AW.out (fun W' h => Kd.C_below AC.out h.toBelow)).mono ?_
            rintro e w4 ⟨rfl, hS4⟩
            refine ⟨_, rfl, ?_⟩
            have A4 := Aside0.mk hS4.at2
            clear hS4
            refine hK.out _ _ ?_
            clear hK K
            refine norm_ (a' := ?_) ?_ ?_
            rotate_left
            · show Act.put _ (some 75) _ = _
              simp only [Act.put, List.setIfInBounds_toArray, List.set_cons_zero, List.set_cons_succ, i64_w, i32_w]
              rfl
            refine pure_ (i := 8) (N := some 76) (v := ?_) (a' := ?_) #[true, true, true, true, true, true, true, true, true] rfl rfl (by kernel_rfl) (fun _ _ _ h => h) (Or.inl ⟨by rfl, ?_⟩) ?_ ?_
            rotate_left
            · intro w'
              go_simp
              with_reducible rfl
            rotate_left
            · simp only [Act.put, List.setIfInBounds_toArray, List.set_cons_zero, List.set_cons_succ, i64_w, i32_w]
              rfl
            refine done_ (by kernel_rfl) ?_
            clear z3
            go_wp2_with fail
            refine (same_ (A4.out) (crashed_len AL.out AW.out)).mono ?_
            rintro e wz ⟨rfl, hSz⟩
            have AZ := Aside0.mk hSz
            clear hSz
            go_wp2_with fail
            go_roundg (gk - 1)
            case measure => have := AK.out; omega
            case rel => exact ⟨j + 1, crashed las wt cs, (fun _ => none), done, by go_num, by have := AK.out; omega, by have := AD.out; omega, crashed_len AL.out AW.out, none_len, Sep.weakR (L := [_, _]) AZ.out⟩
          · by_cases k7 : k = 7
            · subst k7
              have AX := Aside0.mk e4
              by_cases hx : 0 ≤ x ∧ x < (n : Int)
              · obtain ⟨i, rfl⟩ : ∃ i : Nat, x = (i : Int) := ⟨x.toNat, by omega⟩
                have hi : i < n := by omega
                clear hx e4
                have hgl := got_len AL.out AW.out hi
                have AGL := Aside0.mk hgl
                clear hgl
                go_wp2_with fail
                refine (Disk.read_in BLK.out.at2 i (by have := AL.out; omega)).mono ?_
                rintro e w3 ⟨v3, rfl, hS3⟩
                obtain ⟨A3', c3, rfl⟩ := hS3.rowN AGL.out
                have y1 := (hS3.at3.cell 1).trans rfl
                have A3 := Aside0.mk hS3.at4
                clear hS3 z0 z1 z2 z3
                go_wp2_with fail
                refine (rread_ A3.out AL.out AW.out i hi).mono ?_
                rintro e w4 ⟨v4, rfl, hS4⟩
                obtain ⟨A4', c4, rfl⟩ := hS4.rowN AGL.out
                have s4 := str_ hS4
                have s3 := str_ hS4.at3
                have A4 := Aside0.mk hS4.tail.at2.tail.at2
                clear hS4 y1
                go_wp2_with fail
                go_wp2_with fail
                clear s4 s3
                refine (same_ (A4.out) (AL.out)).mono ?_
                rintro e wz ⟨rfl, hSz⟩
                have AZ := Aside0.mk hSz
                clear hSz
                go_wp2_with fail
                go_roundg (gk - 1)
                case measure => have := AK.out; omega
                case rel => exact ⟨j + 1, las, wt, done, by go_num, by have := AK.out; omega, by have := AD.out; omega, AL.out, AW.out, Sep.weakR (L := [_, _]) AZ.out⟩
              · have hx2 : ¬ (0 ≤ x ∧ x < (las.length : Int) / 64) := by have := AL.out; omega
                have AX2 := Aside0.mk hx2
                have AX1 := Aside0.mk hx
                clear hx hx2 e4
                go_wp2_with fail
                refine (Disk.read_out BLK.out.at2 x AX2.out).mono ?_
                rintro e w3 ⟨rfl, rfl⟩
                go_wp2_with fail
                refine (read_out BLK.out.at3 x AX1.out).mono ?_
                rintro e w3 ⟨rfl, rfl⟩
                have A4 := Aside0.mk BLK.out.tail
                have hnil : ∀ W : World, (convert 30 9 (.slice none 0 0)).run Try.prog W = .ok (.string (strOfNums [])) W := fun W => strC (c := 0) (Kd.C_nil _ _)
                go_wp2_with fail
                refine (same_ (A4.out) (AL.out)).mono ?_
                rintro e wz ⟨rfl, hSz⟩
                have AZ := Aside0.mk hSz
                clear hSz
                go_wp2_with fail
                go_roundg (gk - 1)
                case measure => have := AK.out; omega
                case rel => exact ⟨j + 1, las, wt, done, by go_num, by have := AK.out; omega, by have := AD.out; omega, AL.out, AW.out, Sep.weakR (L := [_, _]) AZ.out⟩
            · go_upto_if 45 with fail
              go_cut [13] from 25 to 106 (fun p wx => ∃ (Ax : Option Addr) (nx cx : Nat) (xs : List Int) (F : List HP), p = .slice Ax nx cx ∧ nx ≤ cx ∧ (∀ W', Sep w W' F → U8.C W' Ax nx xs) ∧ Sep w wx (Dsk g las wt :: RD gr n las (flushed las wt) (waitL n wt) (-1) (done : Int) :: Blk wr.heap.size 74 #[.int .i64 k, .int .i64 x, .slice Ab nb cb, .slice Ac nc cc] :: F))
              case first =>
                by_cases kp : 0 < k
                · go_wp2_with fail
                  refine (sector1_ (Kd.C_below AB.out BLK.out.toBelow)).mono ?_
                  rintro e w3 ⟨v3, rfl, hS3⟩
                  have hS4 := BLK.out.lift1 hS3
                  obtain ⟨A3, c3, rfl⟩ := hS4.rowN (padTo_len 64 bs)
                  have A4 := Aside0.mk hS4
                  clear hS3 hS4
                  go_wp2_with fail
                  go_meet
                  case rel => exact ⟨A3, 64, c3, padTo 64 bs, [Row U8 5 (.slice A3 64 c3) (padTo 64 bs)], rfl, A4.out.rowC.2.1, fun W' h => by have := h.rowC.2.2; rwa [padTo_len] at this, A4.out.to4.to3⟩
                · go_wp2_with fail
                  go_meet
                  case rel => exact ⟨Ab, nb, cb, bs, [], rfl, e5, fun W' h => Kd.C_below AB.out h.toBelow, BLK.out.to3⟩
              case rest =>
                obtain ⟨Ax, nx, cx, xs, F, rfl, hcx, hxs, hS⟩ := hcut
                have HX := Aside0.mk hxs
                have A4 := Aside0.mk hS
                have hxm : nx ≤ 9223372036854775807 := (hxs _ hS.tail.tail.tail).2.1
                have AX := Aside0.mk e4
                clear hxs hS z0 z1 z2 z3 BLK
                have z1 := (A4.out.drew.at3.cell 1).trans rfl
                by_cases hx : (0 ≤ x ∧ x < (n : Int)) ∧ nx = 64
                · obtain ⟨⟨hx0, hx1⟩, rfl⟩ := hx
                  obtain ⟨i, rfl⟩ : ∃ i : Nat, x = (i : Int) := ⟨x.toNat, by omega⟩
                  have hi : i < n := by omega
                  clear hx0 hx1 e4 hxm
                  have HXL : Aside0 (xs.length = 64) := ⟨(HX.out _ A4.out.tail.tail.tail).1⟩
                  go_wp2_with fail
                  refine start_ (n := 11) (S := fun w' => w'.cell? ⟨wr.heap.size, 1, none⟩ = some (.int .i64 (i : Int))) (ds := [9]) #[false, false, false, false, false, false, false, false, false, false, false] (by kernel_rfl) rfl rfl (z1) (fun hHeld => ?_)
                  refine pure_ (i := 0) (N := some 49) (v := ?_) (a' := ?_) #[true, false, false, false, false, false, false, false, false, false, false] rfl rfl (by kernel_rfl) (fun _ _ _ h => h) (Or.inl ⟨by rfl, ?_⟩) ?_ ?_
                  rotate_left
                  · intro w'
                    go_simp
                    with_reducible rfl
                  rotate_left
                  · simp only [Act.put, List.setIfInBounds_toArray, List.set_cons_zero, List.set_cons_succ, i64_w, i32_w]
                    rfl
                  refine pure_ (i := 1) (N := some 50) (v := ?_) (a' := ?_) #[true, true, false, false, false, false, false, false, false, false, false] rfl rfl (by kernel_rfl) (fun _ _ _ h => h) (Or.inl ⟨by rfl, ?_⟩) ?_ ?_
                  rotate_left
                  · intro w'
                    go_simp
                    with_reducible rfl
                  rotate_left
                  · simp only [Act.put, List.setIfInBounds_toArray, List.set_cons_zero, List.set_cons_succ, i64_w, i32_w]
                    rfl
                  refine pure_ (i := 3) (N := some 52) (v := ?_) (a' := ?_) #[true, true, false, true, false, false, false, false, false, false, false] rfl rfl (by kernel_rfl) (fun _ _ _ h => h) (Or.inl ⟨by rfl, ?_⟩) ?_ ?_
                  rotate_left
                  · intro w'
                    go_simp
                    with_reducible rfl
                  rotate_left
                  · simp only [Act.put, List.setIfInBounds_toArray, List.set_cons_zero, List.set_cons_succ, i64_w, i32_w]
                    rfl
                  refine pure_ (i := 5) (N := some 54) (v := ?_) (a' := ?_) #[true, true, false, true, false, true, false, false, false, false, false] rfl rfl (by kernel_rfl) (fun _ _ _ h => h) (Or.inl ⟨by rfl, ?_⟩) ?_ ?_
                  rotate_left
                  · intro w'
                    go_simp
                    with_reducible rfl
                  rotate_left
                  · simp only [Act.put, List.setIfInBounds_toArray, List.set_cons_zero, List.set_cons_succ, i64_w, i32_w]
                    rfl
                  refine pure_ (i := 6) (N := some 55) (v := ?_) (a' := ?_) #[true, true, false, true, false, true, true, false, false, false, false] rfl rfl (by kernel_rfl) (fun _ _ _ h => h) (Or.inl ⟨by rfl, ?_⟩) ?_ ?_
                  rotate_left
                  · intro w'
                    go_simp
                    with_reducible rfl
                  rotate_left
                  · simp only [Act.put, List.setIfInBounds_toArray, List.set_cons_zero, List.set_cons_succ, i64_w, i32_w]
                    rfl
                  refine pure_ (i := 8) (N := some 57) (v := ?_) (a' := ?_) #[true, true, false, true, false, true, true, false, true, false, false] rfl rfl (by kernel_rfl) (fun _ _ _ h => h) (Or.inl ⟨by rfl, ?_⟩) ?_ ?_
                  rotate_left
                  · intro w'
                    go_simp
                    with_reducible rfl
                  rotate_left
                  · simp only [Act.put, List.setIfInBounds_toArray, List.set_cons_zero, List.set_cons_succ, i64_w, i32_w]
                    rfl
                  refine take_ (i := 2) (N := some 51) (v := ?_) (a' := ?_) #[true, true, true, true, false, true, true, false, true, false, false] rfl rfl (by kernel_rfl) (fun _ _ _ h => h) (Or.inl ⟨by rfl, ?_⟩) hHeld ?_ ?_
                  rotate_left
                  · intro w' s0
                    go_simp
                    with_reducible rfl
                  rotate_left
                  · simp only [Act.put, List.setIfInBounds_toArray, List.set_cons_zero, List.set_cons_succ, i64_w, i32_w]
                    rfl
                  refine take_ (i := 7) (N := some 56) (v := ?_) (a' := ?_) #[true, true, true, true, false, true, true, true, true, false, false] rfl rfl (by kernel_rfl) (fun _ _ _ h => h) (Or.inl ⟨by rfl, ?_⟩) hHeld ?_ ?_
                  rotate_left
                  · intro w' s0
                    go_simp
                    with_reducible rfl
                  rotate_left
                  · simp only [Act.put, List.setIfInBounds_toArray, List.set_cons_zero, List.set_cons_succ, i64_w, i32_w]
                    rfl
                  refine one_ (i := 4) (N := some 53) #[true, true, true, true, true, true, true, true, true, false, false] rfl rfl (by kernel_rfl) (by decide) (fun K hK => ?_)
                  refine goes_ Try.func45 (by kernel_rfl) rfl #[.pointer (some ⟨g, 0, none⟩), .int .i64 (i : Int), .slice Ax 64 cx] (by rfl) rfl rfl (by simp only [List.map_toArray, List.map_cons, List.map_nil]; rfl) ?_
                  with_reducible refine (Disk.write_in A4.out.drew i (by have := AL.out; omega) (b := xs) (HX.out _ A4.out.drew.tail.tail.tail) hcx).mono ?_
                  rintro e w3 ⟨rfl, hS3⟩
                  refine ⟨_, rfl, ?_⟩
                  have A5 := Aside0.mk hS3.at2
                  clear hS3
                  refine hK.out _ _ ((A5.out.at3.cell 1).trans rfl) (fun hHeld => ?_)
                  clear hK K
                  refine norm_ (a' := ?_) ?_ ?_
                  rotate_left
                  · show Act.put _ (some 53) _ = _
                    simp only [Act.put, List.setIfInBounds_toArray, List.set_cons_zero, List.set_cons_succ, i64_w, i32_w]
                    rfl
                  refine last_ (i := 9) (N := some 58) #[true, true, true, true, true, true, true, true, true, true, false] rfl rfl (by kernel_rfl) (by decide) (fun K hK => ?_)
                  refine goes_ Try.func87 (by kernel_rfl) rfl #[.pointer (some ⟨gr, 0, none⟩), .int .i64 (i : Int), .slice Ax 64 cx] (by rfl) rfl rfl (by simp only [List.map_toArray, List.map_cons, List.map_nil]; rfl) ?_
                  with_reducible refine (rwrite_ A5.out AL.out AW.out (by have := AD.out; omega) i hi (b := xs) (fun W' h => HX.out W' h.tail.tail)).mono ?_
                  rintro e w4 ⟨rfl, hS4⟩
                  refine ⟨_, rfl, ?_⟩
                  have A6 := Aside0.mk hS4.at2
                  clear hS4
                  refine hK.out _ _ ?_
                  clear hK K
                  refine norm_ (a' := ?_) ?_ ?_
                  rotate_left
                  · show Act.put _ (some 58) _ = _
                    simp only [Act.put, List.setIfInBounds_toArray, List.set_cons_zero, List.set_cons_succ, i64_w, i32_w]
                    rfl
                  refine pure_ (i := 10) (N := some 59) (v := ?_) (a' := ?_) #[true, true, true, true, true, true, true, true, true, true, true] rfl rfl (by kernel_rfl) (fun _ _ _ h => h) (Or.inl ⟨by rfl, ?_⟩) ?_ ?_
                  rotate_left
                  · intro w'
                    go_simp
                    with_reducible rfl
                  rotate_left
                  · simp only [Act.put, List.setIfInBounds_toArray, List.set_cons_zero, List.set_cons_succ, i64_w, i32_w]
                    rfl
                  refine done_ (by kernel_rfl) ?_
                  clear z1
                  go_wp2_with fail
                  refine (same_ (A6.out) (AL.out)).mono ?_
                  rintro e wz ⟨rfl, hSz⟩
                  have AZ := Aside0.mk hSz
                  clear hSz
                  go_wp2_with fail
                  go_roundg (gk - 1)
                  case measure => have := AK.out; omega
                  case rel => exact ⟨j + 1, las, (fun j => if j = i then some xs else wt j), done + 1, by go_num, by have := AK.out; omega, by have := AD.out; omega, AL.out, upd_len AW.out HXL.out, Sep.weakR (L := [_, _]) AZ.out⟩
                · have hx3 : ¬ (0 ≤ x ∧ x < (n : Int)) ∨ nx ≠ 64 := by omega
                  have hx4 : ¬ (0 ≤ x ∧ x < (las.length : Int) / 64) ∨ nx ≠ 64 := by have := AL.out; omega
                  have AX3 := Aside0.mk hx3
                  have AX4 := Aside0.mk hx4
                  clear hx hx3 hx4 e4
                  go_wp2_with fail
                  refine start_ (n := 11) (S := fun w' => w'.cell? ⟨wr.heap.size, 1, none⟩ = some (.int .i64 x)) (ds := [9]) #[false, false, false, false, false, false, false, false, false, false, false] (by kernel_rfl) rfl rfl (z1) (fun hHeld => ?_)
                  refine pure_ (i := 0) (N := some 49) (v := ?_) (a' := ?_) #[true, false, false, false, false, false, false, false, false, false, false] rfl rfl (by kernel_rfl) (fun _ _ _ h => h) (Or.inl ⟨by rfl, ?_⟩) ?_ ?_
                  rotate_left
                  · intro w'
                    go_simp
                    with_reducible rfl
                  rotate_left
                  · simp only [Act.put, List.setIfInBounds_toArray, List.set_cons_zero, List.set_cons_succ, i64_w, i32_w]
                    rfl
                  refine pure_ (i := 1) (N := some 50) (v := ?_) (a' := ?_) #[true, true, false, false, false, false, false, false, false, false, false] rfl rfl (by kernel_rfl) (fun _ _ _ h => h) (Or.inl ⟨by rfl, ?_⟩) ?_ ?_
                  rotate_left
                  · intro w'
                    go_simp
                    with_reducible rfl
                  rotate_left
                  · simp only [Act.put, List.setIfInBounds_toArray, List.set_cons_zero, List.set_cons_succ, i64_w, i32_w]
                    rfl
                  refine pure_ (i := 3) (N := some 52) (v := ?_) (a' := ?_) #[true, true, false, true, false, false, false, false, false, false, false] rfl rfl (by kernel_rfl) (fun _ _ _ h => h) (Or.inl ⟨by rfl, ?_⟩) ?_ ?_
                  rotate_left
                  · intro w'
                    go_simp
                    with_reducible rfl
                  rotate_left
                  · simp only [Act.put, List.setIfInBounds_toArray, List.set_cons_zero, List.set_cons_succ, i64_w, i32_w]
                    rfl
                  refine pure_ (i := 5) (N := some 54) (v := ?_) (a' := ?_) #[true, true, false, true, false, true, false, false, false, false, false] rfl rfl (by kernel_rfl) (fun _ _ _ h => h) (Or.inl ⟨by rfl, ?_⟩) ?_ ?_
                  rotate_left
                  · intro w'
                    go_simp
                    with_reducible rfl
                  rotate_left
                  · simp only [Act.put, List.setIfInBounds_toArray, List.set_cons_zero, List.set_cons_succ, i64_w, i32_w]
                    rfl
                  refine pure_ (i := 6) (N := some 55) (v := ?_) (a' := ?_) #[true, true, false, true, false, true, true, false, false, false, false] rfl rfl (by kernel_rfl) (fun _ _ _ h => h) (Or.inl ⟨by rfl, ?_⟩) ?_ ?_
                  rotate_left
                  · intro w'
                    go_simp
                    with_reducible rfl
                  rotate_left
                  · simp only [Act.put, List.setIfInBounds_toArray, List.set_cons_zero, List.set_cons_succ, i64_w, i32_w]
                    rfl
                  refine pure_ (i := 8) (N := some 57) (v := ?_) (a' := ?_) #[true, true, false, true, false, true, true, false, true, false, false] rfl rfl (by kernel_rfl) (fun _ _ _ h => h) (Or.inl ⟨by rfl, ?_⟩) ?_ ?_
                  rotate_left
                  · intro w'
                    go_simp
                    with_reducible rfl
                  rotate_left
                  · simp only [Act.put, List.setIfInBounds_toArray, List.set_cons_zero, List.set_cons_succ, i64_w, i32_w]
                    rfl
                  refine take_ (i := 2) (N := some 51) (v := ?_) (a' := ?_) #[true, true, true, true, false, true, true, false, true, false, false] rfl rfl (by kernel_rfl) (fun _ _ _ h => h) (Or.inl ⟨by rfl, ?_⟩) hHeld ?_ ?_
                  rotate_left
                  · intro w' s0
                    go_simp
                    with_reducible rfl
                  rotate_left
                  · simp only [Act.put, List.setIfInBounds_toArray, List.set_cons_zero, List.set_cons_succ, i64_w, i32_w]
                    rfl
                  refine take_ (i := 7) (N := some 56) (v := ?_) (a' := ?_) #[true, true, true, true, false, true, true, true, true, false, false] rfl rfl (by kernel_rfl) (fun _ _ _ h => h) (Or.inl ⟨by rfl, ?_⟩) hHeld ?_ ?_
                  rotate_left
                  · intro w' s0
                    go_simp
                    with_reducible rfl
                  rotate_left
                  · simp only [Act.put, List.setIfInBounds_toArray, List.set_cons_zero, List.set_cons_succ, i64_w, i32_w]
                    rfl
                  refine one_ (i := 4) (N := some 53) #[true, true, true, true, true, true, true, true, true, false, false] rfl rfl (by kernel_rfl) (by decide) (fun K hK => ?_)
                  refine goes_ Try.func45 (by kernel_rfl) rfl #[.pointer (some ⟨g, 0, none⟩), .int .i64 x, .slice Ax nx cx] (by rfl) rfl rfl (by simp only [List.map_toArray, List.map_cons, List.map_nil]; rfl) ?_
                  with_reducible refine (Disk.write_out A4.out.drew x hxm AX4.out).mono ?_
                  rintro e w3 ⟨rfl, rfl⟩
                  refine ⟨_, rfl, ?_⟩
                  refine hK.out _ _ (z1) (fun hHeld => ?_)
                  clear hK K
                  refine norm_ (a' := ?_) ?_ ?_
                  rotate_left
                  · show Act.put _ (some 53) _ = _
                    simp only [Act.put, List.setIfInBounds_toArray, List.set_cons_zero, List.set_cons_succ, i64_w, i32_w]
                    rfl
                  refine last_ (i := 9) (N := some 58) #[true, true, true, true, true, true, true, true, true, true, false] rfl rfl (by kernel_rfl) (by decide) (fun K hK => ?_)
                  refine goes_ Try.func87 (by kernel_rfl) rfl #[.pointer (some ⟨gr, 0, none⟩), .int .i64 x, .slice Ax nx cx] (by rfl) rfl rfl (by simp only [List.map_toArray, List.map_cons, List.map_nil]; rfl) ?_
                  with_reducible refine (write_out A4.out.drew.at2 x hxm AX3.out).mono ?_
                  rintro e w4 ⟨rfl, rfl⟩
                  refine ⟨_, rfl, ?_⟩
                  have A6 := Aside0.mk A4.out.drew
                  refine hK.out _ _ ?_
                  clear hK K
                  refine norm_ (a' := ?_) ?_ ?_
                  rotate_left
                  · show Act.put _ (some 58) _ = _
                    simp only [Act.put, List.setIfInBounds_toArray, List.set_cons_zero, List.set_cons_succ, i64_w, i32_w]
                    rfl
                  refine pure_ (i := 10) (N := some 59) (v := ?_) (a' := ?_) #[true, true, true, true, true, true, true, true, true, true, true] rfl rfl (by kernel_rfl) (fun _ _ _ h => h) (Or.inl ⟨by rfl, ?_⟩) ?_ ?_
                  rotate_left
                  · intro w'
                    go_simp
                    with_reducible rfl
                  rotate_left
                  · simp only [Act.put, List.setIfInBounds_toArray, List.set_cons_zero, List.set_cons_succ, i64_w, i32_w]
                    rfl
                  refine done_ (by kernel_rfl) ?_
                  clear z1
                  go_wp2_with fail
                  refine (same_ (A6.out) (AL.out)).mono ?_
                  rintro e wz ⟨rfl, hSz⟩
                  have AZ := Aside0.mk hSz
                  clear hSz
                  go_wp2_with fail
                  go_roundg (gk - 1)
                  case measure => have := AK.out; omega
                  case rel => exact ⟨j + 1, las, wt, done, by go_num, by have := AK.out; omega, by have := AD.out; omega, AL.out, AW.out, Sep.weakR (L := [_, _]) AZ.out⟩
      · have hj' : ¬ ((j : Int) < (n1 : Int)) ∨ ¬ ((j : Int) < 60) := by omega
        clear hj hjk AK
        by_cases hq : (j : Int) < (n1 : Int)
        all_goals
          first
            | (have hj2 : ¬ ((j : Int) < 60) := by omega)
            | skip
          clear hj'
          go_wp2_with fail
          refine (same_ AS.out AL.out).mono ?_
          rintro e wz ⟨rfl, hSz⟩
          have AZ := Aside0.mk hSz
          clear hSz
          go_wp2_with fail
          go_ret
          exact ⟨by first | rfl | (simp; done), AZ.out.toBelow⟩
end Go.Proofs.Ytjngnigelkgekaa.Ref
