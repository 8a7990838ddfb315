/- Same, Ref6, Play, Root6, Root7, Root8, Root9, Root10, RootBack, Home1, Home2, RedoP, Redo1: what RedoNumbers needs. -/
import Derived.Test.YtjngnigelkgekaaTredoNumbers6
import Derived.Deep.QuietTactic
import Derived.Deep.Cut
import Derived.Deep.CutRange
namespace Go.Proofs.Ytjngnigelkgekaa.Book
set_option linter.unusedVariables false
set_option linter.unusedSimpArgs false
open Go.RowKit Go.Proofs.YtjngnigelkgekaaW.PrintWords Go.Proofs.YtjngnigelkgekaaW.PrintLast Go.Proofs.YtjngnigelkgekaaW.PrintMore Go.Proofs.Ytjngnigelkgekaa.Kit
theorem rd_eq {xs : List Int} {j : Nat} (h : j < xs.length) : rd xs (j : Int) = xs[j] := by
  unfold rd
  rw [Int.toNat_natCast, List.getD_eq_getElem?_getD, List.getElem?_eq_getElem h]
  rfl
set_option maxHeartbeats 800000 in
set_option maxRecDepth 100000 in
theorem sameI_ {A B : Option Addr} {n c m d : Nat} {xs ys : List Int} {w : World} (h1 : (Kd.int .i64).C w A n xs) (h2 : (Kd.int .i64).C w B m ys) :
    Calls Try.prog 57 #[.slice A n c, .slice B m d] w fun e w' => e = .returned (.bool (decide (xs = ys))) ∧ Below w.heap.size w w' := by
  obtain rfl : xs.length = n := h1.1
  obtain rfl : ys.length = m := h2.1
  have hm1 : xs.length ≤ 9223372036854775807 := h1.2.1
  have hm2 : ys.length ≤ 9223372036854775807 := h2.2.1
  have H1 := Aside0.mk h1
  have H2 := Aside0.mk h2
  clear h1 h2
  by_cases hl : xs.length = ys.length
  · have hl' : (xs.length : Int) = (ys.length : Int) := by omega
    go_enter Try.func57, Try.ntmps57
    go_wp2_with fail
    go_loopg [5] xs.length (fun k p wr => ∃ j : Nat, p = .int .i64 (j : Int) ∧ j + k = xs.length ∧ Below w.heap.size w wr ∧ ∀ i, i < j → xs[i]? = ys[i]?)
    case atStart => exact ⟨0, rfl, by omega, Below.refl _ _, fun i hi => by omega⟩
    case round =>
      obtain ⟨j, rfl, hjk, hB, hp⟩ := hrel
      have AB := Aside0.mk hB
      have AP := Aside0.mk hp
      have AK := Aside0.mk hjk
      clear hB hp
      by_cases hj : j < xs.length
      · clear hjk
        obtain ⟨ad, hA, hc⟩ := Kd.at_int (Kd.C_below H1.out AB.out) (j : Int) (by omega) (by omega)
        obtain ⟨bd, hB, hd⟩ := Kd.at_int (Kd.C_below H2.out AB.out) (j : Int) (by omega) (by omega)
        subst hA hB
        rw [Int.toNat_natCast] at hc hd
        have AR : Aside0 (rd xs (j : Int) = xs[j]) := ⟨rd_eq hj⟩
        have AS : Aside0 (rd ys (j : Int) = ys[j]) := ⟨rd_eq (by omega)⟩
        generalize rd xs (j : Int) = x at *
        generalize rd ys (j : Int) = y at *
        by_cases hxy : x = y
        · go_wp2_with fail
          go_quiet (fail)
          go_wp2_with fail
          go_roundg (gk - 1)
          case measure => have := AK.out; omega
          case rel => exact ⟨j + 1, by go_num, by have := AK.out; omega, pw_below_drewN AB.out _, fun i hi => by
            by_cases hij : i < j
            · exact AP.out i hij
            · obtain rfl : i = j := by omega
              rw [List.getElem?_eq_getElem hj, List.getElem?_eq_getElem (by omega), ← AR.out, ← AS.out, hxy]⟩
        · have hne : xs ≠ ys := fun h => hxy (by rw [AR.out, AS.out]; exact List.getElem_of_eq h hj)
          have ANE := Aside0.mk hne
          have hb : (x != y) = true := by simpa using hxy
          clear hne
          go_wp2_with fail
          go_quiet (fail)
          go_wp2_with fail
          go_ret
          exact ⟨by rw [decide_eq_false ANE.out]; rfl, pw_below_drewN AB.out _⟩
      · have hq : xs = ys := List.ext_getElem? (fun i => by
          by_cases hi : i < j
          · exact AP.out i hi
          · rw [List.getElem?_eq_none (by omega), List.getElem?_eq_none (by omega)])
        have AQ := Aside0.mk hq
        clear hq hjk
        go_wp2_with fail
        go_ret
        exact ⟨by rw [decide_eq_true AQ.out]; rfl, AB.out⟩
  · have hne : xs ≠ ys := fun h => hl (by rw [h])
    have ANE := Aside0.mk hne
    have hl' : ¬ (xs.length : Int) = (ys.length : Int) := by omega
    clear hne
    go_enter Try.func57, Try.ntmps57
    go_wp2_with fail
    go_ret
    exact ⟨by rw [decide_eq_false ANE.out]; rfl, Below.refl _ _⟩
end Go.Proofs.Ytjngnigelkgekaa.Book
namespace Go.Proofs.Ytjngnigelkgekaa.Kit.Sep
open Go.Proofs.Ytjngnigelkgekaa.Kit
theorem rot24 {w0 W : World} {a b c d e f : HP} {F : List HP} (h : Sep w0 W (a :: b :: c :: d :: e :: f :: F)) : Sep w0 W (c :: d :: e :: f :: a :: b :: F) :=
  h.perm ((List.perm_append_comm (l₁ := [a, b]) (l₂ := [c, d, e, f])).append_right F)
end Go.Proofs.Ytjngnigelkgekaa.Kit.Sep
namespace Go.Proofs.Ytjngnigelkgekaa.Ref
set_option linter.unusedVariables false
set_option linter.unusedSimpArgs false
open Go.RowKit Go.Proofs.YtjngnigelkgekaaW.PrintWords Go.Proofs.YtjngnigelkgekaaW.PrintLast Go.Proofs.YtjngnigelkgekaaW.PrintMore Go.Proofs.Ytjngnigelkgekaa.Kit Go.Proofs.Ytjngnigelkgekaa.Disk
section
variable {w0 W : World} {g gr n : Nat} {las : List Int} {left done : Int} {F : List HP} {wt : Wt}
theorem bsame_ {A B : Option Addr} {k m c d : Nat} {xs : List Int} {w : World} (h1 : I64.C w A k xs) (h2 : I64.C w B m xs) :
    Calls Try.prog 57 #[.slice A k c, .slice B m d] w fun e w' => e = .returned (.bool true) ∧ Below w.heap.size w w' := by
  refine (Book.sameI_ h1 h2).mono ?_
  rintro e w' ⟨rfl, hb⟩
  exact ⟨by rw [decide_eq_true rfl], hb⟩
theorem rwaits_ (h : Sep w0 W (RD gr n las (flushed las wt) (waitL n wt) left done :: F)) (hl : las.length = 64 * n) :
    Calls Try.prog 128 #[.pointer (some ⟨gr, 0, none⟩)] W fun e w' => ∃ v, e = .returned v ∧ Sep w0 w' (Row I64 3 v (keysI las wt) :: RD gr n las (flushed las wt) (waitL n wt) left done :: F) := by
  refine (waits_ h).mono ?_
  rintro e w' ⟨v, rfl, hS⟩
  rw [waits_keys] at hS
  refine ⟨v, rfl, ?_⟩
  unfold keysI
  rwa [show las.length / 64 = n by omega]
end
end Go.Proofs.Ytjngnigelkgekaa.Ref
namespace Go.Proofs.Ytjngnigelkgekaa.Ref
set_option linter.unusedVariables false
set_option linter.unusedSimpArgs false
open Go.RowKit Go.Proofs.YtjngnigelkgekaaW.PrintWords Go.Proofs.YtjngnigelkgekaaW.PrintLast Go.Proofs.YtjngnigelkgekaaW.PrintMore Go.Proofs.Ytjngnigelkgekaa.Kit Go.Proofs.Ytjngnigelkgekaa.Disk
section
variable {w0 W : World} {g gr n : Nat} {las : List Int} {done : Nat} {F : List HP} {wt : Wt}
theorem rwrite_ (h : Sep w0 W (RD gr n las (flushed las wt) (waitL n wt) (-1) (done : Int) :: F)) (hl : las.length = 64 * n) (hw : ∀ i b, wt i = some b → b.length = 64) (hd : done ≤ 1000) (i : Nat) (hi : i < n) {A : Option Addr} {c : Nat} {b : List Int} (hb : ∀ W', Sep w0 W' F → U8.C W' A 64 b) :
    Calls Try.prog 87 #[.pointer (some ⟨gr, 0, none⟩), .int .i64 (i : Int), .slice A 64 c] W fun e w' => e = .returned (.bool true) ∧ Sep w0 w' (RD gr n las (flushed las (fun j => if j = i then some b else wt j)) (waitL n (fun j => if j = i then some b else wt j)) (-1) ((done + 1 : Nat) : Int) :: F) := by
  refine (write_in h (by decide) (by decide) (by omega) i hi hb).mono ?_
  rintro e w' ⟨rfl, hS⟩
  refine ⟨rfl, ?_⟩
  rw [← flushed_write hl hw hi (hb W h.tail).1, ← waitL_set wt i b]
  exact hS
theorem rread_ (h : Sep w0 W (RD gr n las (flushed las wt) (waitL n wt) (-1) (done : Int) :: F)) (hl : las.length = 64 * n) (hw : ∀ i b, wt i = some b → b.length = 64) (i : Nat) (hi : i < n) :
    Calls Try.prog 99 #[.pointer (some ⟨gr, 0, none⟩), .int .i64 (i : Int)] W fun e w' => ∃ v, e = .returned (.tuple #[v, .bool true]) ∧ Sep w0 w' (Row U8 5 v ((wt i).getD (sec las i)) :: RD gr n las (flushed las wt) (waitL n wt) (-1) (done : Int) :: F) := by
  refine (read_in h i hi).mono ?_
  rintro e w' ⟨v, rfl, hS⟩
  rw [sec_flushed hl hw hi] at hS
  exact ⟨v, rfl, hS⟩
theorem got_len (hl : las.length = 64 * n) (hw : ∀ i b, wt i = some b → b.length = 64) {i : Nat} (hi : i < n) : ((wt i).getD (sec las i)).length = 64 := by
  cases h : wt i with
  | none => exact sec_len (by omega)
  | some b => exact hw i b h
theorem upd_len {i : Nat} {b : List Int} (hw : ∀ i b, wt i = some b → b.length = 64) (hb : b.length = 64) : ∀ k c, (fun j => if j = i then some b else wt j) k = some c → c.length = 64 := fun k c h => by
  by_cases hki : k = i
  · simp only [if_pos hki] at h; injection h with h; rw [← h]; exact hb
  · simp only [if_neg hki] at h; exact hw k c h
theorem none_len : ∀ (i : Nat) (b : List Int), (fun _ => none : Wt) i = some b → b.length = 64 := fun i b h => by cases h
end
end Go.Proofs.Ytjngnigelkgekaa.Ref
namespace Go.Proofs.Ytjngnigelkgekaa.Root
set_option linter.unusedVariables false
set_option linter.unusedSimpArgs false
open Go.RowKit Go.Proofs.YtjngnigelkgekaaW.PrintWords Go.Proofs.YtjngnigelkgekaaW.PrintLast Go.Proofs.YtjngnigelkgekaaW.PrintMore Go.Proofs.Ytjngnigelkgekaa.Kit Go.Proofs.Ytjngnigelkgekaa.Plain Go.Proofs.Ytjngnigelkgekaa.Disk
/-- What a sector reads as: nothing, where there is none. -/
def secF (n : Nat) (las : List Int) (wt : Wt) (j : Nat) : List Int := if j < n then (wt j).getD (sec las j) else []
theorem secF_len {n : Nat} {las : List Int} {wt : Wt} (hl : las.length = 64 * n) (hw : ∀ i b, wt i = some b → b.length = 64) (j : Nat) : (secF n las wt j).length = if j < n then 64 else 0 := by
  unfold secF
  by_cases h : j < n
  · rw [if_pos h, if_pos h]; exact Ref.got_len hl hw h
  · rw [if_neg h, if_neg h]; rfl
section
variable {w0 W : World} {F : List HP} {g n : Nat} {las : List Int} {wt : Wt}
end
end Go.Proofs.Ytjngnigelkgekaa.Root
namespace Go.Proofs.Ytjngnigelkgekaa.Root
set_option linter.unusedVariables false
set_option linter.unusedSimpArgs false
open Go.RowKit Go.Proofs.YtjngnigelkgekaaW.PrintWords Go.Proofs.YtjngnigelkgekaaW.PrintLast Go.Proofs.YtjngnigelkgekaaW.PrintMore Go.Proofs.Ytjngnigelkgekaa.Kit Go.Proofs.Ytjngnigelkgekaa.Plain Go.Proofs.Ytjngnigelkgekaa.Disk Go.Proofs.Ytjngnigelkgekaa.Ref
section
variable {w0 W : World} {F : List HP} {g n : Nat} {las : List Int} {wt : Wt} {done : Nat}
end
end Go.Proofs.Ytjngnigelkgekaa.Root
namespace Go.Proofs.Ytjngnigelkgekaa.Root
set_option linter.unusedVariables false
set_option linter.unusedSimpArgs false
open Go.RowKit Go.Proofs.YtjngnigelkgekaaW.PrintWords Go.Proofs.YtjngnigelkgekaaW.PrintLast Go.Proofs.YtjngnigelkgekaaW.PrintMore Go.Proofs.Ytjngnigelkgekaa.Kit Go.Proofs.Ytjngnigelkgekaa.Base Go.Proofs.Ytjngnigelkgekaa.Plain
end Go.Proofs.Ytjngnigelkgekaa.Root
namespace Go.Proofs.Ytjngnigelkgekaa.Root
set_option linter.unusedVariables false
set_option linter.unusedSimpArgs false
open Go.RowKit Go.Proofs.YtjngnigelkgekaaW.PrintWords Go.Proofs.YtjngnigelkgekaaW.PrintLast Go.Proofs.YtjngnigelkgekaaW.PrintMore Go.Proofs.Ytjngnigelkgekaa.Kit Go.Proofs.Ytjngnigelkgekaa.Plain Go.Proofs.Ytjngnigelkgekaa.Disk
/-- A write that goes in where it may. -/
def putW (n : Nat) (wt : Wt) (i : Nat) (b : List Int) : Wt := if i < n ∧ b.length = 64 then (fun j => if j = i then some b else wt j) else wt
theorem putW_len {n : Nat} {wt : Wt} {i : Nat} {b : List Int} (hw : ∀ i b, wt i = some b → b.length = 64) : ∀ k c, putW n wt i b k = some c → c.length = 64 := by
  unfold putW
  by_cases h : i < n ∧ b.length = 64
  · rw [if_pos h]; exact Ref.upd_len hw h.2
  · rw [if_neg h]; exact hw
theorem secF_bytes {n : Nat} {las : List Int} {wt : Wt} (hl : Bytes las) (hw : ∀ i b, wt i = some b → Bytes b) (j : Nat) : Bytes (secF n las wt j) := by
  unfold secF
  by_cases h : j < n
  · rw [if_pos h]
    cases hj : wt j with
    | none => exact (hl.drop _).take _
    | some b => exact hw j b hj
  · rw [if_neg h]; exact Bytes.nil
section
variable {w0 W : World} {F : List HP} {g n : Nat} {las : List Int} {wt : Wt}
theorem dwrite_ (h : Sep w0 W (Dsk g las wt :: F)) (hl : las.length = 64 * n) (hn : n ≤ 160) (i : Nat) {A : Option Addr} {m c : Nat} {b : List Int} (hb : U8.C W A m b) (hc : m ≤ c) :
    Calls Try.prog 45 #[.pointer (some ⟨g, 0, none⟩), .int .i64 (i : Int), .slice A m c] W fun e w' => e = .returned (.bool (decide (i < n ∧ b.length = 64))) ∧ Sep w0 w' (Dsk g las (putW n wt i b) :: F) := by
  obtain rfl : b.length = m := hb.1
  by_cases hi : i < n ∧ b.length = 64
  · rw [decide_eq_true hi]
    obtain ⟨h1, h2⟩ := hi
    have hp : putW n wt i b = (fun j => if j = i then some b else wt j) := if_pos ⟨h1, h2⟩
    rw [hp]
    rw [h2] at hb hc ⊢
    exact write_in h i (by omega) hb hc
  · rw [decide_eq_false hi]
    refine (write_out h (i : Int) hb.2.1 (by omega)).mono ?_
    rintro e w' ⟨rfl, rfl⟩
    rw [show putW n wt i b = wt from if_neg hi]
    exact ⟨rfl, h⟩
end
end Go.Proofs.Ytjngnigelkgekaa.Root
namespace Go.Proofs.Ytjngnigelkgekaa.Root
set_option linter.unusedVariables false
set_option linter.unusedSimpArgs false
open Go.RowKit Go.Proofs.YtjngnigelkgekaaW.PrintWords Go.Proofs.YtjngnigelkgekaaW.PrintLast Go.Proofs.YtjngnigelkgekaaW.PrintMore Go.Proofs.Ytjngnigelkgekaa.Kit Go.Proofs.Ytjngnigelkgekaa.Plain Go.Proofs.Ytjngnigelkgekaa.Disk
end Go.Proofs.Ytjngnigelkgekaa.Root
namespace Go.Proofs.Ytjngnigelkgekaa.Root
set_option linter.unusedVariables false
set_option linter.unusedSimpArgs false
open Go.RowKit Go.Proofs.YtjngnigelkgekaaW.PrintWords Go.Proofs.YtjngnigelkgekaaW.PrintLast Go.Proofs.YtjngnigelkgekaaW.PrintMore Go.Proofs.Ytjngnigelkgekaa.Kit Go.Proofs.Ytjngnigelkgekaa.Plain Go.Proofs.Ytjngnigelkgekaa.Disk
end Go.Proofs.Ytjngnigelkgekaa.Root
namespace Go.Proofs.Ytjngnigelkgekaa.Home
set_option linter.unusedVariables false
set_option linter.unusedSimpArgs false
open Go.RowKit Go.Proofs.YtjngnigelkgekaaW.PrintWords Go.Proofs.YtjngnigelkgekaaW.PrintLast Go.Proofs.YtjngnigelkgekaaW.PrintMore Go.Proofs.Ytjngnigelkgekaa.Kit Go.Proofs.Ytjngnigelkgekaa.Plain Go.Proofs.Ytjngnigelkgekaa.Disk Go.Proofs.Ytjngnigelkgekaa.Root
abbrev K2 : Kd (List Int) := Kd.slice 5 (Kd.int .u8)
section
variable {w0 W : World} {F : List HP} {g n : Nat} {las : List Int} {wt : Wt}
theorem infoS : (Try.prog.info? 30).map (fun i => (i.zero, i.size, i.bytes)) = some (some (.slice none 0 0), 1, 24) := by kernel_rfl
end
end Go.Proofs.Ytjngnigelkgekaa.Home
namespace Go.Proofs.Ytjngnigelkgekaa.Ref
set_option linter.unusedVariables false
set_option linter.unusedSimpArgs false
open Go.RowKit Go.Proofs.YtjngnigelkgekaaW.PrintWords Go.Proofs.YtjngnigelkgekaaW.PrintLast Go.Proofs.YtjngnigelkgekaaW.PrintMore Go.Proofs.Ytjngnigelkgekaa.Kit Go.Proofs.Ytjngnigelkgekaa.Disk
section
variable {w0 W : World} {g gr n : Nat} {las : List Int} {left done : Int} {F : List HP} {wt : Wt}
set_option maxHeartbeats 3200000 in
set_option maxRecDepth 100000 in
theorem alike16_ (h : Sep w0 W (Dsk g las wt :: RD gr n las (flushed las wt) (waitL n wt) left done :: F)) (hl : las.length = 64 * n) :
    Calls Try.prog 108 #[.pointer (some ⟨g, 0, none⟩), .pointer (some ⟨gr, 0, none⟩)] W fun e w' => e = .returned (.bool true) ∧ Sep w0 w' (Dsk g las wt :: RD gr n las (flushed las wt) (waitL n wt) left done :: F) := by
  have H0 := Aside0.mk h
  obtain ⟨gl, cl, gn, cn, gw, cw, ⟨n1, n2, n3, n4, n5, n6, n7, n8⟩, hs⟩ := open_ h.drew.at2
  have AS := Aside0.mk hs
  have HN := Aside0.mk (And.intro n3 (And.intro n4 n5))
  have HL := Aside0.mk hl
  have c0 : W.drew.cell? ⟨gr, 0, none⟩ = some (.slice (some ⟨gl, 0, none⟩) (64 * n) cl) := (hs.cell 0).trans rfl
  have c1 : W.drew.cell? ⟨gr, 1, none⟩ = some (.slice (some ⟨gn, 0, none⟩) (64 * n) cn) := (hs.cell 1).trans rfl
  have s0 := str_ hs.at2
  have s1 := str_ hs.at3
  clear h hs n3 n4 n5 hl
  go_enter Try.func108, Try.ntmps108
  go_wp2_with fail
  refine start_ (n := 28) (S := fun w' => w'.cell? ⟨gr, 0, none⟩ = some (.slice (some ⟨gl, 0, none⟩) (64 * n) cl) ∧ w'.cell? ⟨gr, 1, none⟩ = some (.slice (some ⟨gn, 0, none⟩) (64 * n) cn) ∧ (convert 30 9 (.slice (some ⟨gl, 0, none⟩) (64 * n) cl)).run Try.prog w' = .ok (.string (strOfNums las)) w' ∧ (convert 30 9 (.slice (some ⟨gn, 0, none⟩) (64 * n) cn)).run Try.prog w' = .ok (.string (strOfNums (flushed las wt))) w') (ds := [24, 25]) #[false, false, false, false, false, false, false, false, false, false, false, false, false, false, false, false, false, false, false, false, false, false, false, false, false, false, false, false] (by kernel_rfl) rfl rfl ⟨c0, c1, s0, s1⟩ (fun hHeld => ?_)
  refine pure_ (i := 0) (N := some 5) (v := ?_) (a' := ?_) #[true, false, false, false, false, false, false, false, false, false, false, false, false, false, false, false, false, false, false, false, false, false, false, false, false, false, false, false] rfl rfl (by kernel_rfl) (fun _ _ _ h => h) (Or.inl ⟨by rfl, ?_⟩) ?_ ?_
  rotate_left
  · intro w'
    go_simp
    with_reducible rfl
  rotate_left
  · simp only [Act.put, List.setIfInBounds_toArray, List.set_cons_zero, List.set_cons_succ, i64_w, i32_w]
    rfl
  refine pure_ (i := 3) (N := some 8) (v := ?_) (a' := ?_) #[true, false, false, true, false, false, false, false, false, false, false, false, false, false, false, false, false, false, false, false, false, false, false, false, false, false, false, false] rfl rfl (by kernel_rfl) (fun _ _ _ h => h) (Or.inl ⟨by rfl, ?_⟩) ?_ ?_
  rotate_left
  · intro w'
    go_simp
    with_reducible rfl
  rotate_left
  · simp only [Act.put, List.setIfInBounds_toArray, List.set_cons_zero, List.set_cons_succ, i64_w, i32_w]
    rfl
  refine pure_ (i := 4) (N := some 9) (v := ?_) (a' := ?_) #[true, false, false, true, true, false, false, false, false, false, false, false, false, false, false, false, false, false, false, false, false, false, false, false, false, false, false, false] rfl rfl (by kernel_rfl) (fun _ _ _ h => h) (Or.inl ⟨by rfl, ?_⟩) ?_ ?_
  rotate_left
  · intro w'
    go_simp
    with_reducible rfl
  rotate_left
  · simp only [Act.put, List.setIfInBounds_toArray, List.set_cons_zero, List.set_cons_succ, i64_w, i32_w]
    rfl
  refine pure_ (i := 5) (N := some 10) (v := ?_) (a' := ?_) #[true, false, false, true, true, true, false, false, false, false, false, false, false, false, false, false, false, false, false, false, false, false, false, false, false, false, false, false] rfl rfl (by kernel_rfl) (fun _ _ _ h => h) (Or.inl ⟨by rfl, ?_⟩) ?_ ?_
  rotate_left
  · intro w'
    go_simp
    with_reducible rfl
  rotate_left
  · simp only [Act.put, List.setIfInBounds_toArray, List.set_cons_zero, List.set_cons_succ, i64_w, i32_w]
    rfl
  refine take_ (i := 6) (N := some 11) (v := ?_) (a' := ?_) #[true, false, false, true, true, true, true, false, false, false, false, false, false, false, false, false, false, false, false, false, false, false, false, false, false, false, false, false] rfl rfl (by kernel_rfl) (fun _ _ _ h => h) (Or.inl ⟨by rfl, ?_⟩) hHeld ?_ ?_
  rotate_left
  · rintro w' ⟨s0, s1, s2, s3⟩
    go_simp
    with_reducible rfl
  rotate_left
  · simp only [Act.put, List.setIfInBounds_toArray, List.set_cons_zero, List.set_cons_succ, i64_w, i32_w]
    rfl
  refine take_ (i := 7) (N := some 12) (v := ?_) (a' := ?_) #[true, false, false, true, true, true, true, true, false, false, false, false, false, false, false, false, false, false, false, false, false, false, false, false, false, false, false, false] rfl rfl (by kernel_rfl) (fun _ _ _ h => h) (Or.inl ⟨by rfl, ?_⟩) hHeld ?_ ?_
  rotate_left
  · rintro w' ⟨s0, s1, s2, s3⟩
    go_simp
    with_reducible rfl
  rotate_left
  · simp only [Act.put, List.setIfInBounds_toArray, List.set_cons_zero, List.set_cons_succ, i64_w, i32_w]
    rfl
  refine one_ (i := 1) (N := some 6) #[true, true, false, true, true, true, true, true, false, false, false, false, false, false, false, false, false, false, false, false, false, false, false, false, false, false, false, false] rfl rfl (by kernel_rfl) (by decide) (fun K hK => ?_)
  refine goes_ Try.func48 (by kernel_rfl) rfl #[.pointer (some ⟨g, 0, none⟩)] (by rfl) rfl rfl (by simp only [List.map_toArray, List.map_cons, List.map_nil]; rfl) ?_
  with_reducible refine (image_ (W := W.drew) AS.out.at5).mono ?_
  rintro e w3 ⟨v3, rfl, hS3⟩
  refine ⟨_, rfl, ?_⟩
  obtain ⟨A3, c3, rfl⟩ := hS3.rowN HL.out
  have hs3 := str_ hS3
  have AS3 := Aside0.mk hS3.tail
  clear hS3
  refine hK.out _ _ ⟨(AS3.out.at2.cell 0).trans rfl, (AS3.out.at2.cell 1).trans rfl, str_ AS3.out.at3, str_ AS3.out.at4⟩ (fun hHeld => ?_)
  clear hK K
  refine norm_ (a' := ?_) ?_ ?_
  rotate_left
  · show Act.put _ (some 6) _ = _
    simp only [Act.put, List.setIfInBounds_toArray, List.set_cons_zero, List.set_cons_succ, i64_w, i32_w]
    rfl
  refine one_ (i := 2) (N := some 7) #[true, true, true, true, true, true, true, true, false, false, false, false, false, false, false, false, false, false, false, false, false, false, false, false, false, false, false, false] rfl rfl (by kernel_rfl) (by decide) (fun K hK => ?_)
  refine value_ (w1 := ?_) (v := ?_) (by rfl) rfl ?_ ?_
  rotate_left 2
  · go_simp
    constructor
    · rfl
    · rfl
  refine hK.out _ _ ⟨(AS3.out.at2.cell 0).trans rfl, (AS3.out.at2.cell 1).trans rfl, str_ AS3.out.at3, str_ AS3.out.at4⟩ (fun hHeld => ?_)
  clear hK K
  refine norm_ (a' := ?_) ?_ ?_
  rotate_left
  · show Act.put _ (some 7) _ = _
    simp only [Act.put, List.setIfInBounds_toArray, List.set_cons_zero, List.set_cons_succ, i64_w, i32_w]
    rfl
  refine pure_ (i := 8) (N := some 13) (v := ?_) (a' := ?_) #[true, true, true, true, true, true, true, true, true, false, false, false, false, false, false, false, false, false, false, false, false, false, false, false, false, false, false, false] rfl rfl (by kernel_rfl) (fun _ _ _ h => h) (Or.inl ⟨by rfl, ?_⟩) ?_ ?_
  rotate_left
  · intro w'
    go_simp
    with_reducible rfl
  rotate_left
  · simp only [Act.put, List.setIfInBounds_toArray, List.set_cons_zero, List.set_cons_succ, i64_w, i32_w]
    rfl
  refine pure_ (i := 9) (N := some 14) (v := ?_) (a' := ?_) #[true, true, true, true, true, true, true, true, true, true, false, false, false, false, false, false, false, false, false, false, false, false, false, false, false, false, false, false] rfl rfl (by kernel_rfl) (fun _ _ _ h => h) (Or.inl ⟨by rfl, ?_⟩) ?_ ?_
  rotate_left
  · intro w'
    go_simp
    with_reducible rfl
  rotate_left
  · simp only [Act.put, List.setIfInBounds_toArray, List.set_cons_zero, List.set_cons_succ, i64_w, i32_w]
    rfl
  refine pure_ (i := 10) (N := some 15) (v := ?_) (a' := ?_) #[true, true, true, true, true, true, true, true, true, true, true, false, false, false, false, false, false, false, false, false, false, false, false, false, false, false, false, false] rfl rfl (by kernel_rfl) (fun _ _ _ h => h) (Or.inl ⟨by rfl, ?_⟩) ?_ ?_
  rotate_left
  · intro w'
    go_simp
    with_reducible rfl
  rotate_left
  · simp only [Act.put, List.setIfInBounds_toArray, List.set_cons_zero, List.set_cons_succ, i64_w, i32_w]
    rfl
  refine pure_ (i := 13) (N := some 18) (v := ?_) (a' := ?_) #[true, true, true, true, true, true, true, true, true, true, true, false, false, true, false, false, false, false, false, false, false, false, false, false, false, false, false, false] rfl rfl (by kernel_rfl) (fun _ _ _ h => h) (Or.inl ⟨by rfl, ?_⟩) ?_ ?_
  rotate_left
  · intro w'
    go_simp
    with_reducible rfl
  rotate_left
  · simp only [Act.put, List.setIfInBounds_toArray, List.set_cons_zero, List.set_cons_succ, i64_w, i32_w]
    rfl
  refine pure_ (i := 14) (N := some 19) (v := ?_) (a' := ?_) #[true, true, true, true, true, true, true, true, true, true, true, false, false, true, true, false, false, false, false, false, false, false, false, false, false, false, false, false] rfl rfl (by kernel_rfl) (fun _ _ _ h => h) (Or.inl ⟨by rfl, ?_⟩) ?_ ?_
  rotate_left
  · intro w'
    go_simp
    with_reducible rfl
  rotate_left
  · simp only [Act.put, List.setIfInBounds_toArray, List.set_cons_zero, List.set_cons_succ, i64_w, i32_w]
    rfl
  refine pure_ (i := 15) (N := some 20) (v := ?_) (a' := ?_) #[true, true, true, true, true, true, true, true, true, true, true, false, false, true, true, true, false, false, false, false, false, false, false, false, false, false, false, false] rfl rfl (by kernel_rfl) (fun _ _ _ h => h) (Or.inl ⟨by rfl, ?_⟩) ?_ ?_
  rotate_left
  · intro w'
    go_simp
    with_reducible rfl
  rotate_left
  · simp only [Act.put, List.setIfInBounds_toArray, List.set_cons_zero, List.set_cons_succ, i64_w, i32_w]
    rfl
  refine take_ (i := 16) (N := some 21) (v := ?_) (a' := ?_) #[true, true, true, true, true, true, true, true, true, true, true, false, false, true, true, true, true, false, false, false, false, false, false, false, false, false, false, false] rfl rfl (by kernel_rfl) (fun _ _ _ h => h) (Or.inl ⟨by rfl, ?_⟩) hHeld ?_ ?_
  rotate_left
  · rintro w' ⟨s0, s1, s2, s3⟩
    go_simp
    with_reducible rfl
  rotate_left
  · simp only [Act.put, List.setIfInBounds_toArray, List.set_cons_zero, List.set_cons_succ, i64_w, i32_w]
    rfl
  refine take_ (i := 17) (N := some 22) (v := ?_) (a' := ?_) #[true, true, true, true, true, true, true, true, true, true, true, false, false, true, true, true, true, true, false, false, false, false, false, false, false, false, false, false] rfl rfl (by kernel_rfl) (fun _ _ _ h => h) (Or.inl ⟨by rfl, ?_⟩) hHeld ?_ ?_
  rotate_left
  · rintro w' ⟨s0, s1, s2, s3⟩
    go_simp
    with_reducible rfl
  rotate_left
  · simp only [Act.put, List.setIfInBounds_toArray, List.set_cons_zero, List.set_cons_succ, i64_w, i32_w]
    rfl
  refine one_ (i := 11) (N := some 16) #[true, true, true, true, true, true, true, true, true, true, true, true, false, true, true, true, true, true, false, false, false, false, false, false, false, false, false, false] rfl rfl (by kernel_rfl) (by decide) (fun K hK => ?_)
  refine goes_ Try.func24 (by kernel_rfl) rfl #[.pointer (some ⟨g, 0, none⟩)] (by rfl) rfl rfl (by simp only [List.map_toArray, List.map_cons, List.map_nil]; rfl) ?_
  with_reducible refine (seen_ AS3.out).mono ?_
  rintro e w4 ⟨v4, rfl, hS4⟩
  refine ⟨_, rfl, ?_⟩
  obtain ⟨A4, c4, rfl⟩ := hS4.rowN HN.out.2.1
  have hs4 := str_ hS4
  have AS4 := Aside0.mk hS4.tail
  clear hS4
  refine hK.out _ _ ⟨(AS4.out.at2.cell 0).trans rfl, (AS4.out.at2.cell 1).trans rfl, str_ AS4.out.at3, str_ AS4.out.at4⟩ (fun hHeld => ?_)
  clear hK K
  refine norm_ (a' := ?_) ?_ ?_
  rotate_left
  · show Act.put _ (some 16) _ = _
    simp only [Act.put, List.setIfInBounds_toArray, List.set_cons_zero, List.set_cons_succ, i64_w, i32_w]
    rfl
  refine one_ (i := 12) (N := some 17) #[true, true, true, true, true, true, true, true, true, true, true, true, true, true, true, true, true, true, false, false, false, false, false, false, false, false, false, false] rfl rfl (by kernel_rfl) (by decide) (fun K hK => ?_)
  refine value_ (w1 := ?_) (v := ?_) (by rfl) rfl ?_ ?_
  rotate_left 2
  · go_simp
    constructor
    · rfl
    · rfl
  refine hK.out _ _ ⟨(AS4.out.at2.cell 0).trans rfl, (AS4.out.at2.cell 1).trans rfl, str_ AS4.out.at3, str_ AS4.out.at4⟩ (fun hHeld => ?_)
  clear hK K
  refine norm_ (a' := ?_) ?_ ?_
  rotate_left
  · show Act.put _ (some 17) _ = _
    simp only [Act.put, List.setIfInBounds_toArray, List.set_cons_zero, List.set_cons_succ, i64_w, i32_w]
    rfl
  refine pure_ (i := 18) (N := some 23) (v := ?_) (a' := ?_) #[true, true, true, true, true, true, true, true, true, true, true, true, true, true, true, true, true, true, true, false, false, false, false, false, false, false, false, false] rfl rfl (by kernel_rfl) (fun _ _ _ h => h) (Or.inl ⟨by rfl, ?_⟩) ?_ ?_
  rotate_left
  · intro w'
    go_simp
    with_reducible rfl
  rotate_left
  · simp only [Act.put, List.setIfInBounds_toArray, List.set_cons_zero, List.set_cons_succ, i64_w, i32_w]
    rfl
  refine pure_ (i := 19) (N := some 24) (v := ?_) (a' := ?_) #[true, true, true, true, true, true, true, true, true, true, true, true, true, true, true, true, true, true, true, true, false, false, false, false, false, false, false, false] rfl rfl (by kernel_rfl) (fun _ _ _ h => h) (Or.inl ⟨by rfl, ?_⟩) ?_ ?_
  rotate_left
  · intro w'
    go_simp
    with_reducible rfl
  rotate_left
  · simp only [Act.put, List.setIfInBounds_toArray, List.set_cons_zero, List.set_cons_succ, i64_w, i32_w]
    rfl
  refine pure_ (i := 20) (N := some 25) (v := ?_) (a' := ?_) #[true, true, true, true, true, true, true, true, true, true, true, true, true, true, true, true, true, true, true, true, true, false, false, false, false, false, false, false] rfl rfl (by kernel_rfl) (fun _ _ _ h => h) (Or.inl ⟨by rfl, ?_⟩) ?_ ?_
  rotate_left
  · intro w'
    go_simp
    with_reducible rfl
  rotate_left
  · simp only [Act.put, List.setIfInBounds_toArray, List.set_cons_zero, List.set_cons_succ, i64_w, i32_w]
    rfl
  refine pure_ (i := 21) (N := some 26) (v := ?_) (a' := ?_) #[true, true, true, true, true, true, true, true, true, true, true, true, true, true, true, true, true, true, true, true, true, true, false, false, false, false, false, false] rfl rfl (by kernel_rfl) (fun _ _ _ h => h) (Or.inl ⟨by rfl, ?_⟩) ?_ ?_
  rotate_left
  · intro w'
    go_simp
    with_reducible rfl
  rotate_left
  · simp only [Act.put, List.setIfInBounds_toArray, List.set_cons_zero, List.set_cons_succ, i64_w, i32_w]
    rfl
  refine pure_ (i := 23) (N := some 28) (v := ?_) (a' := ?_) #[true, true, true, true, true, true, true, true, true, true, true, true, true, true, true, true, true, true, true, true, true, true, false, true, false, false, false, false] rfl rfl (by kernel_rfl) (fun _ _ _ h => h) (Or.inl ⟨by rfl, ?_⟩) ?_ ?_
  rotate_left
  · intro w'
    go_simp
    with_reducible rfl
  rotate_left
  · simp only [Act.put, List.setIfInBounds_toArray, List.set_cons_zero, List.set_cons_succ, i64_w, i32_w]
    rfl
  refine one_ (i := 22) (N := some 27) #[true, true, true, true, true, true, true, true, true, true, true, true, true, true, true, true, true, true, true, true, true, true, true, true, false, false, false, false] rfl rfl (by kernel_rfl) (by decide) (fun K hK => ?_)
  refine goes_ Try.func49 (by kernel_rfl) rfl #[.pointer (some ⟨g, 0, none⟩)] (by rfl) rfl rfl (by simp only [List.map_toArray, List.map_cons, List.map_nil]; rfl) ?_
  with_reducible refine (Disk.waits_ AS4.out).mono ?_
  rintro e w5 ⟨v5, rfl, hS5⟩
  refine ⟨_, rfl, ?_⟩
  obtain ⟨A5, c5, rfl⟩ := hS5.rowV
  have AS5 := Aside0.mk hS5
  clear hS5
  refine hK.out _ _ ⟨(AS5.out.at3.cell 0).trans rfl, (AS5.out.at3.cell 1).trans rfl, str_ AS5.out.at4, str_ AS5.out.at5⟩ (fun hHeld => ?_)
  clear hK K
  refine norm_ (a' := ?_) ?_ ?_
  rotate_left
  · show Act.put _ (some 27) _ = _
    simp only [Act.put, List.setIfInBounds_toArray, List.set_cons_zero, List.set_cons_succ, i64_w, i32_w]
    rfl
  refine last_ (i := 24) (N := some 29) #[true, true, true, true, true, true, true, true, true, true, true, true, true, true, true, true, true, true, true, true, true, true, true, true, true, false, false, false] rfl rfl (by kernel_rfl) (by decide) (fun K hK => ?_)
  refine goes_ Try.func128 (by kernel_rfl) rfl #[.pointer (some ⟨gr, 0, none⟩)] (by rfl) rfl rfl (by simp only [List.map_toArray, List.map_cons, List.map_nil]; rfl) ?_
  with_reducible refine (rwaits_ (n := n) (left := left) (done := done) (las := las) (wt := wt) (F := Dsk g las wt :: Row I64 3 (.slice A5 (keysI las wt).length c5) (keysI las wt) :: F) (W := w5) (w0 := w0) (shut_ n1 n2 HN.out.1 HN.out.2.1 HN.out.2.2 (AS5.out.at2.rot24)) HL.out).mono ?_
  rintro e w6 ⟨v6, rfl, hS6⟩
  refine ⟨_, rfl, ?_⟩
  obtain ⟨A6, c6, rfl⟩ := hS6.rowV
  have AS6 := Aside0.mk hS6
  clear hS6
  refine hK.out _ _ ?_
  clear hK K
  refine norm_ (a' := ?_) ?_ ?_
  rotate_left
  · show Act.put _ (some 29) _ = _
    simp only [Act.put, List.setIfInBounds_toArray, List.set_cons_zero, List.set_cons_succ, i64_w, i32_w]
    rfl
  refine last_ (i := 25) (N := some 30) #[true, true, true, true, true, true, true, true, true, true, true, true, true, true, true, true, true, true, true, true, true, true, true, true, true, true, false, false] rfl rfl (by kernel_rfl) (by decide) (fun K hK => ?_)
  refine goes_ Try.func57 (by kernel_rfl) rfl #[.slice A5 (keysI las wt).length c5, .slice A6 (keysI las wt).length c6] (by rfl) rfl rfl (by simp only [List.map_toArray, List.map_cons, List.map_nil]; rfl) ?_
  with_reducible refine (bsame_ (w := w6) AS6.out.at4.rowC.2.2 AS6.out.rowC.2.2).mono ?_
  rintro e w7 ⟨rfl, hb7⟩
  refine ⟨_, rfl, ?_⟩
  have AS7 := Aside0.mk (AS6.out.below hb7)
  clear hb7
  refine hK.out _ _ ?_
  clear hK K
  refine norm_ (a' := ?_) ?_ ?_
  rotate_left
  · show Act.put _ (some 30) _ = _
    simp only [Act.put, List.setIfInBounds_toArray, List.set_cons_zero, List.set_cons_succ, i64_w, i32_w]
    rfl
  refine pure_ (i := 26) (N := some 31) (v := ?_) (a' := ?_) #[true, true, true, true, true, true, true, true, true, true, true, true, true, true, true, true, true, true, true, true, true, true, true, true, true, true, true, false] rfl rfl (by kernel_rfl) (fun _ _ _ h => h) (Or.inl ⟨by rfl, ?_⟩) ?_ ?_
  rotate_left
  · intro w'
    go_simp
    with_reducible rfl
  rotate_left
  · simp only [Act.put, List.setIfInBounds_toArray, List.set_cons_zero, List.set_cons_succ, i64_w, i32_w]
    rfl
  refine pure_ (i := 27) (N := some 4) (v := ?_) (a' := ?_) #[true, true, true, true, true, true, true, true, true, true, true, true, true, true, true, true, true, true, true, true, true, true, true, true, true, true, true, true] rfl rfl (by kernel_rfl) (fun _ _ _ h => h) (Or.inl ⟨by rfl, ?_⟩) ?_ ?_
  rotate_left
  · intro w'
    go_simp
    with_reducible rfl
  rotate_left
  · simp only [Act.put, List.setIfInBounds_toArray, List.set_cons_zero, List.set_cons_succ, i64_w, i32_w]
    rfl
  refine done_ (by kernel_rfl) ?_
  go_wp2_with fail
  go_ret
  exact ⟨by first | rfl | (simp; done), AS7.out.tail.at2.at3.tail⟩
end
end Go.Proofs.Ytjngnigelkgekaa.Ref
namespace Go.Proofs.Ytjngnigelkgekaa.Home
set_option linter.unusedVariables false
set_option linter.unusedSimpArgs false
open Go.RowKit Go.Proofs.YtjngnigelkgekaaW.PrintWords Go.Proofs.YtjngnigelkgekaaW.PrintLast Go.Proofs.YtjngnigelkgekaaW.PrintMore Go.Proofs.Ytjngnigelkgekaa.Kit Go.Proofs.Ytjngnigelkgekaa.Plain Go.Proofs.Ytjngnigelkgekaa.Disk Go.Proofs.Ytjngnigelkgekaa.Root
/-- The document's disk, told by what lasts and what waits. -/
abbrev RT (g n : Nat) (las : List Int) (wt : Wt) (d : Nat) : HP := Ref.RD g n las (flushed las wt) (Ref.waitL n wt) (-1) (d : Int)
set_option maxHeartbeats 400000 in
theorem pair16_ {A : Option Addr} {m c n : Nat} {l : List Int} {w : World} (hr : U8.C w A m l) (hc : m ≤ c) (hm : m = 64 * n) (h1 : 1 ≤ n) (h2 : n ≤ 160) :
    Calls Try.prog 106 #[.slice A m c] w fun e w' => ∃ g gr, e = .returned (.tuple #[.pointer (some ⟨g, 0, none⟩), .pointer (some ⟨gr, 0, none⟩)]) ∧ Sep w w' [Dsk g l (fun _ => none), RT gr n l (fun _ => none) 0] := by
  have HR := Aside0.mk (And.intro hr (And.intro hc (And.intro hm (And.intro h1 h2))))
  clear hr hc hm h1 h2
  go_enter Try.func106, Try.ntmps106
  go_wp2_with fail
  refine (of_ok HR.out.1 HR.out.2.1 HR.out.2.2.1 HR.out.2.2.2.1 HR.out.2.2.2.2).mono ?_
  rintro e w1 ⟨g, rfl, hS1⟩
  have A1 := Aside0.mk hS1
  clear hS1
  go_wp2_with fail
  refine (Ref.of_ok (Kd.C_below HR.out.1 A1.out.toBelow) HR.out.2.2.1 HR.out.2.2.2.1 HR.out.2.2.2.2).mono ?_
  rintro e w2 ⟨gr, rfl, hS2⟩
  have A2 : Aside0 (Sep w w2 [Dsk g l (fun _ => none), RT gr n l (fun _ => none) 0]) := ⟨by
    show Sep w w2 [_, Ref.RD gr n l (flushed l (fun _ => none)) (Ref.waitL n (fun _ => none)) (-1) ((0 : Nat) : Int)]
    rw [flushed_none (n := n) (HR.out.1.1.trans HR.out.2.2.1), Ref.waitL_none]
    exact (A1.out.lift1 hS2).at2⟩
  clear hS2
  go_wp2_with fail
  go_ret2
  exact ⟨_, _, by first | rfl | (simp; done), A2.out⟩
section
variable {w0 W : World} {F : List HP} {g n : Nat} {las : List Int} {wt : Wt} {d : Nat}
end
end Go.Proofs.Ytjngnigelkgekaa.Home
namespace Go.Proofs.Ytjngnigelkgekaa.Redo
set_option linter.unusedVariables false
open Go.RowKit Go.Proofs.YtjngnigelkgekaaW.PrintWords Go.Proofs.YtjngnigelkgekaaW.PrintLast Go.Proofs.YtjngnigelkgekaaW.PrintMore Go.Proofs.Ytjngnigelkgekaa.Kit Go.Proofs.Ytjngnigelkgekaa.Plain Go.Proofs.Ytjngnigelkgekaa.Disk Go.Proofs.Ytjngnigelkgekaa.Root
/-- What waits behind bytes that were written into the log: each sector that they touch. -/
def appW (las : List Int) (wt : Wt) (at_ : Nat) (b : List Int) : Wt := fun j =>
  if b ≠ [] ∧ 64 * j < 128 + at_ + b.length ∧ 128 + at_ < 64 * j + 64 then some (sec (over (flushed las wt) (128 + at_) b) j) else wt j
theorem appW_nil (las : List Int) (wt : Wt) (at_ : Nat) : appW las wt at_ [] = wt := by
  funext j
  unfold appW
  exact if_neg (fun h => h.1 rfl)
theorem over_over {α : Type} {xs ys zs : List α} {o : Nat} (h : o + (ys.length + zs.length) ≤ xs.length) : over (over xs o ys) (o + ys.length) zs = over xs o (ys ++ zs) := by
  apply List.ext_getElem?
  intro j
  rw [over_get (by rw [over_len (by omega)]; omega), over_get (by omega), over_get (by rw [List.length_append]; omega), List.length_append]
  by_cases h1 : o + ys.length ≤ j ∧ j < o + ys.length + zs.length
  · rw [if_pos h1, if_pos (by omega), List.getElem?_append_right (by omega)]
    congr 1
    omega
  · rw [if_neg h1]
    by_cases h2 : o ≤ j ∧ j < o + ys.length
    · rw [if_pos h2, if_pos (by omega), List.getElem?_append_left (by omega)]
    · rw [if_neg h2, if_neg (by omega)]
theorem sec_over_out {xs ys : List Int} {o i : Nat} (h : o + ys.length ≤ xs.length) (ho : 64 * i + 64 ≤ o ∨ o + ys.length ≤ 64 * i) : sec (over xs o ys) i = sec xs i := by
  apply List.ext_getElem?
  intro j
  by_cases hj : j < 64
  · rw [sec_get _ _ _ hj, sec_get _ _ _ hj, over_get h, if_neg (by omega)]
  · have l1 : (sec (over xs o ys) i).length ≤ 64 := by unfold sec; rw [List.length_take]; omega
    have l2 : (sec xs i).length ≤ 64 := by unfold sec; rw [List.length_take]; omega
    rw [List.getElem?_eq_none (by omega), List.getElem?_eq_none (by omega)]
/-- A sector laid anew, of which a part is. -/
theorem over_sec {xs ys : List Int} {i f : Nat} (hl : 64 * (i + 1) ≤ xs.length) (hf : f + ys.length ≤ 64) : over xs (64 * i) (over (sec xs i) f ys) = over xs (64 * i + f) ys := by
  have hs := sec_len hl
  have hol : (over (sec xs i) f ys).length = 64 := by rw [over_len (by omega), hs]
  apply List.ext_getElem?
  intro j
  rw [over_get (xs := xs) (o := 64 * i) (ys := over (sec xs i) f ys) (by omega), over_get (xs := xs) (o := 64 * i + f) (ys := ys) (by omega), hol]
  by_cases h1 : 64 * i ≤ j ∧ j < 64 * i + 64
  · rw [if_pos h1, over_get (by omega)]
    by_cases h2 : f ≤ j - 64 * i ∧ j - 64 * i < f + ys.length
    · rw [if_pos h2, if_pos (by omega)]
      congr 1
      omega
    · rw [if_neg h2, if_neg (by omega), sec_get _ _ _ (by omega)]
      congr 1
      omega
  · rw [if_neg h1, if_neg (by omega)]
/-- One sector of the bytes. -/
theorem appW_step {n at_ : Nat} {las b : List Int} {wt : Wt} (hl : las.length = 64 * n) (hw : ∀ i b, wt i = some b → b.length = 64) (hb : b ≠ []) (hfit : 128 + at_ + b.length ≤ 64 * n) {k : Nat} (hk : k = min (64 - at_ % 64) b.length) :
    appW las (putW n wt (2 + at_ / 64) (over (secF n las wt (2 + at_ / 64)) (at_ % 64) (b.take k))) (at_ + k) (b.drop k) = appW las wt at_ b := by
  have hbl : 0 < b.length := List.length_pos_iff.2 hb
  obtain ⟨i, hi⟩ : ∃ i, 2 + at_ / 64 = i := ⟨_, rfl⟩
  have hin : i < n := by omega
  have hsF : secF n las wt i = sec (flushed las wt) i := by
    unfold secF; rw [if_pos hin, Ref.sec_flushed hl hw hin]
  have hFl := Ref.flushed_len hl hw
  have htk : (b.take k).length = k := by rw [List.length_take]; omega
  have hx : (over (secF n las wt i) (at_ % 64) (b.take k)).length = 64 := by
    rw [hsF, over_len (by rw [sec_len (by omega)]; omega), sec_len (by omega)]
  rw [hi]
  have hp : putW n wt i (over (secF n las wt i) (at_ % 64) (b.take k)) = (fun j => if j = i then some (over (secF n las wt i) (at_ % 64) (b.take k)) else wt j) := if_pos ⟨hin, hx⟩
  have hF1 : flushed las (putW n wt i (over (secF n las wt i) (at_ % 64) (b.take k))) = over (flushed las wt) (128 + at_) (b.take k) := by
    rw [hp, ← Ref.flushed_write hl hw hin hx, hsF, over_sec (by omega) (by omega), show 64 * i + at_ % 64 = 128 + at_ by omega]
  have hG : over (over (flushed las wt) (128 + at_) (b.take k)) (128 + (at_ + k)) (b.drop k) = over (flushed las wt) (128 + at_) b := by
    have h := over_over (xs := flushed las wt) (ys := b.take k) (zs := b.drop k) (o := 128 + at_) (by rw [htk, List.length_drop]; omega)
    rw [htk, List.take_append_drop, show 128 + at_ + k = 128 + (at_ + k) by omega] at h
    exact h
  funext j
  unfold appW
  rw [hF1, hG, List.length_drop]
  have hdk : b.drop k ≠ [] ↔ k < b.length := by
    constructor
    · intro h
      have := List.length_pos_iff.2 h
      rw [List.length_drop] at this
      omega
    · intro h h2
      have := congrArg List.length h2
      rw [List.length_drop, List.length_nil] at this
      omega
  by_cases h2 : b.drop k ≠ [] ∧ 64 * j < 128 + (at_ + k) + (b.length - k) ∧ 128 + (at_ + k) < 64 * j + 64
  · have h3 := hdk.1 h2.1
    rw [if_pos h2, if_pos ⟨hb, by omega, by omega⟩]
  · rw [if_neg h2, hp]
    dsimp only
    by_cases hj : j = i
    · subst hj
      rw [if_pos rfl, if_pos ⟨hb, by omega, by omega⟩]
      congr 1
      have hsec : sec (over (flushed las wt) (128 + at_) (b.take k)) j = over (secF n las wt j) (at_ % 64) (b.take k) := by
        rw [← hF1, Ref.sec_flushed hl (putW_len hw) hin, hp]
        simp
      rw [← hsec, ← hG]
      by_cases hkb : k < b.length
      · exact (sec_over_out (by rw [over_len (by rw [htk]; omega), List.length_drop]; omega) (.inl (by omega))).symm
      · rw [List.drop_of_length_le (by omega), over_nil]
    · rw [if_neg hj]
      by_cases h1 : b ≠ [] ∧ 64 * j < 128 + at_ + b.length ∧ 128 + at_ < 64 * j + 64
      · exfalso
        obtain ⟨-, h1a, h1b⟩ := h1
        refine h2 ⟨hdk.2 ?_, ?_, ?_⟩ <;> omega
      · rw [if_neg h1]
end Go.Proofs.Ytjngnigelkgekaa.Redo
namespace Go.Proofs.Ytjngnigelkgekaa.Redo
set_option linter.unusedVariables false
set_option linter.unusedSimpArgs false
open Go.RowKit Go.Proofs.YtjngnigelkgekaaW.PrintWords Go.Proofs.YtjngnigelkgekaaW.PrintLast Go.Proofs.YtjngnigelkgekaaW.PrintMore Go.Proofs.Ytjngnigelkgekaa.Kit Go.Proofs.Ytjngnigelkgekaa.Plain Go.Proofs.Ytjngnigelkgekaa.Disk Go.Proofs.Ytjngnigelkgekaa.Root
def sizeF (a : Int) : Int := if a < 1 ∨ 64 < a then 0 else a * 64
theorem sizeF_in (a : Int) : 0 ≤ sizeF a ∧ sizeF a ≤ 4096 := by unfold sizeF; split <;> omega
set_option maxHeartbeats 400000 in
theorem size_ (a b c : Int) (W : World) : Calls Try.prog 113 #[.agg #[.int .i64 a, .int .i64 b, .int .u32 c]] W fun e w' => e = .returned (.int .i64 (sizeF a)) ∧ Below W.heap.size W w' := by
  by_cases h1 : a < 1
  case pos =>
    have HR : Aside0 (sizeF a = 0) := ⟨by unfold sizeF; rw [if_pos (by omega)]⟩
    go_enter Try.func113, Try.ntmps113
    go_wp2_with fail
    go_ret
    exact ⟨by rw [HR.out]; first | rfl | (simp; done), below_alloc (Below.refl _ _) _⟩
  by_cases h2 : 64 < a
  case pos =>
    have HR : Aside0 (sizeF a = 0) := ⟨by unfold sizeF; rw [if_pos (by omega)]⟩
    go_enter Try.func113, Try.ntmps113
    go_wp2_with fail
    go_ret
    exact ⟨by rw [HR.out]; first | rfl | (simp; done), below_alloc (Below.refl _ _) _⟩
  have HR : Aside0 (sizeF a = a * 64) := ⟨by unfold sizeF; rw [if_neg (by omega)]⟩
  have hw : wrap64 (a * 64) = a * 64 := IntWalk.wrap64_in _ (by omega)
  go_enter Try.func113, Try.ntmps113
  go_wp2_with fail
  go_ret
  exact ⟨by rw [HR.out]; first | rfl | (simp; done), below_alloc (Below.refl _ _) _⟩
/-- The log's bytes. -/
def logF (n : Nat) (las : List Int) (wt : Wt) (a b c : Int) : List Int := if rightR a b c n = true then secs a.toNat (fun i => secF n las wt (2 + i)) else []
def okA (n : Nat) (a b c at_ : Int) (len : Nat) : Bool := rightR a b c n && (decide (0 ≤ at_) && decide (at_ ≤ sizeF a - len))
section
variable {w0 W : World} {F : List HP} {g n : Nat} {las : List Int} {wt : Wt}
set_option maxHeartbeats 800000 in
set_option maxRecDepth 100000 in
theorem bytes_ (h : Sep w0 W (Dsk g las wt :: F)) (hl : las.length = 64 * n) (hw : ∀ i b, wt i = some b → b.length = 64) (a b c : Int) :
    Calls Try.prog 64 #[.pointer (some ⟨g, 0, none⟩), .agg #[.int .i64 a, .int .i64 b, .int .u32 c]] W fun e w' => ∃ v, e = .returned v ∧ Sep w0 w' (Row U8 5 v (logF n las wt a b c) :: Dsk g las wt :: F) := by
  have A0 := Aside0.mk (h.newBlk 26 #[.int .i64 a, .int .i64 b, .int .u32 c]).drew
  have HL := Aside0.mk (And.intro hl hw)
  have HLN : Aside0 ((las.length : Int) / 64 = (n : Int)) := ⟨by omega⟩
  clear h hl hw
  cases hr : rightR a b c n with
  | false =>
    have HRT := Aside0.mk hr
    have HP : Aside0 (logF n las wt a b c = []) := ⟨by unfold logF; rw [hr]; rfl⟩
    clear hr
    go_enter Try.func64, Try.ntmps64
    go_wp2_with fail
    refine start_ (n := 9) (S := fun w' => w'.cell? ⟨W.heap.size, 0, none⟩ = some (.int .i64 a) ∧ w'.cell? ⟨W.heap.size, 1, none⟩ = some (.int .i64 b) ∧ w'.cell? ⟨W.heap.size, 2, none⟩ = some (.int .u32 c)) (ds := [6]) #[false, false, false, false, false, false, false, false, false] (by kernel_rfl) rfl rfl ⟨(A0.out.cell 0).trans rfl, (A0.out.cell 1).trans rfl, (A0.out.cell 2).trans rfl⟩ (fun hHeld => ?_)
    refine pure_ (i := 0) (N := some 9) (v := ?_) (a' := ?_) #[true, false, false, false, false, false, false, false, false] rfl rfl (by kernel_rfl) (fun _ _ _ h => h) (Or.inl ⟨by rfl, ?_⟩) ?_ ?_
    rotate_left
    · intro w'
      go_simp
      with_reducible rfl
    rotate_left
    · simp only [Act.put, List.setIfInBounds_toArray, List.set_cons_zero, List.set_cons_succ, i64_w, i32_w]
      rfl
    refine pure_ (i := 1) (N := some 10) (v := ?_) (a' := ?_) #[true, true, false, false, false, false, false, false, false] rfl rfl (by kernel_rfl) (fun _ _ _ h => h) (Or.inl ⟨by rfl, ?_⟩) ?_ ?_
    rotate_left
    · intro w'
      go_simp
      with_reducible rfl
    rotate_left
    · simp only [Act.put, List.setIfInBounds_toArray, List.set_cons_zero, List.set_cons_succ, i64_w, i32_w]
      rfl
    refine pure_ (i := 2) (N := some 11) (v := ?_) (a' := ?_) #[true, true, true, false, false, false, false, false, false] rfl rfl (by kernel_rfl) (fun _ _ _ h => h) (Or.inl ⟨by rfl, ?_⟩) ?_ ?_
    rotate_left
    · intro w'
      go_simp
      with_reducible rfl
    rotate_left
    · simp only [Act.put, List.setIfInBounds_toArray, List.set_cons_zero, List.set_cons_succ, i64_w, i32_w]
      rfl
    refine pure_ (i := 4) (N := some 13) (v := ?_) (a' := ?_) #[true, true, true, false, true, false, false, false, false] rfl rfl (by kernel_rfl) (fun _ _ _ h => h) (Or.inl ⟨by rfl, ?_⟩) ?_ ?_
    rotate_left
    · intro w'
      go_simp
      with_reducible rfl
    rotate_left
    · simp only [Act.put, List.setIfInBounds_toArray, List.set_cons_zero, List.set_cons_succ, i64_w, i32_w]
      rfl
    refine take_ (i := 3) (N := some 12) (v := ?_) (a' := ?_) #[true, true, true, true, true, false, false, false, false] rfl rfl (by kernel_rfl) (fun _ _ _ h => h) (Or.inl ⟨by rfl, ?_⟩) hHeld ?_ ?_
    rotate_left
    · rintro w' ⟨s0, s1, s2⟩
      go_simp
      with_reducible rfl
    rotate_left
    · simp only [Act.put, List.setIfInBounds_toArray, List.set_cons_zero, List.set_cons_succ, i64_w, i32_w]
      rfl
    refine one_ (i := 5) (N := some 14) #[true, true, true, true, true, true, false, false, false] rfl rfl (by kernel_rfl) (by decide) (fun K hK => ?_)
    refine goes_ Try.func50 (by kernel_rfl) rfl #[.pointer (some ⟨g, 0, none⟩)] (by rfl) rfl rfl (by simp only [List.map_toArray, List.map_cons, List.map_nil]; rfl) ?_
    with_reducible refine (len_ A0.out.at2).mono ?_
    rintro e w4 ⟨rfl, rfl⟩
    refine ⟨_, rfl, ?_⟩
    rw [HLN.out]
    refine hK.out _ _ ⟨(A0.out.cell 0).trans rfl, (A0.out.cell 1).trans rfl, (A0.out.cell 2).trans rfl⟩ (fun hHeld => ?_)
    clear hK K
    refine norm_ (a' := ?_) ?_ ?_
    rotate_left
    · show Act.put _ (some 14) _ = _
      simp only [Act.put, List.setIfInBounds_toArray, List.set_cons_zero, List.set_cons_succ, i64_w, i32_w]
      rfl
    refine last_ (i := 6) (N := some 15) #[true, true, true, true, true, true, true, false, false] rfl rfl (by kernel_rfl) (by decide) (fun K hK => ?_)
    refine goes_ Try.func68 (by kernel_rfl) rfl #[.agg #[.int .i64 a, .int .i64 b, .int .u32 c], .int .i64 (n : Int)] (by rfl) rfl rfl (by simp only [List.map_toArray, List.map_cons, List.map_nil]; rfl) ?_
    with_reducible refine (right_ a b c (n : Int) _).mono ?_
    rintro e w5 ⟨rfl, hb5⟩
    refine ⟨_, rfl, ?_⟩
    rw [HRT.out]
    have A5 := Aside0.mk (A0.out.below hb5)
    clear hb5
    refine hK.out _ _ ?_
    clear hK K
    refine norm_ (a' := ?_) ?_ ?_
    rotate_left
    · show Act.put _ (some 15) _ = _
      simp only [Act.put, List.setIfInBounds_toArray, List.set_cons_zero, List.set_cons_succ, i64_w, i32_w]
      rfl
    refine pure_ (i := 7) (N := some 16) (v := ?_) (a' := ?_) #[true, true, true, true, true, true, true, true, false] rfl rfl (by kernel_rfl) (fun _ _ _ h => h) (Or.inl ⟨by rfl, ?_⟩) ?_ ?_
    rotate_left
    · intro w'
      go_simp
      with_reducible rfl
    rotate_left
    · simp only [Act.put, List.setIfInBounds_toArray, List.set_cons_zero, List.set_cons_succ, i64_w, i32_w]
      rfl
    refine pure_ (i := 8) (N := some 17) (v := ?_) (a' := ?_) #[true, true, true, true, true, true, true, true, true] rfl rfl (by kernel_rfl) (fun _ _ _ h => h) (Or.inl ⟨by rfl, ?_⟩) ?_ ?_
    rotate_left
    · intro w'
      go_simp
      with_reducible rfl
    rotate_left
    · simp only [Act.put, List.setIfInBounds_toArray, List.set_cons_zero, List.set_cons_succ, i64_w, i32_w]
      rfl
    refine done_ (by kernel_rfl) ?_
    go_wp2_with fail
    go_ret
    exact ⟨_, by first | rfl | (simp; done), by rw [HP.out]; exact A5.out.tail.nilRow _ _⟩
  | true =>
    have HRT := Aside0.mk hr
    have h1 := of_decide_eq_true hr
    obtain ⟨Lg, rfl⟩ := Int.eq_ofNat_of_zero_le (show 0 ≤ a by omega)
    have HP : Aside0 (logF n las wt (Lg : Int) b c = secs Lg (fun i => secF n las wt (2 + i))) := ⟨by unfold logF; rw [if_pos hr, Int.toNat_natCast]⟩
    have hK : Lg ≤ 64 := by omega
    have HKN : Aside0 (2 + Lg ≤ n) := ⟨by omega⟩
    clear hr h1
    go_enter Try.func64, Try.ntmps64
    go_wp2_with fail
    refine start_ (n := 9) (S := fun w' => w'.cell? ⟨W.heap.size, 0, none⟩ = some (.int .i64 (Lg : Int)) ∧ w'.cell? ⟨W.heap.size, 1, none⟩ = some (.int .i64 b) ∧ w'.cell? ⟨W.heap.size, 2, none⟩ = some (.int .u32 c)) (ds := [6]) #[false, false, false, false, false, false, false, false, false] (by kernel_rfl) rfl rfl ⟨(A0.out.cell 0).trans rfl, (A0.out.cell 1).trans rfl, (A0.out.cell 2).trans rfl⟩ (fun hHeld => ?_)
    refine pure_ (i := 0) (N := some 9) (v := ?_) (a' := ?_) #[true, false, false, false, false, false, false, false, false] rfl rfl (by kernel_rfl) (fun _ _ _ h => h) (Or.inl ⟨by rfl, ?_⟩) ?_ ?_
    rotate_left
    · intro w'
      go_simp
      with_reducible rfl
    rotate_left
    · simp only [Act.put, List.setIfInBounds_toArray, List.set_cons_zero, List.set_cons_succ, i64_w, i32_w]
      rfl
    refine pure_ (i := 1) (N := some 10) (v := ?_) (a' := ?_) #[true, true, false, false, false, false, false, false, false] rfl rfl (by kernel_rfl) (fun _ _ _ h => h) (Or.inl ⟨by rfl, ?_⟩) ?_ ?_
    rotate_left
    · intro w'
      go_simp
      with_reducible rfl
    rotate_left
    · simp only [Act.put, List.setIfInBounds_toArray, List.set_cons_zero, List.set_cons_succ, i64_w, i32_w]
      rfl
    refine pure_ (i := 2) (N := some 11) (v := ?_) (a' := ?_) #[true, true, true, false, false, false, false, false, false] rfl rfl (by kernel_rfl) (fun _ _ _ h => h) (Or.inl ⟨by rfl, ?_⟩) ?_ ?_
    rotate_left
    · intro w'
      go_simp
      with_reducible rfl
    rotate_left
    · simp only [Act.put, List.setIfInBounds_toArray, List.set_cons_zero, List.set_cons_succ, i64_w, i32_w]
      rfl
    refine pure_ (i := 4) (N := some 13) (v := ?_) (a' := ?_) #[true, true, true, false, true, false, false, false, false] rfl rfl (by kernel_rfl) (fun _ _ _ h => h) (Or.inl ⟨by rfl, ?_⟩) ?_ ?_
    rotate_left
    · intro w'
      go_simp
      with_reducible rfl
    rotate_left
    · simp only [Act.put, List.setIfInBounds_toArray, List.set_cons_zero, List.set_cons_succ, i64_w, i32_w]
      rfl
    refine take_ (i := 3) (N := some 12) (v := ?_) (a' := ?_) #[true, true, true, true, true, false, false, false, false] rfl rfl (by kernel_rfl) (fun _ _ _ h => h) (Or.inl ⟨by rfl, ?_⟩) hHeld ?_ ?_
    rotate_left
    · rintro w' ⟨s0, s1, s2⟩
      go_simp
      with_reducible rfl
    rotate_left
    · simp only [Act.put, List.setIfInBounds_toArray, List.set_cons_zero, List.set_cons_succ, i64_w, i32_w]
      rfl
    refine one_ (i := 5) (N := some 14) #[true, true, true, true, true, true, false, false, false] rfl rfl (by kernel_rfl) (by decide) (fun K hK => ?_)
    refine goes_ Try.func50 (by kernel_rfl) rfl #[.pointer (some ⟨g, 0, none⟩)] (by rfl) rfl rfl (by simp only [List.map_toArray, List.map_cons, List.map_nil]; rfl) ?_
    with_reducible refine (len_ A0.out.at2).mono ?_
    rintro e w4 ⟨rfl, rfl⟩
    refine ⟨_, rfl, ?_⟩
    rw [HLN.out]
    refine hK.out _ _ ⟨(A0.out.cell 0).trans rfl, (A0.out.cell 1).trans rfl, (A0.out.cell 2).trans rfl⟩ (fun hHeld => ?_)
    clear hK K
    refine norm_ (a' := ?_) ?_ ?_
    rotate_left
    · show Act.put _ (some 14) _ = _
      simp only [Act.put, List.setIfInBounds_toArray, List.set_cons_zero, List.set_cons_succ, i64_w, i32_w]
      rfl
    refine last_ (i := 6) (N := some 15) #[true, true, true, true, true, true, true, false, false] rfl rfl (by kernel_rfl) (by decide) (fun K hK => ?_)
    refine goes_ Try.func68 (by kernel_rfl) rfl #[.agg #[.int .i64 (Lg : Int), .int .i64 b, .int .u32 c], .int .i64 (n : Int)] (by rfl) rfl rfl (by simp only [List.map_toArray, List.map_cons, List.map_nil]; rfl) ?_
    with_reducible refine (right_ (Lg : Int) b c (n : Int) _).mono ?_
    rintro e w5 ⟨rfl, hb5⟩
    refine ⟨_, rfl, ?_⟩
    rw [HRT.out]
    have A5 := Aside0.mk (A0.out.below hb5)
    clear hb5
    refine hK.out _ _ ?_
    clear hK K
    refine norm_ (a' := ?_) ?_ ?_
    rotate_left
    · show Act.put _ (some 15) _ = _
      simp only [Act.put, List.setIfInBounds_toArray, List.set_cons_zero, List.set_cons_succ, i64_w, i32_w]
      rfl
    refine pure_ (i := 7) (N := some 16) (v := ?_) (a' := ?_) #[true, true, true, true, true, true, true, true, false] rfl rfl (by kernel_rfl) (fun _ _ _ h => h) (Or.inl ⟨by rfl, ?_⟩) ?_ ?_
    rotate_left
    · intro w'
      go_simp
      with_reducible rfl
    rotate_left
    · simp only [Act.put, List.setIfInBounds_toArray, List.set_cons_zero, List.set_cons_succ, i64_w, i32_w]
      rfl
    refine pure_ (i := 8) (N := some 17) (v := ?_) (a' := ?_) #[true, true, true, true, true, true, true, true, true] rfl rfl (by kernel_rfl) (fun _ _ _ h => h) (Or.inl ⟨by rfl, ?_⟩) ?_ ?_
    rotate_left
    · intro w'
      go_simp
      with_reducible rfl
    rotate_left
    · simp only [Act.put, List.setIfInBounds_toArray, List.set_cons_zero, List.set_cons_succ, i64_w, i32_w]
      rfl
    refine done_ (by kernel_rfl) ?_
    have z0 := (A5.out.cell 0).trans rfl
    have z1 := (A5.out.cell 1).trans rfl
    have z2 := (A5.out.cell 2).trans rfl
    have A6 := Aside0.mk (A5.out.tail.nilRow U8 5)
    go_wp2_with fail
    clear z0 z1 z2
    go_loopg [5, 20] Lg (fun m v p wr => ∃ j : Nat, p = .int .i64 (j : Int) ∧ j + m = Lg ∧ Sep w0 wr (Row U8 5 v (secs j (fun i => secF n las wt (2 + i))) :: Dsk g las wt :: F))
    case atStart => exact ⟨0, rfl, by omega, A6.out⟩
    case round =>
      obtain ⟨j, rfl, hjm, hS⟩ := hrel
      have AK := Aside0.mk hjm
      have AS := Aside0.mk hS
      have HSL : Aside0 (j ≤ Lg → (secs j (fun i => secF n las wt (2 + i))).length = 64 * j) := ⟨fun h => secs_len (fun i hi => by rw [secF_len HL.out.1 HL.out.2, if_pos (by have := HKN.out; omega)])⟩
      clear hS
      by_cases hj : j < Lg
      · have hjl : (j : Int) < (Lg : Int) := by omega
        have hjld : decide ((j : Int) < (Lg : Int)) = true := decide_eq_true hjl
        obtain ⟨A3, c3, rfl⟩ := AS.out.rowN (n := 64 * j) (HSL.out (by omega))
        have HSN : Aside0 (secs (j + 1) (fun i => secF n las wt (2 + i)) = secs j (fun i => secF n las wt (2 + i)) ++ secF n las wt (2 + j)) := ⟨secs_succ _ _⟩
        clear hjm
        go_wp2_with fail
        rw [show (2 + (j : Int)) = ((2 + j : Nat) : Int) by omega]
        refine (read_in AS.out.at2 (2 + j) (by have := HL.out.1; have := HKN.out; omega)).mono ?_
        rintro e w3 ⟨v3, rfl, hS3⟩
        have hsf : (wt (2 + j)).getD (sec las (2 + j)) = secF n las wt (2 + j) := by unfold secF; rw [if_pos (by have := HKN.out; omega)]
        rw [hsf] at hS3
        obtain ⟨A4, c4, rfl⟩ := hS3.rowN (n := 64) (by rw [secF_len HL.out.1 HL.out.2, if_pos (by have := HKN.out; omega)])
        have L3 := Aside0.mk hS3.at3
        have HXL : Aside0 ((secF n las wt (2 + j)).length = 64) := ⟨by rw [secF_len HL.out.1 HL.out.2, if_pos (by have := HKN.out; omega)]⟩
        clear hS3 hsf
        go_wp2_with (first | (refine gate_builtin (b := .append) (xs := #[.tmp 30, .tmp 31]) rfl ?_; go_loud (refine L3.out.appendRow rfl (.tmp 30) (.tmp 31) 30 (.int .u8 0) 1 rfl Try.underlying30 Base.infoB rfl (by decide) A4 64 c4 rfl rfl L3.out.at2.rowC' (by rw [HSL.out (by omega), HXL.out]; omega) ?_; intro v6 w6 hS6; have B6 := Aside0.mk hS6; clear hS6)))
        go_roundg (gk - 1)
        case measure => have := AK.out; omega
        case rel => exact ⟨j + 1, by go_num, by have := AK.out; omega, by rw [HSN.out]; exact B6.out.drop2⟩
      · obtain rfl : j = Lg := by omega
        obtain ⟨A3, c3, rfl⟩ := AS.out.rowN (n := 64 * j) (HSL.out (by omega))
        clear hjm
        go_wp2_with fail
        go_ret
        exact ⟨_, by first | rfl | (simp; done), by rw [HP.out]; exact AS.out⟩
end
end Go.Proofs.Ytjngnigelkgekaa.Redo
