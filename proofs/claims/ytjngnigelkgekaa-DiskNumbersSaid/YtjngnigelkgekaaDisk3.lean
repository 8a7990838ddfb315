/- The disk: a sector is read. -/
import Derived.Test.YtjngnigelkgekaaDisk2
import Derived.Test.YtjngnigelkgekaaSecs
namespace Go.Proofs.Ytjngnigelkgekaa.Disk
set_option linter.unusedVariables false
set_option linter.unusedSimpArgs false
open Go.RowKit Go.Proofs.YtjngnigelkgekaaW.PrintWords Go.Proofs.YtjngnigelkgekaaW.PrintLast Go.Proofs.YtjngnigelkgekaaW.PrintMore Go.Proofs.Ytjngnigelkgekaa.Kit
/-- A piece of a row that is read. -/
theorem C_piece {W : World} {g n : Nat} {l : List Int} (h : U8.C W (some ⟨g, 0, none⟩) n l) (o m : Nat) (hm : o + m ≤ n) : U8.C W (some ⟨g, o, none⟩) m ((l.drop o).take m) := by
  have hl := h.1
  have hr := Kd.reads_of_C (d := (0 : Int)) h
  refine Kd.C_of_reads (d := (0 : Int)) ⟨by rw [List.length_take, List.length_drop]; omega, by have := h.2.1; omega, fun h0 => ⟨_, rfl, fun j hj => ?_⟩⟩
  obtain ⟨ad, ha, hc⟩ := hr.2.2 (by omega)
  cases ha
  have := hc (o + j) (by omega)
  rw [add_at, Nat.zero_add] at this
  rw [add_at, this]
  congr 2
  rw [List.getD_eq_getElem?_getD, List.getD_eq_getElem?_getD, List.getElem?_take, if_pos hj, List.getElem?_drop]
theorem find_split {ents : List Ent} {i : Nat} {e : Ent} (h : ents.find? (fun e => e.k == i) = some e) : ∃ pre post, ents = pre ++ e :: post ∧ e.k = i ∧ ∀ x ∈ pre, x.k ≠ i := by
  rw [List.find?_eq_some_iff_append] at h
  obtain ⟨h1, pre, post, h2, h3⟩ := h
  exact ⟨pre, post, h2, by simpa using h1, fun x hx => by have := h3 x hx; simpa using this⟩
theorem find_not {ents : List Ent} {i : Nat} (h : ents.find? (fun e => e.k == i) = none) : ∀ x ∈ ents, x.k ≠ i := by
  rw [List.find?_eq_none] at h
  exact fun x hx => by have := h x hx; simpa using this
theorem zeroS (W : World) : (zeroValue 30).run Try.prog W = .ok (.slice none 0 0) W := by kernel_rfl
/-- What a lookup among the sectors that wait comes to. -/
theorem look_ {w0 W : World} {g m clock : Nat} {ents : List Ent} {las : List Int} {wt : Nat → Option (List Int)} {F : List HP} (hok : DskOk las ents clock wt) (h : Sep w0 W (MapB m (ens (ents.map Ent.en)) clock :: (ents.map Ent.rd ++ F))) (i : Nat) :
    (wt i = none ∧ (Instr.lookup 94 (.map (some m)) (.int .i64 (i : Int)) true).run Try.prog W = .ok (.tuple #[.slice none 0 0, .bool false]) W) ∨
    ∃ b A c, wt i = some b ∧ 64 ≤ c ∧ b.length = 64 ∧ U8.C W A 64 b ∧ (Instr.lookup 94 (.map (some m)) (.int .i64 (i : Int)) true).run Try.prog W = .ok (.tuple #[.slice A 64 c, .bool true]) W ∧
      (Instr.lookup 94 (.map (some m)) (.int .i64 (i : Int)) false).run Try.prog W = .ok (.slice A 64 c) W := by
  have hw := hok.wt i
  cases hf : ents.find? (fun e => e.k == i) with
  | none =>
    rw [hf] at hw
    refine .inl ⟨hw, lookup_none Try.underlying94 Try.underlying3 zeroS h.map _ (fun e he => ?_)⟩
    obtain ⟨x, hx, rfl⟩ := List.mem_map.1 he
    have := find_not hf x hx
    show (x.k : Int) ≠ i
    omega
  | some e =>
    rw [hf] at hw
    obtain ⟨pre, post, rfl, rfl, hp⟩ := find_split hf
    have he := hok.each e (by simp)
    have hm := h.map
    rw [List.map_append, List.map_cons] at hm
    have hpre : ∀ x ∈ pre.map Ent.en, x.k ≠ e.en.k := fun y hy => by
      obtain ⟨x, hx, rfl⟩ := List.mem_map.1 hy
      have := hp x hx
      show (x.k : Int) ≠ (e.k : Int)
      omega
    have hC : U8.C W e.A 64 e.b := by
      have h2 := h.tail
      rw [List.map_append, List.map_cons, List.append_assoc, List.cons_append] at h2
      exact h2.weak.rd
    exact .inr ⟨e.b, e.A, e.c, hw, he.2.2.2, he.2.2.1, hC, lookup_some (e := e.en) Try.underlying94 Try.underlying3 hm hpre, lookup1_some (e := e.en) Try.underlying94 Try.underlying3 hm hpre⟩
set_option maxHeartbeats 400000 in
theorem read_out {w0 W : World} {g : Nat} {las : List Int} {wt : Nat → Option (List Int)} {F : List HP} (h : Sep w0 W (Dsk g las wt :: F)) (i : Int) (hi : ¬ (0 ≤ i ∧ i < (las.length : Int) / 64)) :
    Calls Try.prog 56 #[.pointer (some ⟨g, 0, none⟩), .int .i64 i] W fun e w' => e = .returned (.tuple #[.slice none 0 0, .bool false]) ∧ W = w' := by
  have hd : decide (0 ≤ i ∧ i < (las.length : Int) / 64) = false := decide_eq_false hi
  clear hi
  go_enter Try.func56, Try.ntmps56
  go_wp2_with (go_at_call 93; refine (there_ h i).mono ?_; rintro e w' ⟨rfl, rfl⟩; rw [hd])
  go_ret2
  exact ⟨by first | rfl | (simp; done), rfl⟩
set_option maxHeartbeats 400000 in
theorem read_in {w0 W : World} {g : Nat} {las : List Int} {wt : Nat → Option (List Int)} {F : List HP} (h : Sep w0 W (Dsk g las wt :: F)) (i : Nat) (hi : 64 * (i + 1) ≤ las.length) :
    Calls Try.prog 56 #[.pointer (some ⟨g, 0, none⟩), .int .i64 (i : Int)] W fun e w' => ∃ v, e = .returned (.tuple #[v, .bool true]) ∧ Sep w0 w' (Row U8 5 v ((wt i).getD (sec las i)) :: Dsk g las wt :: F) := by
  obtain ⟨v, m, ents, clock, hok, hs⟩ := open_ h
  obtain ⟨p1, p2, p3⟩ := hok.pos
  obtain ⟨gl, c, rfl⟩ := hs.tail.rowForm (by omega)
  have hr := hs.tail.rowC
  have c0 : W.cell? ⟨g, 0, none⟩ = some (.slice (some ⟨gl, 0, none⟩) las.length c) := by rw [hs.cell 0]; rfl
  have c1 : W.cell? ⟨g, 1, none⟩ = some (.map (some m)) := by rw [hs.cell 1]; rfl
  have hd : decide (0 ≤ (i : Int) ∧ (i : Int) < (las.length : Int) / 64) = true := decide_eq_true (by omega)
  have HP3 := Aside0.mk hr
  have HC := Aside0.mk (C_piece hr.2.2 (64 * i) 64 (by omega))
  have hlook := look_ (g := g) hok hs.tail.tail i
  clear p3 hr hok
  rcases hlook with ⟨hn, hl⟩ | ⟨b, A, cb, hn, hcb, hbl, hCb, hl, -⟩
  · have HN := Aside0.mk hn
    clear hn
    go_enter Try.func56, Try.ntmps56
    go_wp2_with (first | (go_at_call 93; refine (there_ h i).mono ?_; rintro e w' ⟨rfl, rfl⟩; rw [hd]) | (go_at_call 101; refine (sector_ c0 hi p2 HP3.out.2.1).mono ?_; rintro e w' ⟨rfl, rfl⟩) | (go_at_call 94; refine (clone_ HC.out (by have := HP3.out.2.1; omega) (by omega)).mono ?_; rintro e w1 ⟨v, rfl, hS⟩))
    go_ret2
    refine ⟨_, by first | rfl | (simp; done), ?_⟩
    rw [HN.out]
    exact h.lift1 hS
  · have HN := Aside0.mk hn
    have HB := Aside0.mk hbl
    clear hn hbl
    go_enter Try.func56, Try.ntmps56
    go_wp2_with (first | (go_at_call 93; refine (there_ h i).mono ?_; rintro e w' ⟨rfl, rfl⟩; rw [hd]) | (go_at_call 94; refine (clone_ hCb (by omega) (by omega)).mono ?_; rintro e w1 ⟨v, rfl, hS⟩))
    go_ret2
    refine ⟨_, by first | rfl | (simp; done), ?_⟩
    rw [HN.out]
    exact h.lift1 hS
end Go.Proofs.Ytjngnigelkgekaa.Disk
