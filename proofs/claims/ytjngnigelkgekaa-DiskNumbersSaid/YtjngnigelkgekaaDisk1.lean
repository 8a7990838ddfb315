/- The disk: its resource; its length, one sector's place, its image. -/
import Derived.Test.YtjngnigelkgekaaProg
import Derived.Test.YtjngnigelkgekaaMapInt
import Derived.WalkKit
import Derived.KernelRfl
import Derived.WalkSpells
import Derived.Deep.QuietTactic
import Derived.BigQuiet
namespace Go.Proofs.Ytjngnigelkgekaa.Disk
set_option linter.unusedVariables false
set_option linter.unusedSimpArgs false
open Go.RowKit Go.Proofs.YtjngnigelkgekaaW.PrintWords Go.Proofs.YtjngnigelkgekaaW.PrintLast Go.Proofs.YtjngnigelkgekaaW.PrintMore Go.Proofs.Ytjngnigelkgekaa.Kit
theorem infoB : (Try.prog.info? 5).map (fun i => (i.zero, i.size, i.bytes)) = some (some (.int .u8 0), 1, 1) := by kernel_rfl
abbrev U8 : Kd Int := Kd.int .u8
/-- A sector that waits, as the map has it. -/
structure Ent where
  k : Nat
  b : List Int
  A : Option Addr
  c : Nat
  born : Nat
def Ent.en (e : Ent) : En := ⟨(e.k : Int), .slice e.A 64 e.c, e.born⟩
def Ent.rd (e : Ent) : HP := Rd U8 e.A 64 e.b
structure DskOk (las : List Int) (ents : List Ent) (clock : Nat) (wt : Nat → Option (List Int)) : Prop where
  len : ∃ n, las.length = 64 * n ∧ 1 ≤ n ∧ n ≤ 160
  keys : (ents.map (·.k)).Nodup
  borns : (ents.map (·.born)).Nodup
  each : ∀ e ∈ ents, e.born < clock ∧ 64 * e.k < las.length ∧ e.b.length = 64 ∧ 64 ≤ e.c
  wt : ∀ i, wt i = (ents.find? (fun e => e.k == i)).map (·.b)
def Dsk (g : Nat) (las : List Int) (wt : Nat → Option (List Int)) : HP := Ex fun (x : Value × Nat × List Ent × Nat) =>
  Star (Pu (DskOk las x.2.2.1 x.2.2.2 wt) :: Blk g 96 #[x.1, .map (some x.2.1)] :: Row U8 5 x.1 las :: MapB x.2.1 (ens (x.2.2.1.map Ent.en)) x.2.2.2 :: x.2.2.1.map Ent.rd)
section
variable {w0 W : World} {g : Nat} {las : List Int} {wt : Nat → Option (List Int)} {F : List HP}
theorem open_ (h : Sep w0 W (Dsk g las wt :: F)) : ∃ v m ents clock, DskOk las ents clock wt ∧ Sep w0 W (Blk g 96 #[v, .map (some m)] :: Row U8 5 v las :: MapB m (ens (ents.map Ent.en)) clock :: (ents.map Ent.rd ++ F)) := by
  obtain ⟨⟨v, m, ents, clock⟩, h⟩ := h.ex
  obtain ⟨hok, h⟩ := h.star.pu
  exact ⟨v, m, ents, clock, hok, h⟩
theorem shut_ {v : Value} {m : Nat} {ents : List Ent} {clock : Nat} (hok : DskOk las ents clock wt) (h : Sep w0 W (Blk g 96 #[v, .map (some m)] :: Row U8 5 v las :: MapB m (ens (ents.map Ent.en)) clock :: (ents.map Ent.rd ++ F))) : Sep w0 W (Dsk g las wt :: F) := by
  refine Sep.unex (v, m, ents, clock) (Sep.unstar ?_)
  exact Sep.unpu hok h
theorem DskOk.pos {ents : List Ent} {clock : Nat} (h : DskOk las ents clock wt) : 64 ≤ las.length ∧ las.length ≤ 10240 ∧ (las.length / 64) * 64 = las.length := by
  obtain ⟨n, h1, h2, h3⟩ := h.len
  omega
/-- What a walk reads of a disk. -/
theorem reads_ (h : Sep w0 W (Dsk g las wt :: F)) : ∃ gl c m, W.cell? ⟨g, 0, none⟩ = some (.slice (some ⟨gl, 0, none⟩) las.length c) ∧ W.cell? ⟨g, 1, none⟩ = some (.map (some m)) ∧ las.length ≤ c ∧ U8.C W (some ⟨gl, 0, none⟩) las.length las ∧ 64 ≤ las.length ∧ las.length ≤ 10240 ∧ (las.length / 64) * 64 = las.length := by
  obtain ⟨v, m, ents, clock, hok, h⟩ := open_ h
  obtain ⟨p1, p2, p3⟩ := hok.pos
  obtain ⟨gl, c, rfl⟩ := h.tail.rowForm (by omega)
  have hr := h.tail.rowC
  exact ⟨gl, c, m, by rw [h.cell 0]; rfl, by rw [h.cell 1]; rfl, hr.2.1, hr.2.2, p1, p2, p3⟩
end
/-! ### slices_Clone__byte_byte: function 94 -/
def cloneF (l0 : List Int) : Option (List Int) := if l0.length < 140737488355328 then (some l0) else none
set_option maxHeartbeats 8000000 in
set_option maxRecDepth 100000 in
theorem clone0 (A0 : Option Addr) (c0 : Nat) (l0 : List Int) (r : List Int) (w : World) (hr0 : Kd.C (Kd.int .u8) w A0 l0.length l0) (hc0 : l0.length ≤ c0) (h : cloneF l0 = some r) :
    Calls Try.prog 94 #[.slice A0 l0.length c0] w fun e w' => ∃ v0_ : Value, e = .returned (v0_) ∧ Kd.R (Kd.int .u8) 5 w' w.heap.size (fun _ => True) v0_ r ∧ Below w.heap.size w w' := by
  have HR0 := Aside0.mk hr0
  have HC0 := Aside0.mk hc0
  clear hr0 hc0
  have HB := Aside0.mk (Below.refl w.heap.size w)
  have hl : l0.length < 140737488355328 ∧ l0 = r := by
    unfold cloneF at h
    split at h
    · exact ⟨by assumption, Option.some.inj h⟩
    · cases h
  obtain ⟨hl, rfl⟩ := hl
  have LMc3 := Aside0.mk hl
  clear h hl
  cases A0 with
  | none =>
    have hl0 : l0 = [] := by
      have := HR0.out
      cases l0 with
      | nil => rfl
      | cons a t => obtain ⟨ad, e, _⟩ := Kd.at_int HR0.out 0 (by decide) (by simp); cases e
    subst hl0
    have heq : ∀ W : World, Sem.run Try.prog (binOp .eql 30 (.slice none 0 c0) (.slice none 0 0)) W = .ok (.bool true) W := fun W => Lib.run_eql_slice_nil W 30 5 none _ c0 0 0 Try.underlying30
    show Calls Try.prog 94 #[.slice none 0 c0] w _
    go_enter Try.func94, Try.ntmps94
    go_wp2
    go_ret
    exact ⟨_, rfl, Kd.R_nil _ _ _ _ _, HB.out⟩
  | some a0 =>
    have heq : ∀ W : World, Sem.run Try.prog (binOp .eql 30 (.slice (some a0) l0.length c0) (.slice none 0 0)) W = .ok (.bool false) W := fun W => Lib.run_eql_slice_nil W 30 5 (some a0) _ c0 0 0 Try.underlying30
    go_enter Try.func94, Try.ntmps94
    go_wp2_with (first | ((with_reducible refine gate_dst (N := 5) rfl ?_); refine Kd.R_lit (Kd.int .u8) _ 5 ?hg (N := 5) ?hd (xs := ([] : List Int)) (inner := []) (ok := fun _ => True) (okp := fun _ => True) ?hr ?hp (fun _ hk => hk) trivial (Below.refl _ _) (Nat.le_refl _) (by simp) ?_; (case hd => rfl); (case hg => rfl); (case hr => first | (go_simp; done) | (go_simp; rfl)); (case hp => exact (Reps.none _ _)); intro v117 w5 ho6 hb hg_ hnew_; clear hg_ hnew_; have n0_ := Aside0.mk (Kd.R_lower ho6 (below_size (by repeat (first | (with_reducible first | exact HB.out | apply below_alloc | apply pw_below_drewN | apply below_drew1) | exact HB.out)))); have n1_ := Aside0.mk (below_step (by repeat (first | (with_reducible first | exact HB.out | apply below_alloc | apply pw_below_drewN | apply below_drew1) | exact HB.out)) hb); clear HB; have HO118 := n0_; have HB := n1_; clear n0_ n1_; clear hb ho6) | ((with_reducible refine gate_builtin (b := .append) (xs := #[.tmp 5, .tmp 6]) rfl ?_); at_builtin; refine Kd.R_append_rows (Kd.int .u8) (w0 := w) w.heap.size rfl (.tmp 5) (.tmp 6) 30 5 (.int .u8 0) 1 rfl Try.underlying30 infoB rfl (by decide) (by omega) v117 [] l0 _ _ _ (fun _ => True) (fun _ => False) rfl rfl ?aO ?aR (fun _ _ h => h) (fun _ h => h.elim) ?aF ?aB ?aS ?aL ?_; (case aR => repeat (first | exact (Kd.C_below HR0.out HB.out) | (with_reducible refine Kd.C_alloc ?_ _) | (with_reducible refine Kd.C_drewN ?_ _) | (with_reducible refine Kd.C_drew ?_))); (case aB => exact (by repeat (first | (with_reducible first | exact HB.out | apply below_alloc | apply pw_below_drewN | apply below_drew1) | exact HB.out))); (case aF => exact (fun _ _ => trivial)); (case aO => exact (by (with_reducible repeat (first | apply Kd.R_alloc | apply Kd.R_drewN | apply Kd.R_drew)); exact HO118.out)); (case aS => exact (below_size (by repeat (first | (with_reducible first | exact HB.out | apply below_alloc | apply pw_below_drewN | apply below_drew1) | exact HB.out)))); (case aL => have := LMc3.out; simp only [List.length_nil]; omega); intro v120 w7 ho hb hg hat; rw [List.nil_append] at ho; have n0_ := Aside0.mk (hb); have n1_ := Aside0.mk (ho); clear HB; clear HO118; have HB := n0_; have HO121 := n1_; clear n0_ n1_; clear ho hb hg hat))
    go_ret
    exact ⟨_, by first | rfl | (simp; done) | (simp [*]; done), by (with_reducible repeat (first | apply Kd.R_alloc | apply Kd.R_drewN | apply Kd.R_drew)); exact Kd.R_mono HO121.out (fun _ hk => trivial), by repeat (first | (with_reducible first | exact HB.out | apply below_alloc | apply pw_below_drewN | apply below_drew1) | exact HB.out)⟩
/-- slices.Clone of bytes that are read. -/
theorem clone_ {A : Option Addr} {n c : Nat} {l : List Int} {w : World} (hr : U8.C w A n l) (hc : n ≤ c) (hl : n < 140737488355328) :
    Calls Try.prog 94 #[.slice A n c] w fun e w' => ∃ v, e = .returned v ∧ Sep w w' [Row U8 5 v l] := by
  obtain rfl : l.length = n := hr.1
  refine (clone0 A c l l w hr hc (if_pos hl)).mono ?_
  rintro e w' ⟨v, rfl, hR, hB⟩
  exact ⟨v, rfl, (Sep.start w).newRow hR hB⟩
set_option maxHeartbeats 400000 in
theorem len_ {w0 W : World} {g : Nat} {las : List Int} {wt : Nat → Option (List Int)} {F : List HP} (h : Sep w0 W (Dsk g las wt :: F)) :
    Calls Try.prog 50 #[.pointer (some ⟨g, 0, none⟩)] W fun e w' => e = .returned (.int .i64 ((las.length : Int) / 64)) ∧ W = w' := by
  obtain ⟨gl, c, m, h0, h1, h2, h3, h4, h5, h6⟩ := reads_ h
  clear h h1 h3 h6
  go_enter Try.func50, Try.ntmps50
  go_wp2
  go_ret
  exact ⟨by first | rfl | (simp; done), rfl⟩
theorem ret_slice {g o o' n n' c c' : Nat} (h1 : o = o') (h2 : n = n') (h3 : c = c') : Ending.returned (.slice (some ⟨g, o, none⟩) n c) = Ending.returned (.slice (some ⟨g, o', none⟩) n' c') := by rw [h1, h2, h3]
set_option maxHeartbeats 400000 in
theorem there_ {w0 W : World} {g : Nat} {las : List Int} {wt : Nat → Option (List Int)} {F : List HP} (h : Sep w0 W (Dsk g las wt :: F)) (i : Int) :
    Calls Try.prog 93 #[.pointer (some ⟨g, 0, none⟩), .int .i64 i] W fun e w' => e = .returned (.bool (decide (0 ≤ i ∧ i < (las.length : Int) / 64))) ∧ W = w' := by
  by_cases h0 : 0 ≤ i
  all_goals
    go_enter Try.func93, Try.ntmps93
    go_wp2_with (go_at_call 50; refine (len_ h).mono ?_; rintro e w' ⟨rfl, rfl⟩)
    go_ret
    exact ⟨by simp [h0] <;> omega, rfl⟩
set_option maxHeartbeats 400000 in
theorem sector_ {W : World} {g gl L c i : Nat} (h0 : W.cell? ⟨g, 0, none⟩ = some (.slice (some ⟨gl, 0, none⟩) L c)) (hi : 64 * (i + 1) ≤ L) (hL : L ≤ 10240) (hc : L ≤ c) :
    Calls Try.prog 101 #[.pointer (some ⟨g, 0, none⟩), .int .i64 (i : Int)] W fun e w' => e = .returned (.slice (some ⟨gl, 64 * i, none⟩) 64 (c - 64 * i)) ∧ W = w' := by
  go_enter Try.func101, Try.ntmps101
  go_wp2
  go_ret
  exact ⟨ret_slice (by omega) (by omega) (by omega), rfl⟩
set_option maxHeartbeats 400000 in
theorem image_ {w0 W : World} {g : Nat} {las : List Int} {wt : Nat → Option (List Int)} {F : List HP} (h : Sep w0 W (Dsk g las wt :: F)) :
    Calls Try.prog 48 #[.pointer (some ⟨g, 0, none⟩)] W fun e w' => ∃ v, e = .returned v ∧ Sep w0 w' (Row U8 5 v las :: Dsk g las wt :: F) := by
  obtain ⟨gl, c, m, h0, h1, h2, h3, h4, h5, h6⟩ := reads_ h
  have H3 := Aside0.mk h3
  clear h1 h3 h6
  go_enter Try.func48, Try.ntmps48
  go_wp2_with (go_at_call 94; refine (clone_ H3.out h2 (by omega)).mono ?_; rintro e w' ⟨v, rfl, hS⟩)
  go_ret
  exact ⟨_, by first | rfl | (simp; done), h.lift1 hS⟩
end Go.Proofs.Ytjngnigelkgekaa.Disk
