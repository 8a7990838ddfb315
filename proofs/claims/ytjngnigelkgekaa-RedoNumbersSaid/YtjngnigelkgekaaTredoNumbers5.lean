/- Secs, Disk3, Disk4, Iter, Disk5, Disk6, Disk7, Crash, Keys, Disk8, Disk9, Book, Law1a, Law1b, DiskOf, Law1c, Ref1: what RedoNumbers needs. -/
import Derived.Test.YtjngnigelkgekaaTredoNumbers4
import Derived.Maps.RangeRun
import Derived.Deep.LoopGhost
import Derived.Test.YtjngnigelkgekaaShelf
import Derived.Maps.Keyed
import Derived.WalkArith
import Derived.Test.YtjngnigelkgekaaProg
import Derived.WalkKit
import Derived.KernelRfl
import Derived.WalkSpells
import Derived.RegionCalls
import Derived.Deep.RegionWith
namespace Go.Proofs.Ytjngnigelkgekaa.Kit
set_option linter.unusedVariables false
/-- The bytes of one sector. -/
def sec (l : List Int) (i : Nat) : List Int := (l.drop (64 * i)).take 64
theorem sec_len {l : List Int} {i : Nat} (h : 64 * (i + 1) ≤ l.length) : (sec l i).length = 64 := by
  unfold sec; rw [List.length_take, List.length_drop]; omega
theorem sec_get (l : List Int) (i j : Nat) (hj : j < 64) : (sec l i)[j]? = l[64 * i + j]? := by
  unfold sec; rw [List.getElem?_take, if_pos hj, List.getElem?_drop]
/-- n sectors in a row. -/
def secs (n : Nat) (f : Nat → List Int) : List Int := (List.range n).flatMap f
theorem secs_succ (n : Nat) (f : Nat → List Int) : secs (n + 1) f = secs n f ++ f n := by
  unfold secs; rw [List.range_succ, List.flatMap_append]; simp
theorem secs_len {f : Nat → List Int} : ∀ {n : Nat}, (∀ i, i < n → (f i).length = 64) → (secs n f).length = 64 * n
  | 0, _ => rfl
  | n + 1, h => by rw [secs_succ, List.length_append, secs_len (fun i hi => h i (by omega)), h n (by omega)]; omega
theorem secs_get {f : Nat → List Int} : ∀ {n : Nat}, (∀ i, i < n → (f i).length = 64) → ∀ p, (secs n f)[p]? = if p < 64 * n then (f (p / 64))[p % 64]? else none
  | 0, _, p => by simp [secs]
  | n + 1, h, p => by
    have hl := secs_len (n := n) (f := f) (fun i hi => h i (by omega))
    rw [secs_succ]
    by_cases h1 : p < 64 * n
    · rw [List.getElem?_append_left (by omega), secs_get (fun i hi => h i (by omega)), if_pos h1, if_pos (by omega)]
    · rw [List.getElem?_append_right (by omega), hl]
      by_cases h2 : p < 64 * (n + 1)
      · rw [if_pos h2, show p / 64 = n by omega, show p - 64 * n = p % 64 by omega]
      · rw [if_neg h2, List.getElem?_eq_none (by have := h n (by omega); omega)]
theorem secs_congr {n : Nat} {f g : Nat → List Int} (h : ∀ i, i < n → f i = g i) : secs n f = secs n g := by
  unfold secs
  rw [List.flatMap_def, List.flatMap_def]
  congr 1
  exact List.map_congr_left (fun i hi => h i (List.mem_range.1 hi))
theorem secs_self {l : List Int} {n : Nat} (h : l.length = 64 * n) : secs n (sec l) = l := by
  apply List.ext_getElem?
  intro p
  rw [secs_get (fun i hi => sec_len (by omega))]
  by_cases hp : p < 64 * n
  · rw [if_pos hp, sec_get _ _ _ (by omega), show 64 * (p / 64) + p % 64 = p by omega]
  · rw [if_neg hp, List.getElem?_eq_none (by omega)]
theorem sec_secs {f : Nat → List Int} {n i : Nat} (h : ∀ i, i < n → (f i).length = 64) (hi : i < n) : sec (secs n f) i = f i := by
  apply List.ext_getElem?
  intro j
  by_cases hj : j < 64
  · rw [sec_get _ _ _ hj, secs_get h, if_pos (by omega), show (64 * i + j) / 64 = i by omega, show (64 * i + j) % 64 = j by omega]
  · rw [List.getElem?_eq_none (by rw [sec_len]; omega; rw [secs_len h]; omega), List.getElem?_eq_none (by rw [h i hi]; omega)]
/-- A sector, or its beginning, laid anew. -/
theorem over_secs {f : Nat → List Int} {n i : Nat} {b : List Int} (h : ∀ i, i < n → (f i).length = 64) (hi : i < n) (hb : b.length ≤ 64) :
    over (secs n f) (64 * i) b = secs n (fun k => if k = i then b ++ (f k).drop b.length else f k) := by
  have hl := secs_len h
  have h' : ∀ k, k < n → ((fun k => if k = i then b ++ (f k).drop b.length else f k) k).length = 64 := fun k hk => by
    have := h k hk
    dsimp only
    split
    · rw [List.length_append, List.length_drop]; omega
    · exact this
  apply List.ext_getElem?
  intro p
  rw [over_get (by omega), secs_get h, secs_get h']
  by_cases hp : p < 64 * n
  · rw [if_pos hp, if_pos hp]
    by_cases hk : p / 64 = i
    · rw [if_pos hk]
      by_cases h1 : p < 64 * i + b.length
      · rw [if_pos (by omega), List.getElem?_append_left (by omega)]; congr 1; omega
      · rw [if_neg (by omega), List.getElem?_append_right (by omega), List.getElem?_drop]; congr 1; omega
    · rw [if_neg hk, if_neg (by omega)]
  · rw [if_neg hp, if_neg hp, if_neg (by omega)]
end Go.Proofs.Ytjngnigelkgekaa.Kit
namespace Go.Proofs.Ytjngnigelkgekaa.Disk
set_option linter.unusedVariables false
set_option linter.unusedSimpArgs false
open Go.RowKit Go.Proofs.YtjngnigelkgekaaW.PrintWords Go.Proofs.YtjngnigelkgekaaW.PrintLast Go.Proofs.YtjngnigelkgekaaW.PrintMore Go.Proofs.Ytjngnigelkgekaa.Kit
/-- A piece of a row that is read. -/
theorem C_piece {W : World} {g n : Nat} {l : List Int} (h : U8.C W (some ⟨g, 0, none⟩) n l) (o m : Nat) (hm : o + m ≤ n) : U8.C W (some ⟨g, o, none⟩) m ((l.drop o).take m) := by
  have hl := h.1
  have hr := Kd.reads_of_C (d := (0 : Int)) h
  refine Kd.C_of_reads (d := (0 : Int)) ⟨by rw [List.length_take, List.length_drop]; omega, by have := h.2.1; omega, fun h0 => ⟨_, rfl, fun j hj => ?_⟩⟩
  obtain ⟨ad, ha, hc⟩ := hr.2.2 (by omega)
  cases ha
  have := hc (o + j) (by omega)
  rw [add_at, Nat.zero_add] at this
  rw [add_at, this]
  congr 2
  rw [List.getD_eq_getElem?_getD, List.getD_eq_getElem?_getD, List.getElem?_take, if_pos hj, List.getElem?_drop]
theorem find_split {ents : List Ent} {i : Nat} {e : Ent} (h : ents.find? (fun e => e.k == i) = some e) : ∃ pre post, ents = pre ++ e :: post ∧ e.k = i ∧ ∀ x ∈ pre, x.k ≠ i := by
  rw [List.find?_eq_some_iff_append] at h
  obtain ⟨h1, pre, post, h2, h3⟩ := h
  exact ⟨pre, post, h2, by simpa using h1, fun x hx => by have := h3 x hx; simpa using this⟩
theorem find_not {ents : List Ent} {i : Nat} (h : ents.find? (fun e => e.k == i) = none) : ∀ x ∈ ents, x.k ≠ i := by
  rw [List.find?_eq_none] at h
  exact fun x hx => by have := h x hx; simpa using this
theorem zeroS (W : World) : (zeroValue 30).run Try.prog W = .ok (.slice none 0 0) W := by kernel_rfl
/-- What a lookup among the sectors that wait comes to. -/
theorem look_ {w0 W : World} {g m clock : Nat} {ents : List Ent} {las : List Int} {wt : Nat → Option (List Int)} {F : List HP} (hok : DskOk las ents clock wt) (h : Sep w0 W (MapB m (ens (ents.map Ent.en)) clock :: (ents.map Ent.rd ++ F))) (i : Nat) :
    (wt i = none ∧ (Instr.lookup 94 (.map (some m)) (.int .i64 (i : Int)) true).run Try.prog W = .ok (.tuple #[.slice none 0 0, .bool false]) W) ∨
    ∃ b A c, wt i = some b ∧ 64 ≤ c ∧ b.length = 64 ∧ U8.C W A 64 b ∧ (Instr.lookup 94 (.map (some m)) (.int .i64 (i : Int)) true).run Try.prog W = .ok (.tuple #[.slice A 64 c, .bool true]) W ∧
      (Instr.lookup 94 (.map (some m)) (.int .i64 (i : Int)) false).run Try.prog W = .ok (.slice A 64 c) W := by
  have hw := hok.wt i
  cases hf : ents.find? (fun e => e.k == i) with
  | none =>
    rw [hf] at hw
    refine .inl ⟨hw, lookup_none Try.underlying94 Try.underlying3 zeroS h.map _ (fun e he => ?_)⟩
    obtain ⟨x, hx, rfl⟩ := List.mem_map.1 he
    have := find_not hf x hx
    show (x.k : Int) ≠ i
    omega
  | some e =>
    rw [hf] at hw
    obtain ⟨pre, post, rfl, rfl, hp⟩ := find_split hf
    have he := hok.each e (by simp)
    have hm := h.map
    rw [List.map_append, List.map_cons] at hm
    have hpre : ∀ x ∈ pre.map Ent.en, x.k ≠ e.en.k := fun y hy => by
      obtain ⟨x, hx, rfl⟩ := List.mem_map.1 hy
      have := hp x hx
      show (x.k : Int) ≠ (e.k : Int)
      omega
    have hC : U8.C W e.A 64 e.b := by
      have h2 := h.tail
      rw [List.map_append, List.map_cons, List.append_assoc, List.cons_append] at h2
      exact h2.weak.rd
    exact .inr ⟨e.b, e.A, e.c, hw, he.2.2.2, he.2.2.1, hC, lookup_some (e := e.en) Try.underlying94 Try.underlying3 hm hpre, lookup1_some (e := e.en) Try.underlying94 Try.underlying3 hm hpre⟩
set_option maxHeartbeats 400000 in
theorem read_in {w0 W : World} {g : Nat} {las : List Int} {wt : Nat → Option (List Int)} {F : List HP} (h : Sep w0 W (Dsk g las wt :: F)) (i : Nat) (hi : 64 * (i + 1) ≤ las.length) :
    Calls Try.prog 56 #[.pointer (some ⟨g, 0, none⟩), .int .i64 (i : Int)] W fun e w' => ∃ v, e = .returned (.tuple #[v, .bool true]) ∧ Sep w0 w' (Row U8 5 v ((wt i).getD (sec las i)) :: Dsk g las wt :: F) := by
  obtain ⟨v, m, ents, clock, hok, hs⟩ := open_ h
  obtain ⟨p1, p2, p3⟩ := hok.pos
  obtain ⟨gl, c, rfl⟩ := hs.tail.rowForm (by omega)
  have hr := hs.tail.rowC
  have c0 : W.cell? ⟨g, 0, none⟩ = some (.slice (some ⟨gl, 0, none⟩) las.length c) := by rw [hs.cell 0]; rfl
  have c1 : W.cell? ⟨g, 1, none⟩ = some (.map (some m)) := by rw [hs.cell 1]; rfl
  have hd : decide (0 ≤ (i : Int) ∧ (i : Int) < (las.length : Int) / 64) = true := decide_eq_true (by omega)
  have HP3 := Aside0.mk hr
  have HC := Aside0.mk (C_piece hr.2.2 (64 * i) 64 (by omega))
  have hlook := look_ (g := g) hok hs.tail.tail i
  clear p3 hr hok
  rcases hlook with ⟨hn, hl⟩ | ⟨b, A, cb, hn, hcb, hbl, hCb, hl, -⟩
  · have HN := Aside0.mk hn
    clear hn
    go_enter Try.func56, Try.ntmps56
    go_wp2_with (first | (go_at_call 93; refine (there_ h i).mono ?_; rintro e w' ⟨rfl, rfl⟩; rw [hd]) | (go_at_call 101; refine (sector_ c0 hi p2 HP3.out.2.1).mono ?_; rintro e w' ⟨rfl, rfl⟩) | (go_at_call 94; refine (clone_ HC.out (by have := HP3.out.2.1; omega) (by omega)).mono ?_; rintro e w1 ⟨v, rfl, hS⟩))
    go_ret2
    refine ⟨_, by first | rfl | (simp; done), ?_⟩
    rw [HN.out]
    exact h.lift1 hS
  · have HN := Aside0.mk hn
    have HB := Aside0.mk hbl
    clear hn hbl
    go_enter Try.func56, Try.ntmps56
    go_wp2_with (first | (go_at_call 93; refine (there_ h i).mono ?_; rintro e w' ⟨rfl, rfl⟩; rw [hd]) | (go_at_call 94; refine (clone_ hCb (by omega) (by omega)).mono ?_; rintro e w1 ⟨v, rfl, hS⟩))
    go_ret2
    refine ⟨_, by first | rfl | (simp; done), ?_⟩
    rw [HN.out]
    exact h.lift1 hS
end Go.Proofs.Ytjngnigelkgekaa.Disk
namespace Go.Proofs.Ytjngnigelkgekaa.Disk
set_option linter.unusedVariables false
set_option linter.unusedSimpArgs false
open Go.RowKit Go.Proofs.YtjngnigelkgekaaW.PrintWords Go.Proofs.YtjngnigelkgekaaW.PrintLast Go.Proofs.YtjngnigelkgekaaW.PrintMore Go.Proofs.Ytjngnigelkgekaa.Kit
theorem not_ens {ents : List Ent} {i : Nat} (h : ∀ x ∈ ents, x.k ≠ i) : ∀ e ∈ ents.map Ent.en, e.k ≠ (i : Int) := fun y hy => by
  obtain ⟨x, hx, rfl⟩ := List.mem_map.1 hy
  have := h x hx
  show (x.k : Int) ≠ (i : Int)
  omega
/-- What a store among the sectors that wait leaves. -/
theorem upd_ {w0 W : World} {g m clock c1 : Nat} {A1 : Option Addr} {v : Value} {ents : List Ent} {las b : List Int} {wt : Nat → Option (List Int)} {F : List HP} (hok : DskOk las ents clock wt)
    (h : Sep w0 W (Row U8 5 (.slice A1 64 c1) b :: Blk g 96 #[v, .map (some m)] :: Row U8 5 v las :: MapB m (ens (ents.map Ent.en)) clock :: (ents.map Ent.rd ++ F))) (i : Nat) (hi : 64 * i < las.length) :
    ∃ W', (Instr.mapUpdate 94 (.map (some m)) (.int .i64 (i : Int)) (.slice A1 64 c1)).run Try.prog W = .ok () W' ∧ Sep w0 W' (Dsk g las (fun j => if j = i then some b else wt j) :: F) := by
  have hC := h.rowC
  have hb : b.length = 64 := hC.1.symm
  have hm := h.tail.tail.tail.map
  have h1 : Sep w0 W (MapB m (ens (ents.map Ent.en)) clock :: Rd U8 A1 64 b :: Blk g 96 #[v, .map (some m)] :: Row U8 5 v las :: (ents.map Ent.rd ++ F)) := h.rowRd.at4
  cases hf : ents.find? (fun e => e.k == i) with
  | none =>
    have hn := find_not hf
    refine ⟨_, update_new Try.underlying94 Try.underlying3 hm _ _ (not_ens hn), ?_⟩
    have h2 := h1.setMap (ens (ents.map Ent.en ++ [⟨(i : Int), .slice A1 64 c1, clock⟩])) (clock + 1)
    refine shut_ (v := v) (m := m) (ents := ents ++ [⟨i, b, A1, c1, clock⟩]) (clock := clock + 1) ?_ ?_
    · refine ⟨hok.len, ?_, ?_, ?_, ?_⟩
      · rw [List.map_append, List.nodup_append]
        refine ⟨hok.keys, by simp, fun x hx y hy => ?_⟩
        obtain ⟨e, he, rfl⟩ := List.mem_map.1 hx
        simp at hy; subst hy
        exact hn e he
      · rw [List.map_append, List.nodup_append]
        refine ⟨hok.borns, by simp, fun x hx y hy => ?_⟩
        obtain ⟨e, he, rfl⟩ := List.mem_map.1 hx
        simp at hy; subst hy
        have := (hok.each e he).1; omega
      · intro e he
        rcases List.mem_append.1 he with he | he
        · have := hok.each e he; exact ⟨by omega, this.2⟩
        · simp at he; subst he; exact ⟨by simp, hi, hb, hC.2.1⟩
      · intro j
        rw [List.find?_append]
        by_cases hj : j = i
        · subst hj
          rw [hf]; simp
        · have hne : (i == j) = false := by simp; omega
          simp only [if_neg hj, hok.wt j]
          cases ents.find? (fun e => e.k == j) <;> simp [hne]
    · rw [List.map_append, List.map_append]
      refine h2.to4.to4.perm (.cons _ (.cons _ (.cons _ ?_)))
      rw [List.append_assoc]
      exact List.perm_middle.symm
  | some e =>
    obtain ⟨pre, post, rfl, rfl, hp⟩ := find_split hf
    rw [List.map_append, List.map_cons] at hm
    refine ⟨_, update_old (e := e.en) Try.underlying94 Try.underlying3 hm _ (not_ens hp), ?_⟩
    have h2 := h1.setMap (ens (pre.map Ent.en ++ ⟨(e.k : Int), .slice A1 64 c1, e.born⟩ :: post.map Ent.en)) clock
    refine shut_ (v := v) (m := m) (ents := pre ++ ⟨e.k, b, A1, c1, e.born⟩ :: post) (clock := clock) ?_ ?_
    · refine ⟨hok.len, ?_, ?_, ?_, ?_⟩
      · have := hok.keys; simpa using this
      · have := hok.borns; simpa using this
      · intro x hx
        rcases List.mem_append.1 hx with hx | hx
        · exact hok.each x (by simp [hx])
        · rcases List.mem_cons.1 hx with rfl | hx
          · exact ⟨(hok.each e (by simp)).1, hi, hb, hC.2.1⟩
          · exact hok.each x (by simp [hx])
      · intro j
        rw [List.find?_append, List.find?_cons]
        have hw := hok.wt j
        rw [List.find?_append, List.find?_cons] at hw
        by_cases hj : j = e.k
        · subst hj
          have : pre.find? (fun x => x.k == e.k) = none := by
            rw [List.find?_eq_none]; intro x hx; simpa using hp x hx
          rw [this]; simp
        · have hne : (e.k == j) = false := by simp; omega
          simp only [if_neg hj, hw, hne]
    · rw [List.map_append, List.map_cons, List.map_append, List.map_cons]
      rw [List.map_append, List.map_cons] at h2
      refine Sep.tail (p := e.rd) (h2.to4.to4.perm ?_)
      rw [List.append_assoc, List.append_assoc, List.cons_append, List.cons_append]
      refine ((List.Perm.cons _ (.cons _ (.cons _ ?_))).trans (List.perm_middle (l₁ := [_, _, _])))
      exact (List.Perm.cons _ List.perm_middle).trans ((List.Perm.swap _ _ _).trans (.cons _ List.perm_middle.symm))
/-- Write where there is no such sector, or no such length. -/
theorem write_out {w0 W : World} {g : Nat} {las : List Int} {wt : Nat → Option (List Int)} {F : List HP} (h : Sep w0 W (Dsk g las wt :: F)) (i : Int) {A : Option Addr} {n c : Nat} (hm : n ≤ 9223372036854775807) (hi : ¬ (0 ≤ i ∧ i < (las.length : Int) / 64) ∨ n ≠ 64) :
    Calls Try.prog 45 #[.pointer (some ⟨g, 0, none⟩), .int .i64 i, .slice A n c] W fun e w' => e = .returned (.bool false) ∧ W = w' := by
  by_cases h1 : 0 ≤ i ∧ i < (las.length : Int) / 64
  · have hd : decide (0 ≤ i ∧ i < (las.length : Int) / 64) = true := decide_eq_true h1
    have hn : ((n : Int) != 64) = true := by have := hi.resolve_left (fun h => h h1); simp; omega
    clear hi h1
    go_enter Try.func45, Try.ntmps45
    go_wp2_with (go_at_call 93; refine (there_ h i).mono ?_; rintro e w' ⟨rfl, rfl⟩; rw [hd])
    go_ret
    exact ⟨by first | rfl | (simp; done), rfl⟩
  · have hd : decide (0 ≤ i ∧ i < (las.length : Int) / 64) = false := decide_eq_false h1
    clear hi h1
    go_enter Try.func45, Try.ntmps45
    go_wp2_with (go_at_call 93; refine (there_ h i).mono ?_; rintro e w' ⟨rfl, rfl⟩; rw [hd])
    go_ret
    exact ⟨by first | rfl | (simp; done), rfl⟩
set_option maxHeartbeats 400000 in
set_option maxRecDepth 100000 in
theorem write_in {w0 W : World} {g : Nat} {las : List Int} {wt : Nat → Option (List Int)} {F : List HP} (h : Sep w0 W (Dsk g las wt :: F)) (i : Nat) (hi : 64 * (i + 1) ≤ las.length) {A : Option Addr} {c : Nat} {b : List Int} (hb : U8.C W A 64 b) (hc : 64 ≤ c) :
    Calls Try.prog 45 #[.pointer (some ⟨g, 0, none⟩), .int .i64 (i : Int), .slice A 64 c] W fun e w' => e = .returned (.bool true) ∧ Sep w0 w' (Dsk g las (fun j => if j = i then some b else wt j) :: F) := by
  obtain ⟨v, m, ents, clock, hok, hs⟩ := open_ h
  obtain ⟨p1, p2, p3⟩ := hok.pos
  have hd : decide (0 ≤ (i : Int) ∧ (i : Int) < (las.length : Int) / 64) = true := decide_eq_true (by omega)
  have HI := Aside0.mk hi
  have HB := Aside0.mk hb
  have HOK := Aside0.mk hok
  have hbl : b.length = 64 := hb.1
  have HBL := Aside0.mk hbl
  clear p3 hok hb hi hbl
  go_enter Try.func45, Try.ntmps45
  go_wp2_with (go_at_call 93; refine (there_ h i).mono ?_; rintro e w' ⟨rfl, rfl⟩; rw [hd])
  refine start_ (n := 8) (S := fun w' => w'.cell? ⟨g, 1, none⟩ = some (.map (some m))) (ds := [7]) #[false, false, false, false, false, false, false, false] (by kernel_rfl) rfl rfl (by rw [hs.drew.cell 1]; rfl) (fun hHeld => ?_)
  refine pure_ (i := 0) (N := some 16) (v := ?_) (a' := ?_) #[true, false, false, false, false, false, false, false] rfl rfl (by kernel_rfl) (fun _ _ _ h => h) (Or.inl ⟨by rfl, ?_⟩) ?_ ?_
  rotate_left
  · intro w'
    go_simp
    with_reducible rfl
  rotate_left
  · simp only [Act.put, List.setIfInBounds_toArray, List.set_cons_zero, List.set_cons_succ, i64_w, i32_w]
    rfl
  refine pure_ (i := 1) (N := some 17) (v := ?_) (a' := ?_) #[true, true, false, false, false, false, false, false] rfl rfl (by kernel_rfl) (fun _ _ _ h => h) (Or.inl ⟨by rfl, ?_⟩) ?_ ?_
  rotate_left
  · intro w'
    go_simp
    with_reducible rfl
  rotate_left
  · simp only [Act.put, List.setIfInBounds_toArray, List.set_cons_zero, List.set_cons_succ, i64_w, i32_w]
    rfl
  refine pure_ (i := 2) (N := some 18) (v := ?_) (a' := ?_) #[true, true, true, false, false, false, false, false] rfl rfl (by kernel_rfl) (fun _ _ _ h => h) (Or.inl ⟨by rfl, ?_⟩) ?_ ?_
  rotate_left
  · intro w'
    go_simp
    with_reducible rfl
  rotate_left
  · simp only [Act.put, List.setIfInBounds_toArray, List.set_cons_zero, List.set_cons_succ, i64_w, i32_w]
    rfl
  refine pure_ (i := 4) (N := some 20) (v := ?_) (a' := ?_) #[true, true, true, false, true, false, false, false] rfl rfl (by kernel_rfl) (fun _ _ _ h => h) (Or.inl ⟨by rfl, ?_⟩) ?_ ?_
  rotate_left
  · intro w'
    go_simp
    with_reducible rfl
  rotate_left
  · simp only [Act.put, List.setIfInBounds_toArray, List.set_cons_zero, List.set_cons_succ, i64_w, i32_w]
    rfl
  refine pure_ (i := 5) (N := some 21) (v := ?_) (a' := ?_) #[true, true, true, false, true, true, false, false] rfl rfl (by kernel_rfl) (fun _ _ _ h => h) (Or.inl ⟨by rfl, ?_⟩) ?_ ?_
  rotate_left
  · intro w'
    go_simp
    with_reducible rfl
  rotate_left
  · simp only [Act.put, List.setIfInBounds_toArray, List.set_cons_zero, List.set_cons_succ, i64_w, i32_w]
    rfl
  refine take_ (i := 3) (N := some 19) (v := ?_) (a' := ?_) #[true, true, true, true, true, true, false, false] rfl rfl (by kernel_rfl) (fun _ _ _ h => h) (Or.inl ⟨by rfl, ?_⟩) hHeld ?_ ?_
  rotate_left
  · intro w' s0
    go_simp
    with_reducible rfl
  rotate_left
  · simp only [Act.put, List.setIfInBounds_toArray, List.set_cons_zero, List.set_cons_succ, i64_w, i32_w]
    rfl
  refine one_ (i := 6) (N := some 22) #[true, true, true, true, true, true, true, false] rfl rfl (by kernel_rfl) (by decide) (fun K hK => ?_)
  refine goes_ Try.func94 (by kernel_rfl) rfl #[.slice A 64 c] (by rfl) rfl rfl (by simp only [List.map_toArray, List.map_cons, List.map_nil]; rfl) ?_
  with_reducible refine (clone_ (w := W.drew) (Kd.C_drew HB.out) hc (by omega)).mono ?_
  rintro e w3 ⟨v3, rfl, hS1⟩
  refine ⟨_, rfl, ?_⟩
  have hs3 := hs.drew.lift1 hS1
  obtain ⟨A1, c1, rfl⟩ := hs3.rowN HBL.out
  refine hK.out _ _ (by rw [hs3.tail.cell 1]; rfl) (fun hHeld => ?_)
  clear hK K
  refine norm_ (a' := ?_) ?_ ?_
  rotate_left
  · show Act.put _ (some 22) _ = _
    simp only [Act.put, List.setIfInBounds_toArray, List.set_cons_zero, List.set_cons_succ, i64_w, i32_w]
    rfl
  refine last_ (i := 7) (N := none) #[true, true, true, true, true, true, true, true] rfl rfl (by kernel_rfl) (by decide) (fun K hK => ?_)
  obtain ⟨W4, hup, hfin⟩ := upd_ HOK.out hs3 i (by have := HI.out; omega)
  refine skip_ (w1 := ?_) (by rfl) rfl ?_ ?_
  rotate_left
  · go_simp
    rfl
  refine hK.out _ _ ?_
  clear hK K
  refine done_ (by kernel_rfl) ?_
  go_wp2
  go_ret
  exact ⟨by first | rfl | (simp; done), hfin⟩
end Go.Proofs.Ytjngnigelkgekaa.Disk
namespace Go.Proofs.Ytjngnigelkgekaa.Kit
set_option linter.unusedVariables false
set_option linter.unusedSimpArgs false
open Go.RowKit Go.Proofs.YtjngnigelkgekaaW.PrintWords Go.Proofs.YtjngnigelkgekaaW.PrintLast Go.Proofs.YtjngnigelkgekaaW.PrintMore
/-- A block, whatever it is. -/
def Ob (g : Nat) (o : Obj) : HP where
  P W ok := (∀ k, ok k ↔ k = g) ∧ W.heap[g]? = some o
  loc := fun h hm => ⟨h.1, (hm _ ((h.1 _).2 rfl)).trans h.2⟩
  bnd := fun h k hk => by rw [(h.1 k).1 hk]; exact blk_lt h.2
namespace Sep
variable {w0 W W' : World} {F : List HP} {g : Nat} {o : Obj}
theorem ob (h : Sep w0 W (Ob g o :: F)) : W.heap[g]? = some o := by
  obtain ⟨ok, hp, _⟩ := h.sep; exact hp.2
theorem newOb (h : Sep w0 W F) (o : Obj) : Sep w0 (W.alloc o) (Ob W.heap.size o :: F) :=
  h.gain (below_alloc (Below.refl _ _) _) (ok := fun k => k = W.heap.size) ⟨fun _ => Iff.rfl, blk_new W _⟩ (fun k hk => by omega)
theorem setOb (h : Sep w0 W (Ob g o :: F)) (o' : Obj) : Sep w0 { W with heap := W.heap.setIfInBounds g o' } (Ob g o' :: F) :=
  h.step ⟨rfl, rfl, rfl, by simp⟩ (fun ok hp => ⟨fun k _ hn => by
    have hne : g ≠ k := fun he => hn ((hp.1 k).2 he.symm)
    simp [Array.getElem?_setIfInBounds, hne], ok, ⟨hp.1, by
    have hlt := blk_lt hp.2
    simp [Array.getElem?_setIfInBounds, hlt]⟩, fun k hk => .inl hk⟩)
end Sep
def itObj (m clock : Nat) (seen : List Nat) : Obj := .mapIter (some m) clock seen.toArray clock
section
variable {P : Program} {T K E : TypeId} {m r clock : Nat} {w0 W : World} {l : List En} {F : List HP}
theorem range_run (hT : P.underlying T = some (.map K E)) (hm : W.heap[m]? = some (.map (ens l) clock)) :
    (Instr.range T (.map (some m))).run P W = .ok (.pointer (some ⟨W.heap.size, 0, none⟩)) (W.alloc (itObj m clock [])) := by
  simp [Instr.range, run_underlying hT, get_map hm, itObj]
/-- What the next step of a range comes to. -/
theorem next_run {seen : List Nat} (h : Sep w0 W (Ob r (itObj m clock seen) :: MapB m (ens l) clock :: F)) (hb : ∀ e ∈ l, e.born < clock) (hn : (l.map (·.born)).Nodup) (ty : TypeId) :
    ((∀ e ∈ l, e.born ∈ seen) ∧ (Instr.next (.pointer (some ⟨r, 0, none⟩)) false ty).run P W = .ok (.tuple #[.bool false]) W) ∨
    ∃ e ∈ l, e.born ∉ seen ∧ ∃ W', (Instr.next (.pointer (some ⟨r, 0, none⟩)) false ty).run P W = .ok (.tuple #[.bool true, .int .i64 e.k, e.v]) W' ∧
      Sep w0 W' (Ob r (itObj m clock (seen ++ [e.born])) :: MapB m (ens l) clock :: F) ∧ (Instr.entry (.pointer (some ⟨r, 0, none⟩))).run P W' = .ok (.tuple #[.int .i64 e.k, e.v]) W' := by
  have hr := h.ob
  have hm := h.tail.map
  have hold : ∀ x ∈ (ens l).toList, x.born < clock := fun x hx => by
    obtain ⟨e, he, rfl⟩ := List.mem_map.1 (by simpa [ens] using hx)
    exact hb e he
  have hnd : ((ens l).toList.map (·.born)).Nodup := by
    have : (ens l).toList.map (·.born) = l.map (·.born) := by simp [ens, En.toE]
    rw [this]; exact hn
  have hleft : ∀ x, x ∈ (leftOf (ens l) seen.toArray).toList ↔ ∃ e ∈ l, e.toE = x ∧ e.born ∉ seen := fun x => by
    simp only [leftOf, ens, Array.toList_filter, List.mem_filter, List.mem_map]
    constructor
    · rintro ⟨⟨e, he, rfl⟩, h2⟩
      exact ⟨e, he, rfl, by simpa [En.toE] using h2⟩
    · rintro ⟨e, he, rfl, h2⟩
      exact ⟨⟨e, he, rfl⟩, by simpa [En.toE] using h2⟩
  rcases run_next_at (P := P) W ty r m clock clock seen.toArray (ens l) clock hr hm hold (Nat.le_refl _) with ⟨h0, h1⟩ | ⟨x, hx, w1, hw, h1⟩
  · refine .inl ⟨fun e he => Classical.not_not.1 fun hne => ?_, h1⟩
    have := (hleft e.toE).2 ⟨e, he, rfl, hne⟩
    rw [Array.size_eq_zero_iff.1 h0] at this
    simp at this
  · obtain ⟨e, he, rfl, hne⟩ := (hleft x).1 hx
    have hw' : Sep w0 w1 (Ob r (itObj m clock seen) :: MapB m (ens l) clock :: F) := by
      rcases hw with rfl | rfl
      · exact h
      · exact h.drew
    have h2 := hw'.setOb (itObj m clock (seen ++ [e.born]))
    have e1 : (seen.toArray.push e.born) = (seen ++ [e.born]).toArray := by simp
    refine .inr ⟨e, he, hne, _, by rw [h1]; rfl, ?_, ?_⟩
    · have : ChangeMaps.setBlock w1 r (.mapIter (some m) clock (seen.toArray.push e.toE.born) clock) = { w1 with heap := w1.heap.setIfInBounds r (itObj m clock (seen ++ [e.born])) } := by
        simp [ChangeMaps.setBlock, itObj, En.toE]
      rw [this]; exact h2
    · have hq : ChangeMaps.setBlock w1 r (.mapIter (some m) clock (seen.toArray.push e.toE.born) clock) = { w1 with heap := w1.heap.setIfInBounds r (itObj m clock (seen ++ [e.born])) } := by
        simp [ChangeMaps.setBlock, itObj, En.toE]
      rw [hq]
      have hrr := h2.ob
      exact run_entry_at _ r m clock seen.toArray (ens l) clock e.toE (by rw [hrr]; simp [itObj, En.toE]) h2.tail.map (by simp [ens]; exact ⟨e, he, rfl⟩) hnd
end
end Go.Proofs.Ytjngnigelkgekaa.Kit
namespace Go.Proofs.Ytjngnigelkgekaa.Disk
set_option linter.unusedVariables false
set_option linter.unusedSimpArgs false
open Go.RowKit Go.Proofs.YtjngnigelkgekaaW.PrintWords Go.Proofs.YtjngnigelkgekaaW.PrintLast Go.Proofs.YtjngnigelkgekaaW.PrintMore Go.Proofs.Ytjngnigelkgekaa.Kit
/-- The sectors with some laid over them. -/
def laid (las : List Int) (done : List Ent) : List Int := secs (las.length / 64) (fun i => ((done.find? (fun e => e.k == i)).map (·.b)).getD (sec las i))
def flushed (las : List Int) (wt : Nat → Option (List Int)) : List Int := secs (las.length / 64) (fun i => (wt i).getD (sec las i))
def leftN (ents : List Ent) (seen : List Nat) : Nat := (ents.filter (fun e => !seen.contains e.born)).length
theorem left_le (seen : List Nat) (s : Nat) : ∀ ents : List Ent, leftN ents (seen ++ [s]) ≤ leftN ents seen
  | [] => Nat.le_refl _
  | x :: l => by
    have := left_le seen s l
    unfold leftN at *
    simp only [List.filter_cons]
    by_cases h1 : x.born ∈ seen
    · have h2 : x.born ∈ seen ++ [s] := by simp [h1]
      simp [h1]; simpa using this
    · by_cases h2 : x.born = s
      · have h3 : s ∉ seen := h2 ▸ h1
        simp [h3, h2]; simp at this; omega
      · simp [h1, h2]; simpa using this
theorem left_lt {seen : List Nat} {e : Ent} (hs : e.born ∉ seen) : ∀ {ents : List Ent}, e ∈ ents → leftN ents (seen ++ [e.born]) < leftN ents seen
  | x :: l, h => by
    have hle := left_le seen e.born l
    unfold leftN at *
    simp only [List.filter_cons]
    rcases List.mem_cons.1 h with rfl | h
    · simp [hs]; simp at hle; omega
    · have ih := left_lt hs h
      unfold leftN at ih
      by_cases h1 : x.born ∈ seen
      · simp [h1]; simpa using ih
      · by_cases h2 : x.born = e.born
        · simp [hs, h2]; simp at ih; omega
        · simp [h1, h2]; simpa using ih
theorem nodup_key {ents : List Ent} (h : (ents.map (·.k)).Nodup) {a b : Ent} (ha : a ∈ ents) (hb : b ∈ ents) (hk : a.k = b.k) : a = b := by
  induction ents with
  | nil => cases ha
  | cons x l ih =>
    rw [List.map_cons, List.nodup_cons] at h
    rcases List.mem_cons.1 ha with h1 | h1
    · rcases List.mem_cons.1 hb with h2 | h2
      · rw [h1, h2]
      · exact absurd (List.mem_map.2 ⟨b, h2, by rw [← hk, h1]⟩) h.1
    · rcases List.mem_cons.1 hb with h2 | h2
      · exact absurd (List.mem_map.2 ⟨a, h1, by rw [hk, h2]⟩) h.1
      · exact ih h.2 h1 h2
theorem nodup_born {ents : List Ent} (h : (ents.map (·.born)).Nodup) {a b : Ent} (ha : a ∈ ents) (hb : b ∈ ents) (hk : a.born = b.born) : a = b := by
  induction ents with
  | nil => cases ha
  | cons x l ih =>
    rw [List.map_cons, List.nodup_cons] at h
    rcases List.mem_cons.1 ha with h1 | h1
    · rcases List.mem_cons.1 hb with h2 | h2
      · rw [h1, h2]
      · exact absurd (List.mem_map.2 ⟨b, h2, by rw [← hk, h1]⟩) h.1
    · rcases List.mem_cons.1 hb with h2 | h2
      · exact absurd (List.mem_map.2 ⟨a, h1, by rw [hk, h2]⟩) h.1
      · exact ih h.2 h1 h2
theorem find_mem {l : List Ent} (h : (l.map (·.k)).Nodup) {e : Ent} (he : e ∈ l) : l.find? (fun x => x.k == e.k) = some e := by
  cases hf : l.find? (fun x => x.k == e.k) with
  | none => exact absurd rfl (find_not hf e he)
  | some x =>
    obtain ⟨pre, post, hl, hk, _⟩ := find_split hf
    rw [nodup_key h (by rw [hl]; simp) he hk]
theorem laid_nil {las : List Int} {n : Nat} (h : las.length = 64 * n) : laid las [] = las := by
  unfold laid
  rw [show las.length / 64 = n by omega]
  exact secs_self h
theorem laid_len {las : List Int} {ents : List Ent} {clock : Nat} {wt : Nat → Option (List Int)} (hok : DskOk las ents clock wt) {done : List Ent} (hd : ∀ e ∈ done, e ∈ ents) : ∀ i, i < las.length / 64 → ((fun i => ((done.find? (fun e => e.k == i)).map (·.b)).getD (sec las i)) i).length = 64 := fun i hi => by
  cases hf : done.find? (fun e => e.k == i) with
  | none => simp [hf]; exact sec_len (by omega)
  | some e =>
    obtain ⟨pre, post, hl, hk, _⟩ := find_split hf
    simp [hf]; exact (hok.each e (hd e (by rw [hl]; simp))).2.2.1
/-- One more. -/
theorem laid_step {las : List Int} {ents : List Ent} {clock : Nat} {wt : Nat → Option (List Int)} (hok : DskOk las ents clock wt) {done : List Ent} (hd : ∀ e ∈ done, e ∈ ents) {e : Ent} (he : e ∈ ents) (hn : e.born ∉ done.map (·.born)) :
    over (laid las done) (64 * e.k) (e.b.take 64) = laid las (done ++ [e]) := by
  obtain ⟨_, hk, hb, _⟩ := hok.each e he
  obtain ⟨n, h1, h2, h3⟩ := hok.len
  rw [List.take_of_length_le (by omega)]
  unfold laid
  rw [over_secs (laid_len hok hd) (by omega) (by omega)]
  refine secs_congr fun i hi => ?_
  rw [List.find?_append]
  have hnd : ∀ x ∈ done, x.k ≠ e.k := fun x hx hxe => hn (by rw [← nodup_key hok.keys (hd x hx) he hxe]; exact List.mem_map.2 ⟨x, hx, rfl⟩)
  by_cases hi2 : i = e.k
  · subst hi2
    have hl := laid_len hok hd e.k hi
    rw [if_pos rfl, List.drop_of_length_le (by rw [hb]; exact Nat.le_of_eq hl)]
    have : done.find? (fun x => x.k == e.k) = none := by rw [List.find?_eq_none]; intro x hx; simpa using hnd x hx
    simp [this]
  · rw [if_neg hi2]
    have : (e.k == i) = false := by simp; omega
    cases done.find? (fun x => x.k == i) <;> simp [this]
theorem laid_all {las : List Int} {ents : List Ent} {clock : Nat} {wt : Nat → Option (List Int)} (hok : DskOk las ents clock wt) {done : List Ent} (hd : ∀ e ∈ done, e ∈ ents) (hall : ∀ e ∈ ents, e.born ∈ done.map (·.born)) : laid las done = flushed las wt := by
  unfold laid flushed
  refine secs_congr fun i hi => ?_
  congr 1
  rw [hok.wt i]
  have hin : ∀ e ∈ ents, e ∈ done := fun e he => by
    obtain ⟨x, hx, hb⟩ := List.mem_map.1 (hall e he)
    rwa [← nodup_born hok.borns (hd x hx) he hb]
  cases hf : ents.find? (fun e => e.k == i) with
  | none =>
    have : done.find? (fun e => e.k == i) = none := by rw [List.find?_eq_none]; intro x hx; simpa using find_not hf x (hd x hx)
    rw [this]
  | some e =>
    obtain ⟨pre, post, hl, hk, _⟩ := find_split hf
    have he : e ∈ ents := by rw [hl]; simp
    cases hf2 : done.find? (fun e => e.k == i) with
    | none => exact absurd hk (find_not hf2 e (hin e he))
    | some x =>
      obtain ⟨pre2, post2, hl2, hk2, _⟩ := find_split hf2
      rw [nodup_key hok.keys (hd x (by rw [hl2]; simp)) he (hk2.trans hk.symm)]
theorem bornOk {ents : List Ent} {las : List Int} {clock : Nat} {wt : Nat → Option (List Int)} (hok : DskOk las ents clock wt) : (∀ e ∈ ents.map Ent.en, e.born < clock) ∧ ((ents.map Ent.en).map (·.born)).Nodup := by
  refine ⟨fun y hy => ?_, ?_⟩
  · obtain ⟨x, hx, rfl⟩ := List.mem_map.1 hy
    exact (hok.each x hx).1
  · rw [List.map_map]; exact hok.borns
end Go.Proofs.Ytjngnigelkgekaa.Disk
namespace Go.Proofs.Ytjngnigelkgekaa.Disk
set_option linter.unusedVariables false
set_option linter.unusedSimpArgs false
open Go.RowKit Go.Proofs.YtjngnigelkgekaaW.PrintWords Go.Proofs.YtjngnigelkgekaaW.PrintLast Go.Proofs.YtjngnigelkgekaaW.PrintMore Go.Proofs.Ytjngnigelkgekaa.Kit
theorem size1 : (Try.prog.info? 5).map (·.size) = some 1 := by kernel_rfl
theorem rd_mem {w0 W : World} {ents : List Ent} {F : List HP} (h : Sep w0 W (ents.map Ent.rd ++ F)) {x : Ent} (hx : x ∈ ents) : U8.C W x.A 64 x.b := by
  obtain ⟨s, t, rfl⟩ := List.append_of_mem hx
  rw [List.map_append, List.map_cons, List.append_assoc, List.cons_append] at h
  exact h.weak.rd
end Go.Proofs.Ytjngnigelkgekaa.Disk
namespace Go.Proofs.Ytjngnigelkgekaa.Disk
set_option linter.unusedVariables false
set_option linter.unusedSimpArgs false
open Go.RowKit Go.Proofs.YtjngnigelkgekaaW.PrintWords Go.Proofs.YtjngnigelkgekaaW.PrintLast Go.Proofs.YtjngnigelkgekaaW.PrintMore Go.Proofs.Ytjngnigelkgekaa.Kit
def SeenI (w0 : World) (g m r gl c go co clock : Nat) (ents : List Ent) (las : List Int) (F : List HP) (k : Nat) (wr : World) : Prop :=
  ∃ done : List Ent, (∀ e ∈ done, e ∈ ents) ∧ k = leftN ents (done.map (·.born)) ∧
    Sep w0 wr (Ob r (itObj m clock (done.map (·.born))) :: MapB m (ens (ents.map Ent.en)) clock :: Row U8 5 (.slice (some ⟨go, 0, none⟩) las.length co) (laid las done) :: Blk g 96 #[.slice (some ⟨gl, 0, none⟩) las.length c, .map (some m)] :: Row U8 5 (.slice (some ⟨gl, 0, none⟩) las.length c) las :: (ents.map Ent.rd ++ F))
set_option maxHeartbeats 800000 in
set_option maxRecDepth 100000 in
theorem seen_ {w0 W : World} {g : Nat} {las : List Int} {wt : Nat → Option (List Int)} {F : List HP} (h : Sep w0 W (Dsk g las wt :: F)) :
    Calls Try.prog 24 #[.pointer (some ⟨g, 0, none⟩)] W fun e w' => ∃ v, e = .returned v ∧ Sep w0 w' (Row U8 5 v (flushed las wt) :: Dsk g las wt :: F) := by
  have H0 := Aside0.mk h
  clear h
  go_enter Try.func24, Try.ntmps24
  go_wp2_with fail
  refine (image_ H0.out).mono ?_
  rintro e w1 ⟨vo, rfl, hI⟩
  obtain ⟨v, m, ents, clock, hok, hs⟩ := open_ hI.at2
  obtain ⟨p1, p2, p3⟩ := hok.pos
  obtain ⟨n, hn, n1, n2⟩ := hok.len
  obtain ⟨gl, c, rfl⟩ := hs.tail.rowForm (by omega)
  obtain ⟨go, co, rfl⟩ := hI.rowForm (by omega)
  have hco := hI.rowC.2.1
  have c1 : w1.cell? ⟨g, 1, none⟩ = some (.map (some m)) := by rw [hs.cell 1]; rfl
  have hrg := range_run (P := Try.prog) (W := w1) Try.underlying94 hs.tail.tail.map
  have HI : SeenI w0 g m w1.heap.size gl c go co clock ents las F ents.length (w1.alloc (itObj m clock [])) := by
    refine ⟨[], fun e he => absurd he (by simp), (by simp [leftN, List.filter_eq_self.2]), ?_⟩
    rw [laid_nil hn]
    have h3 := hs.perm (L' := Row U8 5 (.slice (some ⟨go, 0, none⟩) las.length co) las :: Blk g 96 #[.slice (some ⟨gl, 0, none⟩) las.length c, .map (some m)] :: Row U8 5 (.slice (some ⟨gl, 0, none⟩) las.length c) las :: MapB m (ens (ents.map Ent.en)) clock :: (ents.map Ent.rd ++ F)) (by
      exact (List.Perm.cons _ (.cons _ (.cons _ List.perm_middle))).trans (List.perm_middle (l₁ := [_, _, _])))
    exact ((h3.at4).newOb (itObj m clock []))
  have A0 := Aside0.mk HI
  have AO := Aside0.mk hok
  have AN := Aside0.mk hn
  have ACO := Aside0.mk hco
  clear HI hok hs p3 hn hI hco
  go_wp2
  go_loopg [4] ents.length (fun k p wr => SeenI w0 g m w1.heap.size gl c go co clock ents las F k wr)
  case atStart => exact A0.out
  case round =>
    obtain ⟨done, hd, hk, hS⟩ := hrel
    obtain ⟨hb1, hb2⟩ := bornOk AO.out
    rcases next_run (P := Try.prog) hS hb1 hb2 0 with ⟨hall, hnx⟩ | ⟨e, he, hne, W1, hnx, hS1, hen⟩
    · have AL := Aside0.mk hall
      have AS := Aside0.mk hS
      have AD := Aside0.mk hd
      clear hS hall hb1 hd hk
      go_wp2
      go_ret
      refine ⟨_, by first | rfl | (simp; done), ?_⟩
      have hl := laid_all AO.out AD.out (fun e he => AL.out e.en (List.mem_map.2 ⟨e, he, rfl⟩))
      have h5 := AS.out
      rw [hl] at h5
      refine (shut_ (v := .slice (some ⟨gl, 0, none⟩) las.length c) (m := m) (ents := ents) (clock := clock) AO.out (F := Row U8 5 (.slice (some ⟨go, 0, none⟩) las.length co) (flushed las wt) :: F) ?_).at2
      have h6 := h5.tail
      refine h6.perm ?_
      exact ((List.Perm.swap _ _ _).trans ((List.Perm.cons _ ((List.Perm.swap _ _ _).trans (.cons _ (.swap _ _ _)))).trans (List.Perm.refl _))).trans
        (((List.perm_middle (l₁ := [_, _, _] ++ ents.map Ent.rd) (l₂ := F)).symm.trans (by simp)) )
    · obtain ⟨x, hx, rfl⟩ := List.mem_map.1 he
      have hC := rd_mem hS1.tail.tail.tail.tail.tail hx
      have hnx2 : (Instr.next (.pointer (some ⟨w1.heap.size, 0, none⟩)) false 0).run Try.prog wr = .ok (.tuple #[.bool true, .int .i64 (x.k : Int), .slice x.A 64 x.c]) W1 := hnx
      have hen2 : (Instr.entry (.pointer (some ⟨w1.heap.size, 0, none⟩))).run Try.prog W1 = .ok (.tuple #[.int .i64 (x.k : Int), .slice x.A 64 x.c]) W1 := hen
      clear hnx hen
      have hx' := AO.out.each x hx
      have hst := laid_step AO.out hd hx hne
      have hlt := left_lt hne hx
      have AS := Aside0.mk hS1.at3
      have AC1 := Aside0.mk hC
      have AX := Aside0.mk hx'
      have AD := Aside0.mk hd
      have AT := Aside0.mk hst
      have AK := Aside0.mk hk
      have AH := Aside0.mk hx
      have AL := Aside0.mk hlt
      have hi : 64 * (x.k + 1) ≤ las.length := by have := AN.out; omega
      have hco := ACO.out
      have htk : x.b.take (las.length - x.k * 64) = x.b.take 64 := by rw [List.take_of_length_le (by omega), List.take_of_length_le (by omega)]
      have ATK := Aside0.mk htk
      clear hS hS1 hC hx' hb1 hd c1 hst hk hx he hne hlt htk
      go_wp2_with (first | (refine gate_builtin (b := .copy) (xs := #[.tmp 21, .tmp 22]) rfl ?_; refine AS.out.copyRow rfl (.tmp 21) (.tmp 22) rfl Try.underlying30 size1 (o := x.k * 64) (n' := las.length - x.k * 64) (c' := co - x.k * 64) (m := 64) (c := x.c) (A := x.A) (ys := x.b) rfl rfl AC1.out (by omega) ?_; intro W2 hS2; rw [ATK.out, Nat.mul_comm, AT.out] at hS2; have AS2 := Aside0.mk hS2; clear hS2))
      go_roundg (leftN ents (done.map (·.born) ++ [x.born]))
      case measure => rw [AK.out]; exact AL.out
      case rel =>
        refine ⟨done ++ [x], fun e he => ?_, by rw [List.map_append]; rfl, ?_⟩
        · rcases List.mem_append.1 he with he | he
          · exact AD.out e he
          · simp at he; rw [he]; exact AH.out
        · rw [List.map_append]
          exact AS2.out.to3
end Go.Proofs.Ytjngnigelkgekaa.Disk
namespace Go.Proofs.Ytjngnigelkgekaa.Kit
set_option linter.unusedVariables false
abbrev Wt := Nat → Option (List Int)
/-- The sectors that wait. -/
def keysOf (n : Nat) (wt : Wt) : List Nat := (List.range n).filter (fun i => (wt i).isSome)
theorem keys_len_le (wt : Wt) (n : Nat) : (keysOf n wt).length ≤ n := by
  have := List.length_filter_le (fun i => (wt i).isSome) (List.range n)
  rwa [List.length_range] at this
section
variable {las : List Int} {wt : Wt} {cuts : List Int} {n : Nat}
end
end Go.Proofs.Ytjngnigelkgekaa.Kit
namespace Go.Proofs.Ytjngnigelkgekaa.Kit
set_option linter.unusedVariables false
set_option linter.unusedSimpArgs false
open Go.RowKit Go.Maps Go.Shelf Go.Sort Go.Proofs.YtjngnigelkgekaaW.PrintWords
theorem sortsA (m : Nat) : AnyZI.SortsIn Try.prog Ytjngnigelkgekaa.sortedA_ren Fence.wide m :=
  ⟨fun blk off cap ss W hH hblk hsz => callsIn_wide.2 (AnyM.slices_Sort_int Ytjngnigelkgekaa.sortA blk off cap ss W hH hblk hsz),
   fun p cap W => callsIn_wide.2 (AnyM.slices_Sort_int_none Ytjngnigelkgekaa.sortA p cap W)⟩
def anyR : Value → Option (DataW Unit × List MemPlace) := fun _ => some (.nil, [])
/-- What is known of a map's entries: no key twice, no stamp twice. -/
structure EnOk (l : List En) (clock : Nat) : Prop where
  keys : (l.map (·.k)).Nodup
  borns : (l.map (·.born)).Nodup
  each : ∀ e ∈ l, e.born < clock ∧ -9223372036854775808 ≤ e.k ∧ e.k ≤ 9223372036854775807
  size : l.length ≤ 1000000
theorem enFit {l : List En} {clock : Nat} (h : EnOk l clock) : WideElems.Fit Try.prog 3 anyR (ens l) clock := by
  refine ⟨?_, ⟨?_, ?_, ?_⟩, ?_⟩
  · have := h.size; simp only [ens, List.size_toArray, List.length_map, maxLen]; omega
  · intro x hx
    obtain ⟨e, he, rfl⟩ := List.mem_map.1 (by simpa [ens] using hx)
    exact (h.each e he).1
  · have : (ens l).toList.map (·.born) = l.map (·.born) := by simp [ens, En.toE]
    rw [this]; exact h.borns
  · have : (ens l).toList.map (·.key) = (l.map (·.k)).map (Value.int .i64) := by simp [ens, En.toE]
    rw [this]
    exact List.pairwise_map.2 (h.keys.imp fun hne he => hne (by injection he))
  · intro x hx
    obtain ⟨e, he, rfl⟩ := List.mem_map.1 (by simpa [ens] using hx)
    have hw : (Lit.int .i64 e.k).wf = true := by
      have := h.each e he
      exact WalkArith.wf_i64 ⟨this.2.1, this.2.2⟩
    exact ⟨_, by simp [WideElems.rd, En.toE, keyOf_int_mk Try.underlying3 hw, anyR]; rfl⟩
theorem enOwns {l : List En} {clock m : Nat} {W : World} (h : EnOk l clock) (hm : W.heap[m]? = some (.map (ens l) clock)) :
    W.ownsMap Try.prog 3 anyR m l.length (.map (((ens l).toList.map (WideElems.rg Try.prog 3 anyR)).foldr DataW.insert [])) :=
  ⟨ens l, clock, hm, enFit h, by simp [ens], rfl⟩
theorem enKeys {l : List En} {clock : Nat} (h : EnOk l clock) : (intKeys (DataW.map (((ens l).toList.map (WideElems.rg Try.prog 3 anyR)).foldr DataW.insert []))).Perm (l.map (·.k)) := by
  have h1 : (((ens l).toList.map (WideElems.rg Try.prog 3 anyR)).foldr DataW.insert []).Perm ((ens l).toList.map (WideElems.rg Try.prog 3 anyR)) := WideShapes.sorted_perm _
  have h2 := h1.map (fun p => Go.intOf p.1)
  refine h2.trans ?_
  have : ((ens l).toList.map (WideElems.rg Try.prog 3 anyR)).map (fun p => Go.intOf p.1) = l.map (·.k) := by
    simp only [ens, List.map_map]
    refine List.map_congr_left fun e he => ?_
    have hw : (Lit.int .i64 e.k).wf = true := by
      have := h.each e he
      exact WalkArith.wf_i64 ⟨this.2.1, this.2.2⟩
    simp [WideElems.rg, WideElems.rd, En.toE, keyOf_int_mk Try.underlying3 hw, anyR, Go.intOf]
  rw [this]
theorem enSize {l : List En} {clock : Nat} (h : EnOk l clock) : Maps.size (DataW.map (((ens l).toList.map (WideElems.rg Try.prog 3 anyR)).foldr DataW.insert [])) = l.length := by
  have h1 : (((ens l).toList.map (WideElems.rg Try.prog 3 anyR)).foldr DataW.insert []).Perm ((ens l).toList.map (WideElems.rg Try.prog 3 anyR)) := WideShapes.sorted_perm _
  have := h1.length_eq
  simp only [ens, List.length_map] at this
  simpa [Maps.size, ens] using this
theorem sort_is {ss ks : List Int} (hp : ss.Perm ks) (hs : ks.Pairwise (· ≤ ·)) : ss.mergeSort (fun x y => decide (x ≤ y)) = ks := by
  have tr : ∀ a b c : Int, (fun x y : Int => decide (x ≤ y)) a b = true → (fun x y : Int => decide (x ≤ y)) b c = true → (fun x y : Int => decide (x ≤ y)) a c = true := fun a b c h1 h2 => by simp only [decide_eq_true_eq] at *; omega
  have tot : ∀ a b : Int, ((fun x y : Int => decide (x ≤ y)) a b || (fun x y : Int => decide (x ≤ y)) b a) = true := fun a b => by simp only [Bool.or_eq_true, decide_eq_true_eq]; omega
  refine List.Perm.eq_of_pairwise (le := fun a b => a ≤ b) (fun a b _ _ h1 h2 => by omega) ?_ hs ((List.mergeSort_perm _ _).trans hp)
  exact (List.pairwise_mergeSort tr tot ss).imp (fun h => by simpa using h)
set_option maxHeartbeats 1000000 in
theorem keysA_ (m : Nat) (w : World) : Calls Try.prog 95 #[.map (some m)] w fun e w' => e = .returned (.func (.func 127) #[] #[.pointer (some ⟨w.heap.size, 0, none⟩)]) ∧ w' = w.alloc (.cells #[.map (some m)] 94) :=
  callsIn_wide.1 (AnyZI.keys_in Ytjngnigelkgekaa.keysA Fence.wide 5 trivial rfl (some m) w)
set_option maxHeartbeats 1000000 in
theorem sortedA_ {l : List En} {clock m : Nat} {w : World} {ks : List Int} (h : EnOk l clock) (hm : w.heap[m]? = some (.map (ens l) clock)) (hk : (l.map (·.k)).Perm ks) (hs : ks.Pairwise (· ≤ ·)) :
    Calls Try.prog 76 #[.func (.func 127) #[] #[.pointer (some ⟨w.heap.size, 0, none⟩)]] (w.alloc (.cells #[.map (some m)] 94)) fun e w' => ∃ v, e = .returned v ∧ Sep w w' [Row (Kd.int .i64) 3 v ks] := by
  have hbl : m < w.heap.size := (Array.getElem?_eq_some_iff.1 hm).1
  have hm1 : (w.alloc (.cells #[.map (some m)] 94)).heap[m]? = some (.map (ens l) clock) := (Below.heap_alloc _ _ m hbl).trans hm
  have hseq : SeqGives Fence.wide 2 Try.prog 127 #[.pointer (some ⟨w.heap.size, 0, none⟩)] encZ (fun ss => ss.Perm (intKeys (DataW.map (((ens l).toList.map (WideElems.rg Try.prog 3 anyR)).foldr DataW.insert [])))) (Maps.size (DataW.map (((ens l).toList.map (WideElems.rg Try.prog 3 anyR)).foldr DataW.insert []))) (w.alloc (.cells #[.map (some m)] 94)) :=
    AnyZI.keys_gives (ρ := Ytjngnigelkgekaa.keysA_ren) { Ytjngnigelkgekaa.keysA with } Fence.wide _ trivial rfl (by omega) w.heap.size m l.length _ _ (by simp) (by simp) (enOwns h hm1)
  rw [enSize h] at hseq
  have cS := AnyZI.sorted_in Ytjngnigelkgekaa.sortedA Fence.wide 5 trivial trivial trivial trivial rfl (by omega) (sortsA _) (enters_of Try.func119 (by kernel_rfl) rfl) 127 #[.pointer (some ⟨w.heap.size, 0, none⟩)] trivial (enters_of Try.func127 (by kernel_rfl) rfl) _ _ (by have := h.size; simp only [maxLen]; omega) (by have := h.size; omega) _ hseq
  refine (callsIn_wide.1 cS).mono ?_
  rintro e w' ⟨v, ss, rfl, hS, hrow, hnil, hb⟩
  refine ⟨v, rfl, ?_⟩
  have hss := sort_is ((hS.trans (enKeys h)).trans hk) hs
  rw [hss] at hrow
  have hl : ss.length = ks.length := ((hS.trans (enKeys h)).trans hk).length_eq
  rw [hl] at hrow
  refine ((Sep.start w).alloc (.cells #[.map (some m)] 94)).newRow (ok := fun _ => True) ?_ hb
  exact Kd.R_of_own hrow (fun _ _ => trivial)
end Go.Proofs.Ytjngnigelkgekaa.Kit
namespace Go.Proofs.Ytjngnigelkgekaa.Disk
set_option linter.unusedVariables false
set_option linter.unusedSimpArgs false
open Go.RowKit Go.Proofs.YtjngnigelkgekaaW.PrintWords Go.Proofs.YtjngnigelkgekaaW.PrintLast Go.Proofs.YtjngnigelkgekaaW.PrintMore Go.Proofs.Ytjngnigelkgekaa.Kit
abbrev I64 : Kd Int := Kd.int .i64
def keysI (las : List Int) (wt : Wt) : List Int := (keysOf (las.length / 64) wt).map (fun k : Nat => (k : Int))
theorem keysI_sorted (las : List Int) (wt : Wt) : (keysI las wt).Pairwise (· ≤ ·) := by
  unfold keysI keysOf
  refine List.pairwise_map.2 ?_
  refine ((List.pairwise_lt_range (n := las.length / 64)).sublist List.filter_sublist).imp (fun h => ?_)
  omega
theorem ents_perm {las : List Int} {ents : List Ent} {clock : Nat} {wt : Nat → Option (List Int)} (hok : DskOk las ents clock wt) : ((ents.map Ent.en).map (·.k)).Perm (keysI las wt) := by
  have e1 : (ents.map Ent.en).map (·.k) = (ents.map (·.k)).map (fun k : Nat => (k : Int)) := by rw [List.map_map, List.map_map]; rfl
  rw [e1]
  unfold keysI
  refine List.Perm.map _ ?_
  refine (List.perm_ext_iff_of_nodup hok.keys ((List.nodup_range).sublist List.filter_sublist)).2 fun i => ?_
  rw [List.mem_filter, List.mem_range, List.mem_map]
  constructor
  · rintro ⟨e, he, rfl⟩
    obtain ⟨h1, h2, _⟩ := hok.each e he
    obtain ⟨n, h3, h4, h5⟩ := hok.len
    refine ⟨by omega, ?_⟩
    rw [hok.wt, find_mem hok.keys he]; rfl
  · rintro ⟨h1, h2⟩
    rw [hok.wt] at h2
    cases hf : ents.find? (fun e => e.k == i) with
    | none => rw [hf] at h2; cases h2
    | some e =>
      obtain ⟨pre, post, rfl, hk, _⟩ := find_split hf
      exact ⟨e, by simp, hk⟩
theorem entsOk {las : List Int} {ents : List Ent} {clock : Nat} {wt : Nat → Option (List Int)} (hok : DskOk las ents clock wt) : EnOk (ents.map Ent.en) clock := by
  have hlen : ents.length ≤ 160 := by
    have h1 := (ents_perm hok).length_eq
    simp only [List.length_map, keysI] at h1
    have := keys_len_le wt (las.length / 64)
    obtain ⟨n, h3, h4, h5⟩ := hok.len
    omega
  refine ⟨?_, (bornOk hok).2, fun e he => ?_, by rw [List.length_map]; omega⟩
  · rw [List.map_map]
    have : (fun e : En => e.k) ∘ Ent.en = (fun k : Nat => (k : Int)) ∘ (fun e : Ent => e.k) := rfl
    rw [this, ← List.map_map]
    exact List.pairwise_map.2 (hok.keys.imp fun hne he => hne (by omega))
  · obtain ⟨x, hx, rfl⟩ := List.mem_map.1 he
    obtain ⟨h1, h2, _⟩ := hok.each x hx
    obtain ⟨n, h3, h4, h5⟩ := hok.len
    show x.born < clock ∧ -9223372036854775808 ≤ (x.k : Int) ∧ (x.k : Int) ≤ 9223372036854775807
    omega
set_option maxHeartbeats 400000 in
theorem waits_ {w0 W : World} {g : Nat} {las : List Int} {wt : Nat → Option (List Int)} {F : List HP} (h : Sep w0 W (Dsk g las wt :: F)) :
    Calls Try.prog 49 #[.pointer (some ⟨g, 0, none⟩)] W fun e w' => ∃ v, e = .returned v ∧ Sep w0 w' (Row I64 3 v (keysI las wt) :: Dsk g las wt :: F) := by
  obtain ⟨v, m, ents, clock, hok, hs⟩ := open_ h
  have c1 : W.cell? ⟨g, 1, none⟩ = some (.map (some m)) := by rw [hs.cell 1]; rfl
  have AS := Aside0.mk (sortedA_ (entsOk hok) hs.tail.tail.map (ents_perm hok) (keysI_sorted las wt))
  have AH := Aside0.mk h
  clear hok hs h
  go_enter Try.func49, Try.ntmps49
  go_wp2_with (first | (go_at_call 95; refine (keysA_ m _).mono ?_; rintro e w1 ⟨rfl, rfl⟩) | (go_at_call 76; refine AS.out.mono ?_; rintro e w2 ⟨v2, rfl, hS2⟩))
  go_ret
  exact ⟨_, by first | rfl | (simp; done), AH.out.lift1 hS2⟩
end Go.Proofs.Ytjngnigelkgekaa.Disk
namespace Go.Proofs.Ytjngnigelkgekaa.Disk
set_option linter.unusedVariables false
set_option linter.unusedSimpArgs false
open Go.RowKit Go.Proofs.YtjngnigelkgekaaW.PrintWords Go.Proofs.YtjngnigelkgekaaW.PrintLast Go.Proofs.YtjngnigelkgekaaW.PrintMore Go.Proofs.Ytjngnigelkgekaa.Kit
end Go.Proofs.Ytjngnigelkgekaa.Disk
namespace Go.Proofs.Ytjngnigelkgekaa.Book
set_option linter.unusedVariables false
set_option linter.unusedSimpArgs false
open Go.RowKit Go.Proofs.YtjngnigelkgekaaW.PrintWords Go.Proofs.Ytjngnigelkgekaa.Kit
def withinF (n lo hi : Int) : Int :=
  if lo ≤ n ∧ n ≤ hi then n else lo + (if n.tmod (hi - lo + 1) < 0 then n.tmod (hi - lo + 1) + hi - lo + 1 else n.tmod (hi - lo + 1))
theorem withinF_in {n lo hi : Int} (h : lo ≤ hi) : lo ≤ withinF n lo hi ∧ withinF n lo hi ≤ hi := by
  unfold withinF
  split
  · omega
  · have h1 : n.tmod (hi - lo + 1) < hi - lo + 1 := Int.tmod_lt_of_pos n (by omega)
    have h2 : -(hi - lo + 1) < n.tmod (hi - lo + 1) := Int.lt_tmod_of_pos n (by omega)
    split <;> omega
theorem withinF_id {n lo hi : Int} (h1 : lo ≤ n) (h2 : n ≤ hi) : withinF n lo hi = n := if_pos ⟨h1, h2⟩
set_option maxHeartbeats 400000 in
theorem within_ (n lo hi : Int) (w : World) (h1 : -1073741824 ≤ lo) (h2 : lo ≤ hi) (h3 : hi ≤ 1073741824) :
    Calls Try.prog 19 #[.int .i64 n, .int .i64 lo, .int .i64 hi] w fun e w' => e = .returned (.int .i64 (withinF n lo hi)) ∧ w = w' := by
  have A0 := Aside0.mk (withinF_in (n := n) h2)
  have r1 : n.tmod (hi - lo + 1) < hi - lo + 1 := Int.tmod_lt_of_pos n (by omega)
  have r2 : -(hi - lo + 1) < n.tmod (hi - lo + 1) := Int.lt_tmod_of_pos n (by omega)
  have nz : ¬ (hi - lo + 1 = 0) := by omega
  have fin : ∀ (a : Int), withinF n lo hi = a → Ending.returned (.int .i64 a) = Ending.returned (.int .i64 (withinF n lo hi)) := fun a h => by rw [h]
  have AF := Aside0.mk fin
  clear fin
  by_cases c1 : lo ≤ n
  · by_cases c2 : n ≤ hi
    · have A1 := Aside0.mk (withinF_id c1 c2)
      clear r1 r2 nz
      go_enter Try.func19, Try.ntmps19
      go_wp2
      go_ret
      exact ⟨AF.out _ A1.out, rfl⟩
    · have A1 : Aside0 (withinF n lo hi = lo + (if n.tmod (hi - lo + 1) < 0 then n.tmod (hi - lo + 1) + hi - lo + 1 else n.tmod (hi - lo + 1))) := ⟨if_neg (fun h => c2 h.2)⟩
      by_cases c3 : n.tmod (hi - lo + 1) < 0
      · go_enter Try.func19, Try.ntmps19
        go_wp2
        go_ret
        exact ⟨AF.out _ (by rw [A1.out, if_pos c3]), rfl⟩
      · go_enter Try.func19, Try.ntmps19
        go_wp2
        go_ret
        exact ⟨AF.out _ (by rw [A1.out, if_neg (by omega)]), rfl⟩
  · have A1 : Aside0 (withinF n lo hi = lo + (if n.tmod (hi - lo + 1) < 0 then n.tmod (hi - lo + 1) + hi - lo + 1 else n.tmod (hi - lo + 1))) := ⟨if_neg (fun h => c1 h.1)⟩
    by_cases c3 : n.tmod (hi - lo + 1) < 0
    · go_enter Try.func19, Try.ntmps19
      go_wp2
      go_ret
      exact ⟨AF.out _ (by rw [A1.out, if_pos c3]), rfl⟩
    · go_enter Try.func19, Try.ntmps19
      go_wp2
      go_ret
      exact ⟨AF.out _ (by rw [A1.out, if_neg (by omega)]), rfl⟩
end Go.Proofs.Ytjngnigelkgekaa.Book
namespace Go.Proofs.Ytjngnigelkgekaa.Disk
set_option linter.unusedVariables false
set_option linter.unusedSimpArgs false
open Go.RowKit Go.Proofs.YtjngnigelkgekaaW.PrintWords Go.Proofs.YtjngnigelkgekaaW.PrintLast Go.Proofs.YtjngnigelkgekaaW.PrintMore Go.Proofs.Ytjngnigelkgekaa.Kit
theorem make_ {m : Nat} (hm : m ≤ 100000) : ∀ W : World, (Instr.makeSlice 30 (.int .i64 (m : Int)) (.int .i64 (m : Int))).run Try.prog W = .ok (.slice (some ⟨W.heap.size, 0, none⟩) m m) (W.alloc (.cells (madeCells #[.int .u8 0] m) 5)) :=
  print_make (P := Try.prog) 30 5 .u8 1 Try.underlying30 infoB (by decide) m (by omega)
theorem madeB {w0 W : World} {F : List HP} (m : Nat) (h : Sep w0 W F) (hm : m ≤ 100000) : Sep w0 (W.alloc (.cells (madeCells #[.int .u8 0] m) 5)) (Row U8 5 (.slice (some ⟨W.heap.size, 0, none⟩) m m) (List.replicate m 0) :: F) :=
  h.madeRow (h1 := fun _ => rfl) (e := 5) (enc := Value.int .u8) 0 m (by omega)
end Go.Proofs.Ytjngnigelkgekaa.Disk
namespace Go.Proofs.Ytjngnigelkgekaa.Disk
set_option linter.unusedVariables false
set_option linter.unusedSimpArgs false
open Go.RowKit Go.Proofs.YtjngnigelkgekaaW.PrintWords Go.Proofs.YtjngnigelkgekaaW.PrintLast Go.Proofs.YtjngnigelkgekaaW.PrintMore Go.Proofs.Ytjngnigelkgekaa.Kit
end Go.Proofs.Ytjngnigelkgekaa.Disk
namespace Go.Proofs.Ytjngnigelkgekaa.Disk
set_option linter.unusedVariables false
set_option linter.unusedSimpArgs false
open Go.RowKit Go.Proofs.YtjngnigelkgekaaW.PrintWords Go.Proofs.YtjngnigelkgekaaW.PrintLast Go.Proofs.YtjngnigelkgekaaW.PrintMore Go.Proofs.Ytjngnigelkgekaa.Kit
theorem str_ {w0 W : World} {F : List HP} {A : Option Addr} {n c : Nat} {xs : List Int} (h : Sep w0 W (Row U8 5 (.slice A n c) xs :: F)) : (convert 30 9 (.slice A n c)).run Try.prog W = .ok (.string (strOfNums xs)) W := by
  obtain rfl : n = xs.length := h.rowC.1
  exact Kd.C_string (P := Try.prog) (c := c) Try.underlying30 Try.underlying5 Try.underlying9 h.rowC.2.2
theorem flushed_none {las : List Int} {n : Nat} (h : las.length = 64 * n) : flushed las (fun _ => none) = las := by
  unfold flushed
  rw [show las.length / 64 = n by omega]
  exact secs_self h
end Go.Proofs.Ytjngnigelkgekaa.Disk
namespace Go.Proofs.Ytjngnigelkgekaa.Disk
set_option linter.unusedVariables false
set_option linter.unusedSimpArgs false
open Go.RowKit Go.Proofs.YtjngnigelkgekaaW.PrintWords Go.Proofs.YtjngnigelkgekaaW.PrintLast Go.Proofs.YtjngnigelkgekaaW.PrintMore Go.Proofs.Ytjngnigelkgekaa.Kit
def was (X : List Int) (j : Nat) : List Int := if j < 2 then X else List.replicate 64 0
end Go.Proofs.Ytjngnigelkgekaa.Disk
namespace Go.Proofs.Ytjngnigelkgekaa.Kit.Sep
open Go.Proofs.Ytjngnigelkgekaa.Kit
theorem to5 {w0 W : World} {p q r s t : HP} {F : List HP} (h : Sep w0 W (p :: q :: r :: s :: t :: F)) : Sep w0 W (q :: r :: s :: t :: p :: F) := h.to4.perm (.cons _ (.cons _ (.cons _ (.swap _ _ _))))
end Go.Proofs.Ytjngnigelkgekaa.Kit.Sep
namespace Go.Proofs.Ytjngnigelkgekaa.Ref
set_option linter.unusedVariables false
set_option linter.unusedSimpArgs false
open Go.RowKit Go.Proofs.YtjngnigelkgekaaW.PrintWords Go.Proofs.YtjngnigelkgekaaW.PrintLast Go.Proofs.YtjngnigelkgekaaW.PrintMore Go.Proofs.Ytjngnigelkgekaa.Kit Go.Proofs.Ytjngnigelkgekaa.Disk
abbrev BK : Kd Bool := Kd.bool
theorem infoT : (Try.prog.info? 4).map (fun i => (i.zero, i.size, i.bytes)) = some (some (.bool false), 1, 1) := by kernel_rfl
/-- The document's disk: n sectors; what lasts, what is written, which sectors wait; how many deeds are left, how many are done. -/
def RD (g n : Nat) (las now : List Int) (wait : List Bool) (left done : Int) : HP := Ex fun (x : Value × Value × Value) =>
  Star [Pu (1 ≤ n ∧ n ≤ 160 ∧ las.length = 64 * n ∧ now.length = 64 * n ∧ wait.length = n), Blk g 144 #[x.1, x.2.1, x.2.2, .int .i64 left, .int .i64 done],
    Row U8 5 x.1 las, Row U8 5 x.2.1 now, Row BK 4 x.2.2 wait]
section
variable {w0 W : World} {g n : Nat} {las now : List Int} {wait : List Bool} {left done : Int} {F : List HP}
theorem open_ (h : Sep w0 W (RD g n las now wait left done :: F)) : ∃ gl cl gn cn gw cw, (1 ≤ n ∧ n ≤ 160 ∧ las.length = 64 * n ∧ now.length = 64 * n ∧ wait.length = n ∧ 64 * n ≤ cl ∧ 64 * n ≤ cn ∧ n ≤ cw) ∧
    Sep w0 W (Blk g 144 #[.slice (some ⟨gl, 0, none⟩) (64 * n) cl, .slice (some ⟨gn, 0, none⟩) (64 * n) cn, .slice (some ⟨gw, 0, none⟩) n cw, .int .i64 left, .int .i64 done] ::
      Row U8 5 (.slice (some ⟨gl, 0, none⟩) (64 * n) cl) las :: Row U8 5 (.slice (some ⟨gn, 0, none⟩) (64 * n) cn) now :: Row BK 4 (.slice (some ⟨gw, 0, none⟩) n cw) wait :: F) := by
  obtain ⟨⟨v0, v1, v2⟩, h⟩ := h.ex
  obtain ⟨⟨n1, n2, n3, n4, n5⟩, h⟩ := h.star.pu
  obtain ⟨gl, cl, e0⟩ := h.tail.rowFormN n3 (by omega)
  obtain ⟨gn, cn, e1⟩ := h.tail.tail.rowFormN n4 (by omega)
  obtain ⟨gw, cw, e2⟩ := h.tail.tail.tail.rowFormN n5 (by omega)
  subst e0 e1 e2
  have h : Sep w0 W (Blk g 144 _ :: Row U8 5 (.slice (some ⟨gl, 0, none⟩) (64 * n) cl) las :: Row U8 5 (.slice (some ⟨gn, 0, none⟩) (64 * n) cn) now :: Row BK 4 (.slice (some ⟨gw, 0, none⟩) n cw) wait :: F) := h
  exact ⟨gl, cl, gn, cn, gw, cw, ⟨n1, n2, n3, n4, n5, h.tail.rowC.2.1, h.tail.tail.rowC.2.1, h.tail.tail.tail.rowC.2.1⟩, h⟩
theorem shut_ {v0 v1 v2 : Value} (n1 : 1 ≤ n) (n2 : n ≤ 160) (n3 : las.length = 64 * n) (n4 : now.length = 64 * n) (n5 : wait.length = n)
    (h : Sep w0 W (Blk g 144 #[v0, v1, v2, .int .i64 left, .int .i64 done] :: Row U8 5 v0 las :: Row U8 5 v1 now :: Row BK 4 v2 wait :: F)) : Sep w0 W (RD g n las now wait left done :: F) := by
  refine Sep.unex (v0, v1, v2) (Sep.unstar ?_)
  exact Sep.unpu ⟨n1, n2, n3, n4, n5⟩ h
set_option maxHeartbeats 400000 in
theorem len_ (h : Sep w0 W (RD g n las now wait left done :: F)) :
    Calls Try.prog 103 #[.pointer (some ⟨g, 0, none⟩)] W fun e w' => e = .returned (.int .i64 (n : Int)) ∧ W = w' := by
  obtain ⟨gl, cl, gn, cn, gw, cw, hn, hs⟩ := open_ h
  have c2 : W.cell? ⟨g, 2, none⟩ = some (.slice (some ⟨gw, 0, none⟩) n cw) := by rw [hs.cell 2]; rfl
  clear h hs
  go_enter Try.func103, Try.ntmps103
  go_wp2
  go_ret
  exact ⟨by first | rfl | (simp; done), rfl⟩
def leftF (left : Int) : Int := if 0 < left then left - 1 else left
set_option maxHeartbeats 400000 in
theorem deed_no (h : Sep w0 W (RD g n las now wait 0 done :: F)) :
    Calls Try.prog 125 #[.pointer (some ⟨g, 0, none⟩)] W fun e w' => e = .returned (.bool false) ∧ W = w' := by
  obtain ⟨gl, cl, gn, cn, gw, cw, hn, hs⟩ := open_ h
  have c3 : W.cell? ⟨g, 3, none⟩ = some (.int .i64 0) := by rw [hs.cell 3]; rfl
  clear h hs
  go_enter Try.func125, Try.ntmps125
  go_wp2
  go_ret
  exact ⟨by first | rfl | (simp; done), rfl⟩
set_option maxHeartbeats 800000 in
theorem deed_yes (h : Sep w0 W (RD g n las now wait left done :: F)) (h0 : left ≠ 0) (h1 : -9223372036854775808 ≤ left ∧ left ≤ 9223372036854775807) (h2 : 0 ≤ done ∧ done < 9223372036854775807) :
    Calls Try.prog 125 #[.pointer (some ⟨g, 0, none⟩)] W fun e w' => e = .returned (.bool true) ∧ Sep w0 w' (RD g n las now wait (leftF left) (done + 1) :: F) := by
  obtain ⟨gl, cl, gn, cn, gw, cw, hn, hs⟩ := open_ h
  have c3 : W.cell? ⟨g, 3, none⟩ = some (.int .i64 left) := by rw [hs.cell 3]; rfl
  have c4 : W.cell? ⟨g, 4, none⟩ = some (.int .i64 done) := by rw [hs.cell 4]; rfl
  have z3 := hs.frozen 3
  have z4 := hs.frozen 4
  have AS := Aside0.mk hs
  have AN := Aside0.mk hn
  clear h hs hn
  by_cases hp : 0 < left
  · go_enter Try.func125, Try.ntmps125
    go_wp2
    go_ret
    obtain ⟨n1, n2, n3, n4, n5, _⟩ := AN.out
    refine ⟨by first | rfl | (simp; done), ?_⟩
    have : leftF left = left - 1 := if_pos hp
    rw [this]
    exact shut_ n1 n2 n3 n4 n5 ((AS.out.setBlk 3 (.int .i64 (left - 1))).setBlk 4 (.int .i64 (done + 1)))
  · go_enter Try.func125, Try.ntmps125
    go_wp2
    go_ret
    obtain ⟨n1, n2, n3, n4, n5, _⟩ := AN.out
    refine ⟨by first | rfl | (simp; done), ?_⟩
    have : leftF left = left := if_neg (by omega)
    rw [this]
    exact shut_ n1 n2 n3 n4 n5 (AS.out.setBlk 4 (.int .i64 (done + 1)))
end
end Go.Proofs.Ytjngnigelkgekaa.Ref
