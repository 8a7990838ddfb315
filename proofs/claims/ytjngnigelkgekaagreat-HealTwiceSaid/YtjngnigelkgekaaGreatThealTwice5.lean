/- Iter, Disk5, Disk6, Turn1, SumPut, Sum2, RootP, Equal, Cuts, Zero, CutsAny, Sum1: what HealTwice needs. -/
import Derived.Test.YtjngnigelkgekaaGreatThealTwice4
import Derived.Maps.RangeRun
import Derived.Deep.LoopGhost
import Derived.Test.YtjngnigelkgekaaGreatProg
import Derived.WalkKit
import Derived.KernelRfl
import Derived.WalkSpells
import Derived.Deep.QuietTactic
set_option linter.unusedVariables false
set_option linter.unusedSimpArgs false
namespace Go.Proofs.YtjngnigelkgekaaGreat.Kit
open Go.RowKit Go.Proofs.YtjngnigelkgekaaGreatW.PrintWords Go.Proofs.YtjngnigelkgekaaGreatW.PrintLast Go.Proofs.YtjngnigelkgekaaGreatW.PrintMore
def Ob (g : Nat) (o : Obj) : HP where
  P W ok := (∀ k, ok k ↔ k = g) ∧ W.heap[g]? = some o
  loc := fun h hm => ⟨h.1, (hm _ ((h.1 _).2 rfl)).trans h.2⟩
  bnd := fun h k hk => by rw [(h.1 k).1 hk]; exact blk_lt h.2
namespace Sep
variable {w0 W W' : World} {F : List HP} {g : Nat} {o : Obj}
theorem ob (h : Sep w0 W (Ob g o :: F)) : W.heap[g]? = some o := by
  obtain ⟨ok, hp, _⟩ := h.sep; exact hp.2
theorem newOb (h : Sep w0 W F) (o : Obj) : Sep w0 (W.alloc o) (Ob W.heap.size o :: F) :=
  h.gain (below_alloc (Below.refl _ _) _) (ok := fun k => k = W.heap.size) ⟨fun _ => Iff.rfl, blk_new W _⟩ (fun k hk => by omega)
theorem setOb (h : Sep w0 W (Ob g o :: F)) (o' : Obj) : Sep w0 { W with heap := W.heap.setIfInBounds g o' } (Ob g o' :: F) :=
  h.step ⟨rfl, rfl, rfl, by simp⟩ (fun ok hp => ⟨fun k _ hn => by
    have hne : g ≠ k := fun he => hn ((hp.1 k).2 he.symm)
    simp [Array.getElem?_setIfInBounds, hne], ok, ⟨hp.1, by
    have hlt := blk_lt hp.2
    simp [Array.getElem?_setIfInBounds, hlt]⟩, fun k hk => .inl hk⟩)
end Sep
def itObj (m clock : Nat) (seen : List Nat) : Obj := .mapIter (some m) clock seen.toArray clock
section
variable {P : Program} {T K E : TypeId} {m r clock : Nat} {w0 W : World} {l : List En} {F : List HP}
theorem range_run (hT : P.underlying T = some (.map K E)) (hm : W.heap[m]? = some (.map (ens l) clock)) :
    (Instr.range T (.map (some m))).run P W = .ok (.pointer (some ⟨W.heap.size, 0, none⟩)) (W.alloc (itObj m clock [])) := by
  simp [Instr.range, run_underlying hT, get_map hm, itObj]
theorem next_run {seen : List Nat} (h : Sep w0 W (Ob r (itObj m clock seen) :: MapB m (ens l) clock :: F)) (hb : ∀ e ∈ l, e.born < clock) (hn : (l.map (·.born)).Nodup) (ty : TypeId) :
    ((∀ e ∈ l, e.born ∈ seen) ∧ (Instr.next (.pointer (some ⟨r, 0, none⟩)) false ty).run P W = .ok (.tuple #[.bool false]) W) ∨
    ∃ e ∈ l, e.born ∉ seen ∧ ∃ W', (Instr.next (.pointer (some ⟨r, 0, none⟩)) false ty).run P W = .ok (.tuple #[.bool true, .int .i64 e.k, e.v]) W' ∧
      Sep w0 W' (Ob r (itObj m clock (seen ++ [e.born])) :: MapB m (ens l) clock :: F) ∧ (Instr.entry (.pointer (some ⟨r, 0, none⟩))).run P W' = .ok (.tuple #[.int .i64 e.k, e.v]) W' := by
  have hr := h.ob
  have hm := h.tail.map
  have hold : ∀ x ∈ (ens l).toList, x.born < clock := fun x hx => by
    obtain ⟨e, he, rfl⟩ := List.mem_map.1 (by simpa [ens] using hx)
    exact hb e he
  have hnd : ((ens l).toList.map (·.born)).Nodup := by
    have : (ens l).toList.map (·.born) = l.map (·.born) := by simp [ens, En.toE]
    rw [this]; exact hn
  have hleft : ∀ x, x ∈ (leftOf (ens l) seen.toArray).toList ↔ ∃ e ∈ l, e.toE = x ∧ e.born ∉ seen := fun x => by
    simp only [leftOf, ens, Array.toList_filter, List.mem_filter, List.mem_map]
    constructor
    · rintro ⟨⟨e, he, rfl⟩, h2⟩
      exact ⟨e, he, rfl, by simpa [En.toE] using h2⟩
    · rintro ⟨e, he, rfl, h2⟩
      exact ⟨⟨e, he, rfl⟩, by simpa [En.toE] using h2⟩
  rcases run_next_at (P := P) W ty r m clock clock seen.toArray (ens l) clock hr hm hold (Nat.le_refl _) with ⟨h0, h1⟩ | ⟨x, hx, w1, hw, h1⟩
  · refine .inl ⟨fun e he => Classical.not_not.1 fun hne => ?_, h1⟩
    have := (hleft e.toE).2 ⟨e, he, rfl, hne⟩
    rw [Array.size_eq_zero_iff.1 h0] at this
    simp at this
  · obtain ⟨e, he, rfl, hne⟩ := (hleft x).1 hx
    have hw' : Sep w0 w1 (Ob r (itObj m clock seen) :: MapB m (ens l) clock :: F) := by
      rcases hw with rfl | rfl
      · exact h
      · exact h.drew
    have h2 := hw'.setOb (itObj m clock (seen ++ [e.born]))
    have e1 : (seen.toArray.push e.born) = (seen ++ [e.born]).toArray := by simp
    refine .inr ⟨e, he, hne, _, by rw [h1]; rfl, ?_, ?_⟩
    · have : ChangeMaps.setBlock w1 r (.mapIter (some m) clock (seen.toArray.push e.toE.born) clock) = { w1 with heap := w1.heap.setIfInBounds r (itObj m clock (seen ++ [e.born])) } := by
        simp [ChangeMaps.setBlock, itObj, En.toE]
      rw [this]; exact h2
    · have hq : ChangeMaps.setBlock w1 r (.mapIter (some m) clock (seen.toArray.push e.toE.born) clock) = { w1 with heap := w1.heap.setIfInBounds r (itObj m clock (seen ++ [e.born])) } := by
        simp [ChangeMaps.setBlock, itObj, En.toE]
      rw [hq]
      have hrr := h2.ob
      exact run_entry_at _ r m clock seen.toArray (ens l) clock e.toE (by rw [hrr]; simp [itObj, En.toE]) h2.tail.map (by simp [ens]; exact ⟨e, he, rfl⟩) hnd
end
end Go.Proofs.YtjngnigelkgekaaGreat.Kit
namespace Go.Proofs.YtjngnigelkgekaaGreat.Disk
open Go.RowKit Go.Proofs.YtjngnigelkgekaaGreatW.PrintWords Go.Proofs.YtjngnigelkgekaaGreatW.PrintLast Go.Proofs.YtjngnigelkgekaaGreatW.PrintMore Go.Proofs.YtjngnigelkgekaaGreat.Kit
def laid (las : List Int) (done : List Ent) : List Int := secs (las.length / 64) (fun i => ((done.find? (fun e => e.k == i)).map (·.b)).getD (sec las i))
def flushed (las : List Int) (wt : Nat → Option (List Int)) : List Int := secs (las.length / 64) (fun i => (wt i).getD (sec las i))
def leftN (ents : List Ent) (seen : List Nat) : Nat := (ents.filter (fun e => !seen.contains e.born)).length
theorem left_le (seen : List Nat) (s : Nat) : ∀ ents : List Ent, leftN ents (seen ++ [s]) ≤ leftN ents seen
  | [] => Nat.le_refl _
  | x :: l => by
    have := left_le seen s l
    unfold leftN at *
    simp only [List.filter_cons]
    by_cases h1 : x.born ∈ seen
    · have h2 : x.born ∈ seen ++ [s] := by simp [h1]
      simp [h1]; simpa using this
    · by_cases h2 : x.born = s
      · have h3 : s ∉ seen := h2 ▸ h1
        simp [h3, h2]; simp at this; omega
      · simp [h1, h2]; simpa using this
theorem left_lt {seen : List Nat} {e : Ent} (hs : e.born ∉ seen) : ∀ {ents : List Ent}, e ∈ ents → leftN ents (seen ++ [e.born]) < leftN ents seen
  | x :: l, h => by
    have hle := left_le seen e.born l
    unfold leftN at *
    simp only [List.filter_cons]
    rcases List.mem_cons.1 h with rfl | h
    · simp [hs]; simp at hle; omega
    · have ih := left_lt hs h
      unfold leftN at ih
      by_cases h1 : x.born ∈ seen
      · simp [h1]; simpa using ih
      · by_cases h2 : x.born = e.born
        · simp [hs, h2]; simp at ih; omega
        · simp [h1, h2]; simpa using ih
theorem nodup_key {ents : List Ent} (h : (ents.map (·.k)).Nodup) {a b : Ent} (ha : a ∈ ents) (hb : b ∈ ents) (hk : a.k = b.k) : a = b := by
  induction ents with
  | nil => cases ha
  | cons x l ih =>
    rw [List.map_cons, List.nodup_cons] at h
    rcases List.mem_cons.1 ha with h1 | h1
    · rcases List.mem_cons.1 hb with h2 | h2
      · rw [h1, h2]
      · exact absurd (List.mem_map.2 ⟨b, h2, by rw [← hk, h1]⟩) h.1
    · rcases List.mem_cons.1 hb with h2 | h2
      · exact absurd (List.mem_map.2 ⟨a, h1, by rw [hk, h2]⟩) h.1
      · exact ih h.2 h1 h2
theorem nodup_born {ents : List Ent} (h : (ents.map (·.born)).Nodup) {a b : Ent} (ha : a ∈ ents) (hb : b ∈ ents) (hk : a.born = b.born) : a = b := by
  induction ents with
  | nil => cases ha
  | cons x l ih =>
    rw [List.map_cons, List.nodup_cons] at h
    rcases List.mem_cons.1 ha with h1 | h1
    · rcases List.mem_cons.1 hb with h2 | h2
      · rw [h1, h2]
      · exact absurd (List.mem_map.2 ⟨b, h2, by rw [← hk, h1]⟩) h.1
    · rcases List.mem_cons.1 hb with h2 | h2
      · exact absurd (List.mem_map.2 ⟨a, h1, by rw [hk, h2]⟩) h.1
      · exact ih h.2 h1 h2
theorem find_mem {l : List Ent} (h : (l.map (·.k)).Nodup) {e : Ent} (he : e ∈ l) : l.find? (fun x => x.k == e.k) = some e := by
  cases hf : l.find? (fun x => x.k == e.k) with
  | none => exact absurd rfl (find_not hf e he)
  | some x =>
    obtain ⟨pre, post, hl, hk, _⟩ := find_split hf
    rw [nodup_key h (by rw [hl]; simp) he hk]
theorem laid_nil {las : List Int} {n : Nat} (h : las.length = 64 * n) : laid las [] = las := by
  unfold laid
  rw [show las.length / 64 = n by omega]
  exact secs_self h
theorem laid_len {las : List Int} {ents : List Ent} {clock : Nat} {wt : Nat → Option (List Int)} (hok : DskOk las ents clock wt) {done : List Ent} (hd : ∀ e ∈ done, e ∈ ents) : ∀ i, i < las.length / 64 → ((fun i => ((done.find? (fun e => e.k == i)).map (·.b)).getD (sec las i)) i).length = 64 := fun i hi => by
  cases hf : done.find? (fun e => e.k == i) with
  | none => simp [hf]; exact sec_len (by omega)
  | some e =>
    obtain ⟨pre, post, hl, hk, _⟩ := find_split hf
    simp [hf]; exact (hok.each e (hd e (by rw [hl]; simp))).2.2.1
theorem laid_step {las : List Int} {ents : List Ent} {clock : Nat} {wt : Nat → Option (List Int)} (hok : DskOk las ents clock wt) {done : List Ent} (hd : ∀ e ∈ done, e ∈ ents) {e : Ent} (he : e ∈ ents) (hn : e.born ∉ done.map (·.born)) :
    over (laid las done) (64 * e.k) (e.b.take 64) = laid las (done ++ [e]) := by
  obtain ⟨_, hk, hb, _⟩ := hok.each e he
  obtain ⟨n, h1, h2, h3⟩ := hok.len
  rw [List.take_of_length_le (by omega)]
  unfold laid
  rw [over_secs (laid_len hok hd) (by omega) (by omega)]
  refine secs_congr fun i hi => ?_
  rw [List.find?_append]
  have hnd : ∀ x ∈ done, x.k ≠ e.k := fun x hx hxe => hn (by rw [← nodup_key hok.keys (hd x hx) he hxe]; exact List.mem_map.2 ⟨x, hx, rfl⟩)
  by_cases hi2 : i = e.k
  · subst hi2
    have hl := laid_len hok hd e.k hi
    rw [if_pos rfl, List.drop_of_length_le (by rw [hb]; exact Nat.le_of_eq hl)]
    have : done.find? (fun x => x.k == e.k) = none := by rw [List.find?_eq_none]; intro x hx; simpa using hnd x hx
    simp [this]
  · rw [if_neg hi2]
    have : (e.k == i) = false := by simp; omega
    cases done.find? (fun x => x.k == i) <;> simp [this]
theorem laid_all {las : List Int} {ents : List Ent} {clock : Nat} {wt : Nat → Option (List Int)} (hok : DskOk las ents clock wt) {done : List Ent} (hd : ∀ e ∈ done, e ∈ ents) (hall : ∀ e ∈ ents, e.born ∈ done.map (·.born)) : laid las done = flushed las wt := by
  unfold laid flushed
  refine secs_congr fun i hi => ?_
  congr 1
  rw [hok.wt i]
  have hin : ∀ e ∈ ents, e ∈ done := fun e he => by
    obtain ⟨x, hx, hb⟩ := List.mem_map.1 (hall e he)
    rwa [← nodup_born hok.borns (hd x hx) he hb]
  cases hf : ents.find? (fun e => e.k == i) with
  | none =>
    have : done.find? (fun e => e.k == i) = none := by rw [List.find?_eq_none]; intro x hx; simpa using find_not hf x (hd x hx)
    rw [this]
  | some e =>
    obtain ⟨pre, post, hl, hk, _⟩ := find_split hf
    have he : e ∈ ents := by rw [hl]; simp
    cases hf2 : done.find? (fun e => e.k == i) with
    | none => exact absurd hk (find_not hf2 e (hin e he))
    | some x =>
      obtain ⟨pre2, post2, hl2, hk2, _⟩ := find_split hf2
      rw [nodup_key hok.keys (hd x (by rw [hl2]; simp)) he (hk2.trans hk.symm)]
theorem bornOk {ents : List Ent} {las : List Int} {clock : Nat} {wt : Nat → Option (List Int)} (hok : DskOk las ents clock wt) : (∀ e ∈ ents.map Ent.en, e.born < clock) ∧ ((ents.map Ent.en).map (·.born)).Nodup := by
  refine ⟨fun y hy => ?_, ?_⟩
  · obtain ⟨x, hx, rfl⟩ := List.mem_map.1 hy
    exact (hok.each x hx).1
  · rw [List.map_map]; exact hok.borns
theorem clear_run {w0 W : World} {m clock : Nat} {l : List En} {F : List HP} (h : Sep w0 W (MapB m (ens l) clock :: F)) (ty : TypeId) : ∃ W', (Builtin.clear_ #[98] ty #[.map (some m)]).run Tryz.prog W = .ok (.tuple #[]) W' ∧ Sep w0 W' (MapB m (ens []) clock :: F) := by
  refine ⟨_, ?_, h.setMap (ens []) clock⟩
  simp [Builtin.clear_, run_underlying Tryz.underlying98, get_map h.map, set_map h.map, ens]
end Go.Proofs.YtjngnigelkgekaaGreat.Disk
namespace Go.Proofs.YtjngnigelkgekaaGreat.Disk
open Go.RowKit Go.Proofs.YtjngnigelkgekaaGreatW.PrintWords Go.Proofs.YtjngnigelkgekaaGreatW.PrintLast Go.Proofs.YtjngnigelkgekaaGreatW.PrintMore Go.Proofs.YtjngnigelkgekaaGreat.Kit
theorem size1 : (Tryz.prog.info? 5).map (·.size) = some 1 := by kernel_rfl
def FlushI (w0 : World) (g m r gl c clock : Nat) (ents : List Ent) (las : List Int) (F : List HP) (k : Nat) (wr : World) : Prop :=
  ∃ done : List Ent, (∀ e ∈ done, e ∈ ents) ∧ k = leftN ents (done.map (·.born)) ∧
    Sep w0 wr (Ob r (itObj m clock (done.map (·.born))) :: MapB m (ens (ents.map Ent.en)) clock :: Blk g 100 #[.slice (some ⟨gl, 0, none⟩) las.length c, .map (some m)] :: Row U8 5 (.slice (some ⟨gl, 0, none⟩) las.length c) (laid las done) :: (ents.map Ent.rd ++ F))
theorem rd_mem {w0 W : World} {ents : List Ent} {F : List HP} (h : Sep w0 W (ents.map Ent.rd ++ F)) {x : Ent} (hx : x ∈ ents) : U8.C W x.A 64 x.b := by
  obtain ⟨s, t, rfl⟩ := List.append_of_mem hx
  rw [List.map_append, List.map_cons, List.append_assoc, List.cons_append] at h
  exact h.weak.rd
set_option maxHeartbeats 800000 in
set_option maxRecDepth 100000 in
theorem flush_ {w0 W : World} {g : Nat} {las : List Int} {wt : Nat → Option (List Int)} {F : List HP} (h : Sep w0 W (Dsk g las wt :: F)) :
    Calls Tryz.prog 67 #[.pointer (some ⟨g, 0, none⟩)] W fun e w' => e = .returned (.tuple #[]) ∧ Sep w0 w' (Dsk g (flushed las wt) (fun _ => none) :: F) := by
  obtain ⟨v, m, ents, clock, hok, hs⟩ := open_ h
  obtain ⟨p1, p2, p3⟩ := hok.pos
  obtain ⟨n, hn, n1, n2⟩ := hok.len
  obtain ⟨gl, c, rfl⟩ := hs.tail.rowForm (by omega)
  have hc := hs.tail.rowC.2.1
  have c1 : W.cell? ⟨g, 1, none⟩ = some (.map (some m)) := by rw [hs.cell 1]; rfl
  have hrg := range_run (P := Tryz.prog) (W := W) Tryz.underlying98 hs.tail.tail.map
  have HI : FlushI w0 g m W.heap.size gl c clock ents las F ents.length (W.alloc (itObj m clock [])) := by
    refine ⟨[], fun e he => absurd he (by simp), (by simp [leftN, List.filter_eq_self.2]), ?_⟩
    rw [laid_nil hn]
    exact (hs.newOb (itObj m clock [])).perm (.cons _ ((List.Perm.cons _ (.swap _ _ _)).trans (.swap _ _ _)))
  have A0 := Aside0.mk HI
  have AO := Aside0.mk hok
  have AC := Aside0.mk hc
  have AN := Aside0.mk hn
  clear HI hok hc hs h p3 hn
  go_enter Tryz.func67, Tryz.ntmps67
  go_wp2
  go_loopg [2] ents.length (fun k p wr => FlushI w0 g m W.heap.size gl c clock ents las F k wr)
  case atStart => exact A0.out
  case round =>
    obtain ⟨done, hd, hk, hS⟩ := hrel
    obtain ⟨hb1, hb2⟩ := bornOk AO.out
    have c1 : wr.cell? ⟨g, 1, none⟩ = some (.map (some m)) := by rw [hS.tail.tail.cell 1]; rfl
    have c0 : wr.cell? ⟨g, 0, none⟩ = some (.slice (some ⟨gl, 0, none⟩) las.length c) := by rw [hS.tail.tail.cell 0]; rfl
    rcases next_run (P := Tryz.prog) hS hb1 hb2 0 with ⟨hall, hnx⟩ | ⟨e, he, hne, W1, hnx, hS1, hen⟩
    · obtain ⟨W2, hcl, hS2⟩ := clear_run hS.at2 0
      have AL := Aside0.mk hall
      have AS := Aside0.mk hS2
      have AD := Aside0.mk hd
      clear hS hS2 hall hb1 hd c0 hk
      go_wp2
      go_end0
      refine ⟨rfl, ?_⟩
      have hl := laid_all AO.out AD.out (fun e he => AL.out e.en (List.mem_map.2 ⟨e, he, rfl⟩))
      have h5 := AS.out
      rw [hl] at h5
      have hfl : (flushed las wt).length = las.length := by
        rw [← hl]; have h6 := AS.out.tail.tail.tail.rowC.1; exact h6.symm
      refine shut_ (v := .slice (some ⟨gl, 0, none⟩) las.length c) (m := m) (ents := []) (clock := clock) ⟨?_, List.nodup_nil, List.nodup_nil, fun e he => absurd he (by simp), fun _ => rfl⟩ ?_
      · rw [hfl]; exact AO.out.len
      · have h7 : Sep w0 W2 (Blk g 100 #[.slice (some ⟨gl, 0, none⟩) las.length c, .map (some m)] :: Row U8 5 (.slice (some ⟨gl, 0, none⟩) las.length c) (flushed las wt) :: MapB m (ens []) clock :: (ents.map Ent.rd ++ F)) := by
          have h8 := h5.at2.tail
          exact h8.to3
        have h9 := h7.perm (L' := ents.map Ent.rd ++ (Blk g 100 #[.slice (some ⟨gl, 0, none⟩) las.length c, .map (some m)] :: Row U8 5 (.slice (some ⟨gl, 0, none⟩) las.length c) (flushed las wt) :: MapB m (ens []) clock :: F)) (by
          have := List.perm_append_comm (l₁ := [Blk g 100 #[.slice (some ⟨gl, 0, none⟩) las.length c, .map (some m)], Row U8 5 (.slice (some ⟨gl, 0, none⟩) las.length c) (flushed las wt), MapB m (ens []) clock]) (l₂ := ents.map Ent.rd)
          simpa using this.append_right F)
        exact h9.weak
    · obtain ⟨x, hx, rfl⟩ := List.mem_map.1 he
      have hC := rd_mem hS1.tail.tail.tail.tail hx
      have hx' := AO.out.each x hx
      have hst := laid_step AO.out hd hx hne
      have hlt := left_lt hne hx
      have c0' : W1.cell? ⟨g, 0, none⟩ = some (.slice (some ⟨gl, 0, none⟩) las.length c) := by rw [hS1.tail.tail.cell 0]; rfl
      have AS := Aside0.mk hS1.at4
      have AC1 := Aside0.mk hC
      have AX := Aside0.mk hx'
      have AD := Aside0.mk hd
      have AT := Aside0.mk hst
      have AK := Aside0.mk hk
      have AH := Aside0.mk hx
      have hi : 64 * (x.k + 1) ≤ las.length := by have := AN.out; omega
      clear hS hS1 hC hx' hb1 hd c0 c1 hst hk hx he hne
      go_wp2_with (first | (go_at_call 58; refine (sector_ c0' hi p2 AC.out).mono ?_; rintro e w' ⟨rfl, rfl⟩) | (refine gate_builtin (b := .copy) (xs := #[.tmp 16, .tmp 17]) rfl ?_; refine AS.out.copyRow rfl (.tmp 16) (.tmp 17) rfl Tryz.underlying24 size1 (o := 64 * x.k) (n' := 64) (c' := c - 64 * x.k) (m := 64) (c := x.c) (A := x.A) (ys := x.b) rfl rfl AC1.out (by omega) ?_; intro W2 hS2; rw [AT.out] at hS2; have AS2 := Aside0.mk hS2; clear hS2))
      go_roundg (leftN ents (done.map (·.born) ++ [x.born]))
      case measure => rw [AK.out]; exact hlt
      case rel =>
        refine ⟨done ++ [x], fun e he => ?_, by rw [List.map_append]; rfl, ?_⟩
        · rcases List.mem_append.1 he with he | he
          · exact AD.out e he
          · simp at he; rw [he]; exact AH.out
        · rw [List.map_append]
          exact AS2.out.to4
end Go.Proofs.YtjngnigelkgekaaGreat.Disk
namespace Go.Proofs.YtjngnigelkgekaaGreat.Plain
end Go.Proofs.YtjngnigelkgekaaGreat.Plain
namespace Go.Proofs.YtjngnigelkgekaaGreat.Sum
open Go.RowKit Go.Proofs.YtjngnigelkgekaaGreatW.PrintWords Go.Proofs.YtjngnigelkgekaaGreatW.PrintLast Go.Proofs.YtjngnigelkgekaaGreatW.PrintMore Go.Proofs.YtjngnigelkgekaaGreat.Kit Go.Proofs.YtjngnigelkgekaaGreat.Plain
abbrev B8 : Kd Int := Kd.int .u8
theorem infoB8 : (Tryz.prog.info? 5).map (fun i => (i.zero, i.size, i.bytes)) = some (some (.int .u8 0), 1, 1) := by kernel_rfl
theorem sumF_snoc (l : List Int) (x : Int) : sumF (l ++ [x]) = stepF (sumF l) x := by unfold sumF; rw [List.foldl_append]; rfl
theorem stepF_in (h x : Int) : 0 ≤ stepF h x ∧ stepF h x ≤ 4294967295 := by unfold stepF; omega
theorem sumF_in (l : List Int) : 0 ≤ sumF l ∧ sumF l ≤ 4294967295 := by
  rcases List.eq_nil_or_concat l with rfl | ⟨a, x, rfl⟩
  · unfold sumF; simp
  · rw [List.concat_eq_append, sumF_snoc]; exact stepF_in _ _
theorem take_snoc {l : List Int} {j : Nat} (h : j < l.length) : l.take (j + 1) = l.take j ++ [rd l (j : Int)] := by
  rw [List.take_add_one, List.getElem?_eq_getElem h]
  unfold rd
  rw [Int.toNat_natCast, List.getD_eq_getElem?_getD, List.getElem?_eq_getElem h]
  rfl
set_option maxHeartbeats 1600000 in
set_option maxRecDepth 100000 in
theorem put_ {A : Option Addr} {n c : Nat} {l : List Int} {m : Int} {w : World} (hr : B8.C w A n l) (hm : 0 ≤ m ∧ m ≤ 4294967295) (hl : n ≤ 140737488355320) :
    Calls Tryz.prog 102 #[.slice A n c, .int .u32 m] w fun e w' => ∃ v, e = .returned v ∧ Sep w w' [Row B8 5 v (l ++ put4 m)] := by
  obtain rfl : l.length = n := hr.1
  have HR := Aside0.mk hr
  have HM := Aside0.mk hm
  have L0 := Aside0.mk ((Sep.start w).litRow (enc := Value.int .u8) (h1 := fun _ => rfl) (e := 5) [] (by decide))
  clear hr
  go_enter Tryz.func102, Tryz.ntmps102
  go_wp2_with (first | (refine gate_builtin (b := .append) (xs := #[.tmp 7, .tmp 8]) rfl ?_; go_loud (refine L0.out.appendRow rfl (.tmp 7) (.tmp 8) 24 (.int .u8 0) 1 rfl Tryz.underlying24 infoB8 rfl (by decide) A l.length c rfl rfl (Kd.C_alloc HR.out _) (by simp; omega) ?_; intro v1 w1 hS1; rw [List.nil_append] at hS1; have A1 := Aside0.mk hS1; clear hS1)))
  go_loopg [5, 6] 4 (fun k v p wr => ∃ j : Nat, p = .int .i64 (3 - (j : Int)) ∧ j + k = 4 ∧ Sep w wr [Row B8 5 v (l ++ (put4 m).take j)])
  case atStart => exact ⟨0, rfl, rfl, by rw [List.take_zero, List.append_nil]; exact A1.out⟩
  case round =>
    obtain ⟨j, rfl, hjk, hS⟩ := hrel
    have AS := Aside0.mk hS
    have AK := Aside0.mk hjk
    clear hS
    by_cases hj : j < 4
    · clear hjk
      rcases (by omega : j = 0 ∨ j = 1 ∨ j = 2 ∨ j = 3) with rfl | rfl | rfl | rfl
      · have AR2 := Aside0.mk (AS.out.litRow (enc := Value.int .u8) (h1 := fun _ => rfl) (e := 5) [m / 16777216] (by simp)).at2
        have hT : (put4 m).take 1 = (put4 m).take 0 ++ [m / 16777216] := by unfold put4; simp <;> omega
        have AT := Aside0.mk hT
        clear hT
        go_wp2_with (first | (refine gate_builtin (b := .append) (xs := #[.tmp 14, .tmp 20]) rfl ?_; go_loud (refine AR2.out.appendRow rfl (.tmp 14) (.tmp 20) 24 (.int .u8 0) 1 rfl Tryz.underlying24 infoB8 rfl (by decide) (some ⟨wr.heap.size, 0, none⟩) 1 1 rfl rfl AR2.out.at2.rowC.2.2 (by simp [put4]; omega) ?_; intro v2 w2 hS2; have AS2 := Aside0.mk hS2; clear hS2)))
        go_roundg (gk - 1)
        case measure => have := AK.out; omega
        case rel => exact ⟨1, by go_num, by have := AK.out; omega, by rw [AT.out, ← List.append_assoc]; exact AS2.out.drop2⟩
      · have AR2 := Aside0.mk (AS.out.litRow (enc := Value.int .u8) (h1 := fun _ => rfl) (e := 5) [m / 65536 % 256] (by simp)).at2
        have hT : (put4 m).take 2 = (put4 m).take 1 ++ [m / 65536 % 256] := by unfold put4; simp <;> omega
        have AT := Aside0.mk hT
        clear hT
        go_wp2_with (first | (refine gate_builtin (b := .append) (xs := #[.tmp 14, .tmp 20]) rfl ?_; go_loud (refine AR2.out.appendRow rfl (.tmp 14) (.tmp 20) 24 (.int .u8 0) 1 rfl Tryz.underlying24 infoB8 rfl (by decide) (some ⟨wr.heap.size, 0, none⟩) 1 1 rfl rfl AR2.out.at2.rowC.2.2 (by simp [put4]; omega) ?_; intro v2 w2 hS2; have AS2 := Aside0.mk hS2; clear hS2)))
        go_roundg (gk - 1)
        case measure => have := AK.out; omega
        case rel => exact ⟨2, by go_num, by have := AK.out; omega, by rw [AT.out, ← List.append_assoc]; exact AS2.out.drop2⟩
      · have AR2 := Aside0.mk (AS.out.litRow (enc := Value.int .u8) (h1 := fun _ => rfl) (e := 5) [m / 256 % 256] (by simp)).at2
        have hT : (put4 m).take 3 = (put4 m).take 2 ++ [m / 256 % 256] := by unfold put4; simp <;> omega
        have AT := Aside0.mk hT
        clear hT
        go_wp2_with (first | (refine gate_builtin (b := .append) (xs := #[.tmp 14, .tmp 20]) rfl ?_; go_loud (refine AR2.out.appendRow rfl (.tmp 14) (.tmp 20) 24 (.int .u8 0) 1 rfl Tryz.underlying24 infoB8 rfl (by decide) (some ⟨wr.heap.size, 0, none⟩) 1 1 rfl rfl AR2.out.at2.rowC.2.2 (by simp [put4]; omega) ?_; intro v2 w2 hS2; have AS2 := Aside0.mk hS2; clear hS2)))
        go_roundg (gk - 1)
        case measure => have := AK.out; omega
        case rel => exact ⟨3, by go_num, by have := AK.out; omega, by rw [AT.out, ← List.append_assoc]; exact AS2.out.drop2⟩
      · have AR2 := Aside0.mk (AS.out.litRow (enc := Value.int .u8) (h1 := fun _ => rfl) (e := 5) [m % 256] (by simp)).at2
        have hT : (put4 m).take 4 = (put4 m).take 3 ++ [m % 256] := by unfold put4; simp <;> omega
        have AT := Aside0.mk hT
        clear hT
        go_wp2_with (first | (refine gate_builtin (b := .append) (xs := #[.tmp 14, .tmp 20]) rfl ?_; go_loud (refine AR2.out.appendRow rfl (.tmp 14) (.tmp 20) 24 (.int .u8 0) 1 rfl Tryz.underlying24 infoB8 rfl (by decide) (some ⟨wr.heap.size, 0, none⟩) 1 1 rfl rfl AR2.out.at2.rowC.2.2 (by simp [put4]; omega) ?_; intro v2 w2 hS2; have AS2 := Aside0.mk hS2; clear hS2)))
        go_roundg (gk - 1)
        case measure => have := AK.out; omega
        case rel => exact ⟨4, by go_num, by have := AK.out; omega, by rw [AT.out, ← List.append_assoc]; exact AS2.out.drop2⟩
    · have hj4 : j = 4 := by omega
      subst hj4
      clear hjk hj AK
      go_wp2_with fail
      go_ret
      exact ⟨_, by first | rfl | (simp; done), AS.out⟩
end Go.Proofs.YtjngnigelkgekaaGreat.Sum
namespace Go.Proofs.YtjngnigelkgekaaGreat.Sum
open Go.RowKit Go.Proofs.YtjngnigelkgekaaGreatW.PrintWords Go.Proofs.YtjngnigelkgekaaGreatW.PrintLast Go.Proofs.YtjngnigelkgekaaGreatW.PrintMore Go.Proofs.YtjngnigelkgekaaGreat.Kit Go.Proofs.YtjngnigelkgekaaGreat.Plain
theorem C_of8 {W : World} {A : Option Addr} {n : Nat} {l : List Int} (h : ReadsOf (Value.int .u8) (0 : Int) W A n l) : B8.C W A n l := Kd.C_of_reads (d := (0 : Int)) (h1 := fun _ => rfl) h
theorem of_C8 {W : World} {A : Option Addr} {n : Nat} {l : List Int} (h : B8.C W A n l) : ReadsOf (Value.int .u8) (0 : Int) W A n l := Kd.reads_of_C (d := (0 : Int)) h
theorem mid8 {A : Option Addr} {n c a b : Nat} {l : List Int} {J K : Int} (hJ : J = (a : Int)) (hK : K = (b : Int)) (hl : l.length = n) (hab : a ≤ b) (hb : b ≤ n) (hc : n ≤ c) :
    ∃ A', (∀ W : World, (Instr.slice 24 (.slice A n c) (some (.int .i64 J)) (some (.int .i64 K)) none).run Tryz.prog W = .ok (.slice A' (b - a) (c - a)) W) ∧ ∀ W : World, B8.C W A n l → B8.C W A' (b - a) ((l.take b).drop a) := by
  subst hJ hK hl
  obtain ⟨i, hi, hz⟩ := Option.map_eq_some_iff.1 infoB8
  simp only [Prod.mk.injEq] at hz
  obtain ⟨A', h1, h2, _⟩ := print_mid_of (P := Tryz.prog) (Value.int .u8) (0 : Int) 24 5 .i64 .i64 Tryz.underlying24 hi hz.2.1 A c l (a : Int) (b : Int) (by omega) (by omega) (by omega) hc
  have hlen : ((l.take b).drop a).length = b - a := by rw [List.length_drop, List.length_take]; omega
  simp only [Int.toNat_natCast, hlen] at h1 h2
  exact ⟨A', h1, fun W h => C_of8 (h2 W (of_C8 h))⟩
def accF (l : List Int) : Int := l.foldl (fun n c => n * 256 + c) 0
theorem accF_snoc (l : List Int) (x : Int) : accF (l ++ [x]) = accF l * 256 + x := by unfold accF; rw [List.foldl_append]; rfl
theorem accF_in {l : List Int} (h : Bytes l) (h3 : l.length ≤ 3) : 0 ≤ accF l ∧ accF l < 16777216 := by
  match l, h3 with
  | [], _ => unfold accF; simp
  | [a], _ => have := h a (by simp); simp [accF]; omega
  | [a, b], _ => have := h a (by simp); have := h b (by simp); simp [accF]; omega
  | [a, b, c], _ => have := h a (by simp); have := h b (by simp); have := h c (by simp); simp [accF]; omega
theorem getF_acc {l : List Int} {a : Nat} (h : a + 4 ≤ l.length) : accF ((l.take (a + 4)).drop a) = getF l (a : Int) := by
  have hl : ((l.take (a + 4)).drop a).length = 4 := by rw [List.length_drop, List.length_take]; omega
  have he : (l.take (a + 4)).drop a = [rd l (a : Int), rd l ((a : Int) + 1), rd l ((a : Int) + 2), rd l ((a : Int) + 3)] := by
    apply List.ext_getElem?
    intro j
    rw [List.getElem?_drop, List.getElem?_take]
    unfold rd
    match j with
    | 0 => rw [if_pos (by omega), List.getElem?_eq_getElem (by omega)]; simp [List.getElem?_eq_getElem (show a < l.length by omega)]
    | 1 => rw [if_pos (by omega), List.getElem?_eq_getElem (by omega)]; simp [show ((a : Int) + 1).toNat = a + 1 by omega, List.getElem?_eq_getElem (show a + 1 < l.length by omega)]
    | 2 => rw [if_pos (by omega), List.getElem?_eq_getElem (by omega)]; simp [show ((a : Int) + 2).toNat = a + 2 by omega, List.getElem?_eq_getElem (show a + 2 < l.length by omega)]
    | 3 => rw [if_pos (by omega), List.getElem?_eq_getElem (by omega)]; simp [show ((a : Int) + 3).toNat = a + 3 by omega, List.getElem?_eq_getElem (show a + 3 < l.length by omega)]
    | j + 4 => rw [if_neg (by omega)]; simp
  rw [he]
  unfold getF
  rw [if_neg (by omega)]
  simp [accF]
set_option maxHeartbeats 800000 in
theorem get_out {A : Option Addr} {n c : Nat} {l : List Int} {a : Int} {w : World} (hr : B8.C w A n l) (ha : a < 0 ∨ (l.length : Int) - 4 < a) (ha2 : -9223372036854775808 ≤ a ∧ a ≤ 9223372036854775807) :
    Calls Tryz.prog 131 #[.slice A n c, .int .i64 a] w fun e w' => e = .returned (.int .u32 (getF l a)) ∧ w = w' := by
  obtain rfl : l.length = n := hr.1
  have hm : l.length ≤ 9223372036854775807 := hr.2.1
  have hg : getF l a = 0 := by unfold getF; rw [if_pos ha]
  have HG := Aside0.mk hg
  clear hr hg
  by_cases h0 : a < 0
  · clear ha
    go_enter Tryz.func131, Tryz.ntmps131
    go_wp2
    go_ret
    exact ⟨by rw [HG.out]; first | rfl | (simp; done), rfl⟩
  · have h1 : (l.length : Int) - 4 < a := by omega
    clear ha
    go_enter Tryz.func131, Tryz.ntmps131
    go_wp2
    go_ret
    exact ⟨by rw [HG.out]; first | rfl | (simp; done), rfl⟩
set_option maxHeartbeats 800000 in
theorem get_in {A : Option Addr} {n c : Nat} {l : List Int} {a : Nat} {w : World} (hr : B8.C w A n l) (hc : n ≤ c) (hb : Bytes l) (ha : a + 4 ≤ n) :
    Calls Tryz.prog 131 #[.slice A n c, .int .i64 (a : Int)] w fun e w' => e = .returned (.int .u32 (getF l (a : Int))) ∧ w = w' := by
  obtain rfl : l.length = n := hr.1
  have hm : l.length ≤ 9223372036854775807 := hr.2.1
  obtain ⟨A', hcut, hC⟩ := mid8 (A := A) (c := c) (l := l) (a := a) (b := a + 4) (J := (a : Int)) (K := (a : Int) + 4) rfl (by omega) rfl (by omega) ha hc
  rw [Nat.add_sub_cancel_left] at hcut
  have HR := Aside0.mk (by have := hC w hr; rwa [Nat.add_sub_cancel_left] at this)
  have HB : Aside0 (Bytes ((l.take (a + 4)).drop a)) := ⟨(hb.take _).drop _⟩
  have HG := Aside0.mk (getF_acc ha)
  have hl4 : ((l.take (a + 4)).drop a).length = 4 := by rw [List.length_drop, List.length_take]; omega
  generalize (l.take (a + 4)).drop a = q at *
  have HL := Aside0.mk hl4
  have h1 : ¬ (l.length : Int) - 4 < (a : Int) := by omega
  clear hr hC hb hl4
  go_enter Tryz.func131, Tryz.ntmps131
  go_wp2_with fail
  go_loopg [5, 23] 4 (fun k s p wr => ∃ j : Nat, p = .int .i64 (j : Int) ∧ j + k = 4 ∧ s = .int .u32 (accF (q.take j)) ∧ w = wr)
  case atStart => exact ⟨0, rfl, rfl, rfl, rfl⟩
  case round =>
    obtain ⟨j, rfl, hjk, rfl, rfl⟩ := hrel
    have AK := Aside0.mk hjk
    by_cases hj : j < 4
    · obtain ⟨ad, hA, hcc⟩ := Kd.at_int HR.out (j : Int) (by omega) (by omega)
      subst hA
      rw [Int.toNat_natCast] at hcc
      have AT := Aside0.mk (take_snoc (l := q) (j := j) (by rw [HL.out]; exact hj))
      have hx := HB.out.at (j : Int)
      have hacc := accF_in (HB.out.take j) (by rw [List.length_take]; omega)
      generalize rd q (j : Int) = x at *
      have hsn := Aside0.mk (accF_snoc (q.take j) x)
      generalize accF (q.take j) = y at *
      have hor : Go.bits .or .u32 (y * 256) x = y * 256 + x := by
        have := shift_in hacc.1 hacc.2 hx.1 hx.2
        rwa [show y * 256 % 4294967296 = y * 256 by omega, show x % 4294967296 = x by omega] at this
      have HO := Aside0.mk hor
      clear hjk hor
      go_wp2_with fail
      go_roundg (gk - 1)
      case measure => have := AK.out; omega
      case rel => exact ⟨j + 1, by go_num, by have := AK.out; omega, by rw [AT.out, hsn.out, ← HO.out], rfl⟩
    · have hjn : j = 4 := by omega
      subst hjn
      have hq : q.take 4 = q := List.take_of_length_le (by rw [HL.out]; exact Nat.le_refl _)
      rw [hq]
      clear hjk AK hq
      go_wp2_with fail
      go_ret
      exact ⟨by rw [← HG.out]; first | rfl | (simp; done), rfl⟩
theorem get_ {A : Option Addr} {n c : Nat} {l : List Int} {a : Int} {w : World} (hr : B8.C w A n l) (hc : n ≤ c) (hb : Bytes l) (ha2 : -9223372036854775808 ≤ a ∧ a ≤ 9223372036854775807) :
    Calls Tryz.prog 131 #[.slice A n c, .int .i64 a] w fun e w' => e = .returned (.int .u32 (getF l a)) ∧ w = w' := by
  have hl := hr.1
  by_cases ha : a < 0 ∨ (l.length : Int) - 4 < a
  · exact get_out hr ha ha2
  · obtain ⟨k, rfl⟩ : ∃ k : Nat, a = (k : Int) := ⟨a.toNat, by omega⟩
    exact get_in hr hc hb (by omega)
theorem rd_app_right {l r : List Int} {j : Nat} (h : j < r.length) : rd (l ++ r) ((l.length : Int) + (j : Int)) = rd r (j : Int) := by
  unfold rd
  rw [show ((l.length : Int) + (j : Int)).toNat = l.length + j by omega, Int.toNat_natCast, List.getD_eq_getElem?_getD, List.getD_eq_getElem?_getD, List.getElem?_append_right (by omega), Nat.add_sub_cancel_left]
theorem getF_put (l r : List Int) {m : Int} (h0 : 0 ≤ m) (h1 : m ≤ 4294967295) : getF (l ++ (put4 m ++ r)) (l.length : Int) = m := by
  unfold getF
  have h4 : (put4 m).length = 4 := rfl
  rw [if_neg (by simp only [List.length_append, h4]; omega)]
  have e0 := rd_app_right (l := l) (r := put4 m ++ r) (j := 0) (by simp only [List.length_append, h4]; omega)
  have e1 := rd_app_right (l := l) (r := put4 m ++ r) (j := 1) (by simp only [List.length_append, h4]; omega)
  have e2 := rd_app_right (l := l) (r := put4 m ++ r) (j := 2) (by simp only [List.length_append, h4]; omega)
  have e3 := rd_app_right (l := l) (r := put4 m ++ r) (j := 3) (by simp only [List.length_append, h4]; omega)
  simp only [Int.natCast_zero, Int.add_zero, Int.natCast_one] at e0 e1
  rw [show ((l.length : Int) + 2) = (l.length : Int) + ((2 : Nat) : Int) from rfl, show ((l.length : Int) + 3) = (l.length : Int) + ((3 : Nat) : Int) from rfl, e0, e1, e2, e3]
  simp [rd, put4]
  omega
end Go.Proofs.YtjngnigelkgekaaGreat.Sum
namespace Go.Proofs.YtjngnigelkgekaaGreat.Plain
open Go Go.RowKit Go.Proofs.YtjngnigelkgekaaGreatW.PrintWords Go.Proofs.YtjngnigelkgekaaGreatW.PrintLast Go.Proofs.YtjngnigelkgekaaGreatW.PrintMore
open Go.Proofs.YtjngnigelkgekaaGreat.Sum (getF_put)
def markL : List Int := [69, 78, 71, 49]
def headR (a b c : Int) : List Int := markL ++ put4 a ++ put4 b ++ put4 c
def rootF (a b c : Int) : List Int := headR a b c ++ put4 (sumF (headR a b c)) ++ List.replicate 44 0
theorem headR_len (a b c : Int) : (headR a b c).length = 16 := rfl
theorem rootF_len (a b c : Int) : (rootF a b c).length = 64 := by
  unfold rootF
  rw [List.length_append, List.length_append, headR_len, put4_length, List.length_replicate]
theorem markL_bytes : Bytes markL := fun x hx => by
  simp only [markL, List.mem_cons, List.not_mem_nil, or_false] at hx
  omega
theorem zeros_bytes (n : Nat) : Bytes (List.replicate n 0) := fun x hx => by
  obtain rfl := List.eq_of_mem_replicate hx
  omega
theorem rootF_bytes (a b c : Int) : Bytes (rootF a b c) :=
  (((((markL_bytes.app (put4_bytes _)).app (put4_bytes _)).app (put4_bytes _))).app (put4_bytes _)).app (zeros_bytes _)
theorem rootF_take (a b c : Int) : (rootF a b c).take 16 = headR a b c := by
  unfold rootF
  rw [List.append_assoc, List.take_append_of_le_length (by rw [headR_len]; exact Nat.le_refl _), List.take_of_length_le (by rw [headR_len]; exact Nat.le_refl _)]
theorem rootF_4 {a b c : Int} (h0 : 0 ≤ a) (h1 : a ≤ 4294967295) : getF (rootF a b c) 4 = a := by
  have := getF_put markL (put4 b ++ (put4 c ++ (put4 (sumF (headR a b c)) ++ List.replicate 44 0))) h0 h1
  unfold rootF
  rw [show headR a b c ++ put4 (sumF (headR a b c)) ++ List.replicate 44 0 = markL ++ (put4 a ++ (put4 b ++ (put4 c ++ (put4 (sumF (headR a b c)) ++ List.replicate 44 0)))) by unfold headR; simp only [List.append_assoc]]
  exact this
theorem rootF_8 {a b c : Int} (h0 : 0 ≤ b) (h1 : b ≤ 4294967295) : getF (rootF a b c) 8 = b := by
  have := getF_put (markL ++ put4 a) (put4 c ++ (put4 (sumF (headR a b c)) ++ List.replicate 44 0)) h0 h1
  unfold rootF
  rw [show headR a b c ++ put4 (sumF (headR a b c)) ++ List.replicate 44 0 = (markL ++ put4 a) ++ (put4 b ++ (put4 c ++ (put4 (sumF (headR a b c)) ++ List.replicate 44 0))) by unfold headR; simp only [List.append_assoc]]
  exact this
theorem rootF_12 {a b c : Int} (h0 : 0 ≤ c) (h1 : c ≤ 4294967295) : getF (rootF a b c) 12 = c := by
  have := getF_put (markL ++ put4 a ++ put4 b) (put4 (sumF (headR a b c)) ++ List.replicate 44 0) h0 h1
  unfold rootF
  rw [show headR a b c ++ put4 (sumF (headR a b c)) ++ List.replicate 44 0 = (markL ++ put4 a ++ put4 b) ++ (put4 c ++ (put4 (sumF (headR a b c)) ++ List.replicate 44 0)) by unfold headR; simp only [List.append_assoc]]
  exact this
def IsRoot (l : List Int) : Prop := l.length = 64 ∧ getF l 4 ≤ 2147483647 ∧ getF l 8 ≤ 2147483647 ∧ l = rootF (getF l 4) (getF l 8) (getF l 12)
instance (l : List Int) : Decidable (IsRoot l) := by unfold IsRoot; infer_instance
abbrev R3 := Int × Int × Int
def unrootF (l : List Int) : Option R3 := if IsRoot l then some (getF l 4, getF l 8, getF l 12) else none
theorem unroot_root {a b c : Int} (a0 : 0 ≤ a) (a1 : a ≤ 2147483647) (b0 : 0 ≤ b) (b1 : b ≤ 2147483647) (c0 : 0 ≤ c) (c1 : c ≤ 4294967295) : unrootF (rootF a b c) = some (a, b, c) := by
  have e4 := rootF_4 (b := b) (c := c) a0 (by omega)
  have e8 := rootF_8 (a := a) (c := c) b0 (by omega)
  have e12 := rootF_12 (a := a) (b := b) c0 c1
  unfold unrootF
  rw [if_pos (show IsRoot (rootF a b c) from ⟨rootF_len _ _ _, by omega, by omega, by rw [e4, e8, e12]⟩), e4, e8, e12]
def rightR (a b c n : Int) : Bool := decide (1 ≤ a ∧ a ≤ 64 ∧ 1 ≤ b ∧ b ≤ 64 ∧ 2 + a + b ≤ n ∧ 1 ≤ c)
def pickF (n : Int) (best : R3) (l : List Int) : R3 := match unrootF l with
  | some r => if rightR r.1 r.2.1 r.2.2 n ∧ best.2.2 < r.2.2 then r else best
  | none => best
def homeF (a b page : Int) : Int := if page < 0 ∨ b ≤ page then -1 else wrap64 (wrap64 (2 + a) + page)
end Go.Proofs.YtjngnigelkgekaaGreat.Plain
namespace Go.Proofs.YtjngnigelkgekaaGreat.Base
open Go.RowKit Go.Proofs.YtjngnigelkgekaaGreatW.PrintWords Go.Proofs.YtjngnigelkgekaaGreatW.PrintLast Go.Proofs.YtjngnigelkgekaaGreatW.PrintMore Go.Proofs.YtjngnigelkgekaaGreat.Kit
theorem rdEq {xs : List Int} {j : Nat} (h : j < xs.length) : rd xs (j : Int) = xs[j] := by
  unfold rd
  rw [Int.toNat_natCast, List.getD_eq_getElem?_getD, List.getElem?_eq_getElem h]
  rfl
set_option maxHeartbeats 800000 in
set_option maxRecDepth 100000 in
theorem equal_ {A B : Option Addr} {n c m d : Nat} {xs ys : List Int} {w : World} (h1 : U8.C w A n xs) (h2 : U8.C w B m ys) :
    Calls Tryz.prog 132 #[.slice A n c, .slice B m d] w fun e w' => e = .returned (.bool (decide (xs = ys))) ∧ Below w.heap.size w w' := by
  obtain rfl : xs.length = n := h1.1
  obtain rfl : ys.length = m := h2.1
  have hm1 : xs.length ≤ 9223372036854775807 := h1.2.1
  have hm2 : ys.length ≤ 9223372036854775807 := h2.2.1
  have H1 := Aside0.mk h1
  have H2 := Aside0.mk h2
  clear h1 h2
  by_cases hl : xs.length = ys.length
  · have hl' : (xs.length : Int) = (ys.length : Int) := by omega
    go_enter Tryz.func132, Tryz.ntmps132
    go_wp2_with fail
    go_loopg [13] xs.length (fun k p wr => ∃ j : Nat, p = .int .i64 (j : Int) ∧ j + k = xs.length ∧ Below w.heap.size w wr ∧ ∀ i, i < j → xs[i]? = ys[i]?)
    case atStart => exact ⟨0, rfl, by omega, Below.refl _ _, fun i hi => by omega⟩
    case round =>
      obtain ⟨j, rfl, hjk, hB, hp⟩ := hrel
      have AB := Aside0.mk hB
      have AP := Aside0.mk hp
      have AK := Aside0.mk hjk
      clear hB hp
      by_cases hj : j < xs.length
      · clear hjk
        obtain ⟨ad, hA, hc⟩ := Kd.at_int (Kd.C_below H1.out AB.out) (j : Int) (by omega) (by omega)
        obtain ⟨bd, hB, hd⟩ := Kd.at_int (Kd.C_below H2.out AB.out) (j : Int) (by omega) (by omega)
        subst hA hB
        rw [Int.toNat_natCast] at hc hd
        have AR : Aside0 (rd xs (j : Int) = xs[j]) := ⟨rdEq hj⟩
        have AS : Aside0 (rd ys (j : Int) = ys[j]) := ⟨rdEq (by omega)⟩
        generalize rd xs (j : Int) = x at *
        generalize rd ys (j : Int) = y at *
        by_cases hxy : x = y
        · go_wp2_with fail
          go_quiet (fail)
          go_wp2_with fail
          go_roundg (gk - 1)
          case measure => have := AK.out; omega
          case rel => exact ⟨j + 1, by go_num, by have := AK.out; omega, pw_below_drewN AB.out _, fun i hi => by
            by_cases hij : i < j
            · exact AP.out i hij
            · obtain rfl : i = j := by omega
              rw [List.getElem?_eq_getElem hj, List.getElem?_eq_getElem (by omega), ← AR.out, ← AS.out, hxy]⟩
        · have hne : xs ≠ ys := fun h => hxy (by rw [AR.out, AS.out]; exact List.getElem_of_eq h hj)
          have ANE := Aside0.mk hne
          have hb : (x != y) = true := by simpa using hxy
          clear hne
          go_wp2_with fail
          go_quiet (fail)
          go_wp2_with fail
          go_ret
          exact ⟨by rw [decide_eq_false ANE.out]; rfl, pw_below_drewN AB.out _⟩
      · have hq : xs = ys := List.ext_getElem? (fun i => by
          by_cases hi : i < j
          · exact AP.out i hi
          · rw [List.getElem?_eq_none (by omega), List.getElem?_eq_none (by omega)])
        have AQ := Aside0.mk hq
        clear hq hjk
        go_wp2_with fail
        go_ret
        exact ⟨by rw [decide_eq_true AQ.out]; rfl, AB.out⟩
  · have hne : xs ≠ ys := fun h => hl (by rw [h])
    have ANE := Aside0.mk hne
    have hl' : ¬ (xs.length : Int) = (ys.length : Int) := by omega
    clear hne
    go_enter Tryz.func132, Tryz.ntmps132
    go_wp2_with fail
    go_ret
    exact ⟨by rw [decide_eq_false ANE.out]; rfl, Below.refl _ _⟩
end Go.Proofs.YtjngnigelkgekaaGreat.Base
namespace Go.Proofs.YtjngnigelkgekaaGreat.Base
open Go.RowKit Go.Proofs.YtjngnigelkgekaaGreatW.PrintWords Go.Proofs.YtjngnigelkgekaaGreatW.PrintLast Go.Proofs.YtjngnigelkgekaaGreatW.PrintMore Go.Proofs.YtjngnigelkgekaaGreat.Kit
theorem C_of8 {W : World} {A : Option Addr} {n : Nat} {l : List Int} (h : ReadsOf (Value.int .u8) (0 : Int) W A n l) : U8.C W A n l := Kd.C_of_reads (d := (0 : Int)) (h1 := fun _ => rfl) h
theorem of_C8 {W : World} {A : Option Addr} {n : Nat} {l : List Int} (h : U8.C W A n l) : ReadsOf (Value.int .u8) (0 : Int) W A n l := Kd.reads_of_C (d := (0 : Int)) h
theorem mid8 {A : Option Addr} {n c a b : Nat} {l : List Int} {J K : Int} (hJ : J = (a : Int)) (hK : K = (b : Int)) (hl : l.length = n) (hab : a ≤ b) (hb : b ≤ n) (hc : n ≤ c) :
    ∃ A', (∀ W : World, (Instr.slice 24 (.slice A n c) (some (.int .i64 J)) (some (.int .i64 K)) none).run Tryz.prog W = .ok (.slice A' (b - a) (c - a)) W) ∧ ∀ W : World, U8.C W A n l → U8.C W A' (b - a) ((l.take b).drop a) := by
  subst hJ hK hl
  obtain ⟨i, hi, hz⟩ := Option.map_eq_some_iff.1 infoB
  simp only [Prod.mk.injEq] at hz
  obtain ⟨A', h1, h2, _⟩ := print_mid_of (P := Tryz.prog) (Value.int .u8) (0 : Int) 24 5 .i64 .i64 Tryz.underlying24 hi hz.2.1 A c l (a : Int) (b : Int) (by omega) (by omega) (by omega) hc
  have hlen : ((l.take b).drop a).length = b - a := by rw [List.length_drop, List.length_take]; omega
  simp only [Int.toNat_natCast, hlen] at h1 h2
  exact ⟨A', h1, fun W h => C_of8 (h2 W (of_C8 h))⟩
theorem drop8 {A : Option Addr} {n c a : Nat} {l : List Int} {J : Int} (hJ : J = (a : Int)) (hl : l.length = n) (ha : a ≤ n) (hc : n ≤ c) :
    ∃ A', (∀ W : World, (Instr.slice 24 (.slice A n c) (some (.int .i64 J)) none none).run Tryz.prog W = .ok (.slice A' (n - a) (c - a)) W) ∧ ∀ W : World, U8.C W A n l → U8.C W A' (n - a) (l.drop a) := by
  subst hJ hl
  obtain ⟨i, hi, hz⟩ := Option.map_eq_some_iff.1 infoB
  simp only [Prod.mk.injEq] at hz
  obtain ⟨A', h1, h2, _⟩ := print_drop_of (P := Tryz.prog) (Value.int .u8) (0 : Int) 24 5 .i64 Tryz.underlying24 hi hz.2.1 A c l (a : Int) (by omega) (by omega) hc
  simp only [Int.toNat_natCast, List.length_drop] at h1 h2
  exact ⟨A', h1, fun W h => C_of8 (h2 W (of_C8 h))⟩
theorem take8 {A : Option Addr} {n c b : Nat} {l : List Int} {K : Int} (hK : K = (b : Int)) (hl : l.length = n) (hb : b ≤ n) (hc : n ≤ c) :
    (∀ W : World, (Instr.slice 24 (.slice A n c) none (some (.int .i64 K)) none).run Tryz.prog W = .ok (.slice A b c) W) ∧ ∀ W : World, U8.C W A n l → U8.C W A b (l.take b) := by
  subst hK hl
  obtain ⟨i, hi, hz⟩ := Option.map_eq_some_iff.1 infoB
  simp only [Prod.mk.injEq] at hz
  obtain ⟨h1, h2, _⟩ := print_take_of (P := Tryz.prog) (Value.int .u8) (0 : Int) 24 5 .i64 Tryz.underlying24 hi hz.2.1 A c l (b : Int) (by omega) (by omega) hc
  have hlen : (l.take b).length = b := by rw [List.length_take]; omega
  simp only [Int.toNat_natCast, hlen] at h1 h2
  exact ⟨h1, fun W h => C_of8 (h2 W (of_C8 h))⟩
theorem cut3 (A : Option Addr) (n c i j k : Nat) (h1 : i ≤ j) (h2 : j ≤ k) (h3 : i < k) (h4 : k ≤ c) :
    ∀ W : World, (Instr.slice 24 (.slice A n c) (some (.int .i64 (i : Int))) (some (.int .i64 (j : Int))) (some (.int .i64 (k : Int)))).run Tryz.prog W = .ok (.slice (A.map (·.add i)) (j - i) (k - i)) W := by
  intro W
  obtain ⟨t, hi, hz⟩ := Option.map_eq_some_iff.1 infoB
  simp only [Prod.mk.injEq] at hz
  have e1 : (k : Int) ≤ c := by omega
  have e2 : (j : Int) ≤ k := by omega
  have e3 : (i : Int) ≤ j := by omega
  have e4 : ¬ k - i = 0 := by omega
  have e5 : k ≠ i := by omega
  simp [Instr.slice, run_underlying Tryz.underlying24, Instr.sliceBounds, run_sliceBound, sizeOf, typeInfo, hi, hz.2.1, e1, e2, e3, e4, e5, h1, h2, h4]
theorem cut1 (A : Option Addr) (n c i : Nat) (h1 : i ≤ n) (h2 : n ≤ c) :
    ∃ A', ∀ W : World, (Instr.slice 24 (.slice A n c) (some (.int .i64 (i : Int))) none none).run Tryz.prog W = .ok (.slice A' (n - i) (c - i)) W := by
  refine ⟨if c = i then A else A.map (·.add i), fun W => ?_⟩
  obtain ⟨t, hi, hz⟩ := Option.map_eq_some_iff.1 infoB
  simp only [Prod.mk.injEq] at hz
  have hel : Tryz.prog.elem 24 = 5 := by simp [Program.elem, Tryz.underlying24]
  have hu : Tryz.prog.underlying 24 = some (.slice (Tryz.prog.elem 24)) := by rw [hel]; exact Tryz.underlying24
  rw [run_slice_l W 24 A n c hu .i64 (i : Int) (by omega) (by omega), hel]
  simp [sizeOf, typeInfo, hi, hz.2.1, sliced, Result.andThen]
end Go.Proofs.YtjngnigelkgekaaGreat.Base
namespace Go.Proofs.YtjngnigelkgekaaGreat.Kit
open Go.RowKit Go.Proofs.YtjngnigelkgekaaGreatW.PrintWords Go.Proofs.YtjngnigelkgekaaGreatW.PrintLast Go.Proofs.YtjngnigelkgekaaGreatW.PrintMore
namespace Sep
variable {w0 W W' : World} {F : List HP}
section
variable {P : Program} {ops : Array Oper} {rest : List Oper} {o : Oper} {a : Act} {Q : Exit → Act → World → Prop} {α : Type} {enc : α → Value} {h1 : ∀ x, (enc x).oneCell' = true}
theorem zerosRow {e : Nat} {v : Value} {xs : List α} (h : Sep w0 W (Row (Kd.scalar enc h1) e v xs :: F)) (z0 : α) (hgd : o.guard = none) (s x : Operand) (t ti : TypeId) (bytes : Nat)
    (ho : o.op = .call { callee := .builtin .append, args := #[s, x], argTypes := #[t, ti] })
    (ht : P.underlying t = some (.slice e)) {k : IntKind} (hti : P.underlying ti = some (.int k)) (hinfo : (P.info? e).map (fun i => (i.zero, i.size, i.bytes)) = some (some (enc z0), 1, bytes)) (hz : (enc z0).cells = #[enc z0]) (hb0 : 0 < bytes)
    {kx : IntKind} (n : Nat) (hs : a.eval s = v) (hx : a.eval x = .int kx (n : Int)) (hl : (xs.length + n) * bytes ≤ 140737488355328)
    (k : ∀ v1 w1, Sep w0 w1 (Row (Kd.scalar enc h1) e v1 (xs ++ List.replicate n z0) :: F) → wpList P ops Q rest (a.put o.dst v1) w1) : wpList P ops Q (o :: rest) a W := by
  obtain ⟨ok, hp, hd, hF⟩ := h.sep
  refine Kd.R_append_zeros (Kd.scalar enc h1) (w0 := W) 0 hgd s x t ti e (enc z0) bytes ho ht hti hinfo (by rw [hz]; rfl) (by show 0 < 1; omega) hb0 v xs z0 (n : Int) (fun k => ok k ∨ W.heap.size ≤ k) hs hx (by rw [hz]; rfl) (fun k hk => .inr hk)
    (Kd.R_mono hp.1 (fun k hk => .inl hk)) (by omega) (Below.refl 0 W) (Nat.zero_le _) (by rw [Int.toNat_natCast]; exact hl) (fun v1 w1 hr hb hg hat => k v1 w1 ?_)
  rw [Int.toNat_natCast] at hr
  exact h.stepOk hd hF ⟨hg.os, hg.tape, hg.output, hg.size⟩ (fun k hlt hn => hg.block k hlt (fun he => hn (hp.1.1 k he.symm))) (ok' := fun k => (ok k ∨ W.heap.size ≤ k) ∧ k < w1.heap.size)
    ⟨Kd.R_mono (Kd.R_bound hr) (fun k hk => ⟨hk.1, hk.2.2.1⟩), fun k hk => hk.2⟩ (fun k hk => hk.1)
end
end Sep
end Go.Proofs.YtjngnigelkgekaaGreat.Kit
namespace Go.Proofs.YtjngnigelkgekaaGreat.Kit
open Go.RowKit Go.Proofs.YtjngnigelkgekaaGreatW.PrintWords Go.Proofs.YtjngnigelkgekaaGreatW.PrintLast Go.Proofs.YtjngnigelkgekaaGreatW.PrintMore
section
variable {P : Program} {T E : TypeId} {sz bytes : Nat} {z : Value}
theorem elem_of (ht : P.underlying T = some (.slice E)) : P.elem T = E := by simp [Program.elem, ht]
theorem cutHi (ht : P.underlying T = some (.slice E)) (hinfo : (P.info? E).map (fun i => (i.zero, i.size, i.bytes)) = some (some z, sz, bytes)) (A : Option Addr) (n c b : Nat) {K : Int} (hK : K = (b : Int)) (h1 : b ≤ n) (h2 : n ≤ c) (W : World) :
    (Instr.slice T (.slice A n c) none (some (.int .i64 K)) none).run P W = .ok (.slice A b c) W := by
  subst hK
  obtain ⟨t, hi, hz⟩ := Option.map_eq_some_iff.1 hinfo
  simp only [Prod.mk.injEq] at hz
  rw [run_slice_h W T A n c (by rw [elem_of ht]; exact ht) .i64 (b : Int) (by omega) (by omega), elem_of ht]
  have e : (A.map fun x => x.add 0) = A := by
    cases A with
    | none => rfl
    | some a => simp [Addr.add]
  simp [sizeOf, typeInfo, hi, hz.2.1, sliced, Result.andThen, e]
theorem cutLo (ht : P.underlying T = some (.slice E)) (hinfo : (P.info? E).map (fun i => (i.zero, i.size, i.bytes)) = some (some z, sz, bytes)) (A : Option Addr) (n c a : Nat) {J : Int} (hJ : J = (a : Int)) (h1 : a ≤ n) (h2 : n ≤ c) (W : World) :
    (Instr.slice T (.slice A n c) (some (.int .i64 J)) none none).run P W = .ok (.slice (if c = a then A else A.map (·.add (a * sz))) (n - a) (c - a)) W := by
  subst hJ
  obtain ⟨t, hi, hz⟩ := Option.map_eq_some_iff.1 hinfo
  simp only [Prod.mk.injEq] at hz
  rw [run_slice_l W T A n c (by rw [elem_of ht]; exact ht) .i64 (a : Int) (by omega) (by omega), elem_of ht]
  simp [sizeOf, typeInfo, hi, hz.2.1, sliced, Result.andThen]
end
theorem C_hi {α : Type} {d : Kd α} {W : World} {A : Option Addr} {n c b : Nat} {l : List α} (h : d.C W A n l) (hb : b ≤ n) (hc : n ≤ c) : d.C W A b (l.take b) := by
  obtain rfl : l.length = n := h.1
  have := Kd.C_take h hb
  rwa [List.length_take, Nat.min_eq_left hb] at this
theorem C_lo {α : Type} {d : Kd α} {W : World} {A : Option Addr} {n c a : Nat} {l : List α} (h : d.C W A n l) (ha : a ≤ n) (hc : n ≤ c) : d.C W (if c = a then A else A.map (·.add (a * d.sz))) (n - a) (l.drop a) := by
  obtain rfl : l.length = n := h.1
  have := Kd.C_drop (m := a) (c := c) h ha hc
  rwa [List.length_drop] at this
namespace Sep
section
variable {w0 W W' : World} {F : List HP} {P : Program} {ops : Array Oper} {rest : List Oper} {o : Oper} {a : Act} {Q : Exit → Act → World → Prop} {sz : Nat}
theorem rowC' {α : Type} {d : Kd α} {e n c : Nat} {A : Option Addr} {xs : List α} (h : Sep w0 W (Row d e (.slice A n c) xs :: F)) : d.C W A n xs := by
  have h1 := h.rowC
  have := h1.2.2
  rwa [← h1.1] at this
end
end Sep
end Go.Proofs.YtjngnigelkgekaaGreat.Kit
namespace Go.Proofs.YtjngnigelkgekaaGreat.Sum
open Go.RowKit Go.Proofs.YtjngnigelkgekaaGreatW.PrintWords Go.Proofs.YtjngnigelkgekaaGreatW.PrintLast Go.Proofs.YtjngnigelkgekaaGreatW.PrintMore Go.Proofs.YtjngnigelkgekaaGreat.Kit Go.Proofs.YtjngnigelkgekaaGreat.Plain
theorem step_ (h x : Int) (w : World) : Calls Tryz.prog 125 #[.int .u32 h, .int .u8 x] w fun e w' => e = .returned (.int .u32 (stepF h x)) ∧ w = w' := by
  go_enter Tryz.func125, Tryz.ntmps125
  go_wp2
  go_ret
  exact ⟨by unfold stepF; simp [u32_mod], rfl⟩
set_option maxHeartbeats 400000 in
theorem of_ {A : Option Addr} {n c : Nat} {l : List Int} {w : World} (hr : B8.C w A n l) : Calls Tryz.prog 103 #[.slice A n c] w fun e w' => e = .returned (.int .u32 (sumF l)) ∧ w = w' := by
  obtain rfl : l.length = n := hr.1
  have hm : l.length ≤ 9223372036854775807 := hr.2.1
  have HR := Aside0.mk hr
  clear hr
  go_enter Tryz.func103, Tryz.ntmps103
  go_wp2_with fail
  go_loopg [3, 8] l.length (fun k s p wr => ∃ j : Nat, p = .int .i64 (j : Int) ∧ j + k = l.length ∧ s = .int .u32 (sumF (l.take j)) ∧ w = wr)
  case atStart => exact ⟨0, rfl, by omega, rfl, rfl⟩
  case round =>
    obtain ⟨j, rfl, hjk, rfl, rfl⟩ := hrel
    have AK := Aside0.mk hjk
    by_cases hj : j < l.length
    · obtain ⟨ad, hA, hc⟩ := Kd.at_int HR.out (j : Int) (by omega) (by omega)
      subst hA
      rw [Int.toNat_natCast] at hc
      have AT := Aside0.mk (take_snoc hj)
      generalize rd l (j : Int) = x at *
      clear hjk
      go_wp2_with fail
      refine (step_ _ x _).mono ?_
      rintro e w' ⟨rfl, rfl⟩
      go_wp2_with fail
      go_roundg (gk - 1)
      case measure => have := AK.out; omega
      case rel => exact ⟨j + 1, by go_num, by have := AK.out; omega, by rw [AT.out, sumF_snoc], rfl⟩
    · have hjn : j = l.length := by omega
      subst hjn
      rw [List.take_length]
      clear hjk AK
      go_wp2_with fail
      go_ret
      exact ⟨by first | rfl | (simp; done), rfl⟩
end Go.Proofs.YtjngnigelkgekaaGreat.Sum
