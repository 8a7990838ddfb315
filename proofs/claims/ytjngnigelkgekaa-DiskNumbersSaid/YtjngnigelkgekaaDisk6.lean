/- The disk: the walks of Flush and Seen. -/
import Derived.Test.YtjngnigelkgekaaDisk5
namespace Go.Proofs.Ytjngnigelkgekaa.Disk
set_option linter.unusedVariables false
set_option linter.unusedSimpArgs false
open Go.RowKit Go.Proofs.YtjngnigelkgekaaW.PrintWords Go.Proofs.YtjngnigelkgekaaW.PrintLast Go.Proofs.YtjngnigelkgekaaW.PrintMore Go.Proofs.Ytjngnigelkgekaa.Kit
theorem size1 : (Try.prog.info? 5).map (·.size) = some 1 := by kernel_rfl
def FlushI (w0 : World) (g m r gl c clock : Nat) (ents : List Ent) (las : List Int) (F : List HP) (k : Nat) (wr : World) : Prop :=
  ∃ done : List Ent, (∀ e ∈ done, e ∈ ents) ∧ k = leftN ents (done.map (·.born)) ∧
    Sep w0 wr (Ob r (itObj m clock (done.map (·.born))) :: MapB m (ens (ents.map Ent.en)) clock :: Blk g 96 #[.slice (some ⟨gl, 0, none⟩) las.length c, .map (some m)] :: Row U8 5 (.slice (some ⟨gl, 0, none⟩) las.length c) (laid las done) :: (ents.map Ent.rd ++ F))
theorem rd_mem {w0 W : World} {ents : List Ent} {F : List HP} (h : Sep w0 W (ents.map Ent.rd ++ F)) {x : Ent} (hx : x ∈ ents) : U8.C W x.A 64 x.b := by
  obtain ⟨s, t, rfl⟩ := List.append_of_mem hx
  rw [List.map_append, List.map_cons, List.append_assoc, List.cons_append] at h
  exact h.weak.rd
set_option maxHeartbeats 800000 in
set_option maxRecDepth 100000 in
theorem flush_ {w0 W : World} {g : Nat} {las : List Int} {wt : Nat → Option (List Int)} {F : List HP} (h : Sep w0 W (Dsk g las wt :: F)) :
    Calls Try.prog 54 #[.pointer (some ⟨g, 0, none⟩)] W fun e w' => e = .returned (.tuple #[]) ∧ Sep w0 w' (Dsk g (flushed las wt) (fun _ => none) :: F) := by
  obtain ⟨v, m, ents, clock, hok, hs⟩ := open_ h
  obtain ⟨p1, p2, p3⟩ := hok.pos
  obtain ⟨n, hn, n1, n2⟩ := hok.len
  obtain ⟨gl, c, rfl⟩ := hs.tail.rowForm (by omega)
  have hc := hs.tail.rowC.2.1
  have c1 : W.cell? ⟨g, 1, none⟩ = some (.map (some m)) := by rw [hs.cell 1]; rfl
  have hrg := range_run (P := Try.prog) (W := W) Try.underlying94 hs.tail.tail.map
  have HI : FlushI w0 g m W.heap.size gl c clock ents las F ents.length (W.alloc (itObj m clock [])) := by
    refine ⟨[], fun e he => absurd he (by simp), (by simp [leftN, List.filter_eq_self.2]), ?_⟩
    rw [laid_nil hn]
    exact (hs.newOb (itObj m clock [])).perm (.cons _ ((List.Perm.cons _ (.swap _ _ _)).trans (.swap _ _ _)))
  have A0 := Aside0.mk HI
  have AO := Aside0.mk hok
  have AC := Aside0.mk hc
  have AN := Aside0.mk hn
  clear HI hok hc hs h p3 hn
  go_enter Try.func54, Try.ntmps54
  go_wp2
  go_loopg [2] ents.length (fun k p wr => FlushI w0 g m W.heap.size gl c clock ents las F k wr)
  case atStart => exact A0.out
  case round =>
    obtain ⟨done, hd, hk, hS⟩ := hrel
    obtain ⟨hb1, hb2⟩ := bornOk AO.out
    have c1 : wr.cell? ⟨g, 1, none⟩ = some (.map (some m)) := by rw [hS.tail.tail.cell 1]; rfl
    have c0 : wr.cell? ⟨g, 0, none⟩ = some (.slice (some ⟨gl, 0, none⟩) las.length c) := by rw [hS.tail.tail.cell 0]; rfl
    rcases next_run (P := Try.prog) hS hb1 hb2 0 with ⟨hall, hnx⟩ | ⟨e, he, hne, W1, hnx, hS1, hen⟩
    · obtain ⟨W2, hcl, hS2⟩ := clear_run hS.at2 0
      have AL := Aside0.mk hall
      have AS := Aside0.mk hS2
      have AD := Aside0.mk hd
      clear hS hS2 hall hb1 hd c0 hk
      go_wp2
      go_end0
      refine ⟨rfl, ?_⟩
      have hl := laid_all AO.out AD.out (fun e he => AL.out e.en (List.mem_map.2 ⟨e, he, rfl⟩))
      have h5 := AS.out
      rw [hl] at h5
      have hfl : (flushed las wt).length = las.length := by
        rw [← hl]; have h6 := AS.out.tail.tail.tail.rowC.1; exact h6.symm
      refine shut_ (v := .slice (some ⟨gl, 0, none⟩) las.length c) (m := m) (ents := []) (clock := clock) ⟨?_, List.nodup_nil, List.nodup_nil, fun e he => absurd he (by simp), fun _ => rfl⟩ ?_
      · rw [hfl]; exact AO.out.len
      · have h7 : Sep w0 W2 (Blk g 96 #[.slice (some ⟨gl, 0, none⟩) las.length c, .map (some m)] :: Row U8 5 (.slice (some ⟨gl, 0, none⟩) las.length c) (flushed las wt) :: MapB m (ens []) clock :: (ents.map Ent.rd ++ F)) := by
          have h8 := h5.at2.tail
          exact h8.to3
        have h9 := h7.perm (L' := ents.map Ent.rd ++ (Blk g 96 #[.slice (some ⟨gl, 0, none⟩) las.length c, .map (some m)] :: Row U8 5 (.slice (some ⟨gl, 0, none⟩) las.length c) (flushed las wt) :: MapB m (ens []) clock :: F)) (by
          have := List.perm_append_comm (l₁ := [Blk g 96 #[.slice (some ⟨gl, 0, none⟩) las.length c, .map (some m)], Row U8 5 (.slice (some ⟨gl, 0, none⟩) las.length c) (flushed las wt), MapB m (ens []) clock]) (l₂ := ents.map Ent.rd)
          simpa using this.append_right F)
        exact h9.weak
    · obtain ⟨x, hx, rfl⟩ := List.mem_map.1 he
      have hC := rd_mem hS1.tail.tail.tail.tail hx
      have hx' := AO.out.each x hx
      have hst := laid_step AO.out hd hx hne
      have hlt := left_lt hne hx
      have c0' : W1.cell? ⟨g, 0, none⟩ = some (.slice (some ⟨gl, 0, none⟩) las.length c) := by rw [hS1.tail.tail.cell 0]; rfl
      have AS := Aside0.mk hS1.at4
      have AC1 := Aside0.mk hC
      have AX := Aside0.mk hx'
      have AD := Aside0.mk hd
      have AT := Aside0.mk hst
      have AK := Aside0.mk hk
      have AH := Aside0.mk hx
      have hi : 64 * (x.k + 1) ≤ las.length := by have := AN.out; omega
      clear hS hS1 hC hx' hb1 hd c0 c1 hst hk hx he hne
      go_wp2_with (first | (go_at_call 101; refine (sector_ c0' hi p2 AC.out).mono ?_; rintro e w' ⟨rfl, rfl⟩) | (refine gate_builtin (b := .copy) (xs := #[.tmp 16, .tmp 17]) rfl ?_; refine AS.out.copyRow rfl (.tmp 16) (.tmp 17) rfl Try.underlying30 size1 (o := 64 * x.k) (n' := 64) (c' := c - 64 * x.k) (m := 64) (c := x.c) (A := x.A) (ys := x.b) rfl rfl AC1.out (by omega) ?_; intro W2 hS2; rw [AT.out] at hS2; have AS2 := Aside0.mk hS2; clear hS2))
      go_roundg (leftN ents (done.map (·.born) ++ [x.born]))
      case measure => rw [AK.out]; exact hlt
      case rel =>
        refine ⟨done ++ [x], fun e he => ?_, by rw [List.map_append]; rfl, ?_⟩
        · rcases List.mem_append.1 he with he | he
          · exact AD.out e he
          · simp at he; rw [he]; exact AH.out
        · rw [List.map_append]
          exact AS2.out.to4
end Go.Proofs.Ytjngnigelkgekaa.Disk
