/- The disk: all bytes as they are read. -/
import Derived.Test.YtjngnigelkgekaaDisk6
namespace Go.Proofs.Ytjngnigelkgekaa.Disk
set_option linter.unusedVariables false
set_option linter.unusedSimpArgs false
open Go.RowKit Go.Proofs.YtjngnigelkgekaaW.PrintWords Go.Proofs.YtjngnigelkgekaaW.PrintLast Go.Proofs.YtjngnigelkgekaaW.PrintMore Go.Proofs.Ytjngnigelkgekaa.Kit
def SeenI (w0 : World) (g m r gl c go co clock : Nat) (ents : List Ent) (las : List Int) (F : List HP) (k : Nat) (wr : World) : Prop :=
  ∃ done : List Ent, (∀ e ∈ done, e ∈ ents) ∧ k = leftN ents (done.map (·.born)) ∧
    Sep w0 wr (Ob r (itObj m clock (done.map (·.born))) :: MapB m (ens (ents.map Ent.en)) clock :: Row U8 5 (.slice (some ⟨go, 0, none⟩) las.length co) (laid las done) :: Blk g 96 #[.slice (some ⟨gl, 0, none⟩) las.length c, .map (some m)] :: Row U8 5 (.slice (some ⟨gl, 0, none⟩) las.length c) las :: (ents.map Ent.rd ++ F))
set_option maxHeartbeats 800000 in
set_option maxRecDepth 100000 in
theorem seen_ {w0 W : World} {g : Nat} {las : List Int} {wt : Nat → Option (List Int)} {F : List HP} (h : Sep w0 W (Dsk g las wt :: F)) :
    Calls Try.prog 24 #[.pointer (some ⟨g, 0, none⟩)] W fun e w' => ∃ v, e = .returned v ∧ Sep w0 w' (Row U8 5 v (flushed las wt) :: Dsk g las wt :: F) := by
  have H0 := Aside0.mk h
  clear h
  go_enter Try.func24, Try.ntmps24
  go_wp2_with fail
  refine (image_ H0.out).mono ?_
  rintro e w1 ⟨vo, rfl, hI⟩
  obtain ⟨v, m, ents, clock, hok, hs⟩ := open_ hI.at2
  obtain ⟨p1, p2, p3⟩ := hok.pos
  obtain ⟨n, hn, n1, n2⟩ := hok.len
  obtain ⟨gl, c, rfl⟩ := hs.tail.rowForm (by omega)
  obtain ⟨go, co, rfl⟩ := hI.rowForm (by omega)
  have hco := hI.rowC.2.1
  have c1 : w1.cell? ⟨g, 1, none⟩ = some (.map (some m)) := by rw [hs.cell 1]; rfl
  have hrg := range_run (P := Try.prog) (W := w1) Try.underlying94 hs.tail.tail.map
  have HI : SeenI w0 g m w1.heap.size gl c go co clock ents las F ents.length (w1.alloc (itObj m clock [])) := by
    refine ⟨[], fun e he => absurd he (by simp), (by simp [leftN, List.filter_eq_self.2]), ?_⟩
    rw [laid_nil hn]
    have h3 := hs.perm (L' := Row U8 5 (.slice (some ⟨go, 0, none⟩) las.length co) las :: Blk g 96 #[.slice (some ⟨gl, 0, none⟩) las.length c, .map (some m)] :: Row U8 5 (.slice (some ⟨gl, 0, none⟩) las.length c) las :: MapB m (ens (ents.map Ent.en)) clock :: (ents.map Ent.rd ++ F)) (by
      exact (List.Perm.cons _ (.cons _ (.cons _ List.perm_middle))).trans (List.perm_middle (l₁ := [_, _, _])))
    exact ((h3.at4).newOb (itObj m clock []))
  have A0 := Aside0.mk HI
  have AO := Aside0.mk hok
  have AN := Aside0.mk hn
  have ACO := Aside0.mk hco
  clear HI hok hs p3 hn hI hco
  go_wp2
  go_loopg [4] ents.length (fun k p wr => SeenI w0 g m w1.heap.size gl c go co clock ents las F k wr)
  case atStart => exact A0.out
  case round =>
    obtain ⟨done, hd, hk, hS⟩ := hrel
    obtain ⟨hb1, hb2⟩ := bornOk AO.out
    rcases next_run (P := Try.prog) hS hb1 hb2 0 with ⟨hall, hnx⟩ | ⟨e, he, hne, W1, hnx, hS1, hen⟩
    · have AL := Aside0.mk hall
      have AS := Aside0.mk hS
      have AD := Aside0.mk hd
      clear hS hall hb1 hd hk
      go_wp2
      go_ret
      refine ⟨_, by first | rfl | (simp; done), ?_⟩
      have hl := laid_all AO.out AD.out (fun e he => AL.out e.en (List.mem_map.2 ⟨e, he, rfl⟩))
      have h5 := AS.out
      rw [hl] at h5
      refine (shut_ (v := .slice (some ⟨gl, 0, none⟩) las.length c) (m := m) (ents := ents) (clock := clock) AO.out (F := Row U8 5 (.slice (some ⟨go, 0, none⟩) las.length co) (flushed las wt) :: F) ?_).at2
      have h6 := h5.tail
      refine h6.perm ?_
      exact ((List.Perm.swap _ _ _).trans ((List.Perm.cons _ ((List.Perm.swap _ _ _).trans (.cons _ (.swap _ _ _)))).trans (List.Perm.refl _))).trans
        (((List.perm_middle (l₁ := [_, _, _] ++ ents.map Ent.rd) (l₂ := F)).symm.trans (by simp)) )
    · obtain ⟨x, hx, rfl⟩ := List.mem_map.1 he
      have hC := rd_mem hS1.tail.tail.tail.tail.tail hx
      have hnx2 : (Instr.next (.pointer (some ⟨w1.heap.size, 0, none⟩)) false 0).run Try.prog wr = .ok (.tuple #[.bool true, .int .i64 (x.k : Int), .slice x.A 64 x.c]) W1 := hnx
      have hen2 : (Instr.entry (.pointer (some ⟨w1.heap.size, 0, none⟩))).run Try.prog W1 = .ok (.tuple #[.int .i64 (x.k : Int), .slice x.A 64 x.c]) W1 := hen
      clear hnx hen
      have hx' := AO.out.each x hx
      have hst := laid_step AO.out hd hx hne
      have hlt := left_lt hne hx
      have AS := Aside0.mk hS1.at3
      have AC1 := Aside0.mk hC
      have AX := Aside0.mk hx'
      have AD := Aside0.mk hd
      have AT := Aside0.mk hst
      have AK := Aside0.mk hk
      have AH := Aside0.mk hx
      have AL := Aside0.mk hlt
      have hi : 64 * (x.k + 1) ≤ las.length := by have := AN.out; omega
      have hco := ACO.out
      have htk : x.b.take (las.length - x.k * 64) = x.b.take 64 := by rw [List.take_of_length_le (by omega), List.take_of_length_le (by omega)]
      have ATK := Aside0.mk htk
      clear hS hS1 hC hx' hb1 hd c1 hst hk hx he hne hlt htk
      go_wp2_with (first | (refine gate_builtin (b := .copy) (xs := #[.tmp 21, .tmp 22]) rfl ?_; refine AS.out.copyRow rfl (.tmp 21) (.tmp 22) rfl Try.underlying30 size1 (o := x.k * 64) (n' := las.length - x.k * 64) (c' := co - x.k * 64) (m := 64) (c := x.c) (A := x.A) (ys := x.b) rfl rfl AC1.out (by omega) ?_; intro W2 hS2; rw [ATK.out, Nat.mul_comm, AT.out] at hS2; have AS2 := Aside0.mk hS2; clear hS2))
      go_roundg (leftN ents (done.map (·.born) ++ [x.born]))
      case measure => rw [AK.out]; exact AL.out
      case rel =>
        refine ⟨done ++ [x], fun e he => ?_, by rw [List.map_append]; rfl, ?_⟩
        · rcases List.mem_append.1 he with he | he
          · exact AD.out e he
          · simp at he; rw [he]; exact AH.out
        · rw [List.map_append]
          exact AS2.out.to3
end Go.Proofs.Ytjngnigelkgekaa.Disk
