/- StOpen, StFormat, StKP, StMore, StCommit2, StKnown: what StoreNumbers needs. -/
import Derived.Test.YtjngnigelkgekaaGreatTstoreNumbers18
set_option linter.unusedVariables false
set_option linter.unusedSimpArgs false
namespace Go.Proofs.YtjngnigelkgekaaGreat.Store
open Go.RowKit Go.Proofs.YtjngnigelkgekaaGreatW.PrintWords Go.Proofs.YtjngnigelkgekaaGreatW.PrintLast Go.Proofs.YtjngnigelkgekaaGreatW.PrintMore Go.Proofs.YtjngnigelkgekaaGreat.Kit Go.Proofs.YtjngnigelkgekaaGreat.Plain Go.Proofs.YtjngnigelkgekaaGreat.Disk Go.Proofs.YtjngnigelkgekaaGreat.Root
open Go.Proofs.YtjngnigelkgekaaGreat.Delta (Chg KC)
open Go.Proofs.YtjngnigelkgekaaGreat.Redo (recR logF)
open Go.Proofs.YtjngnigelkgekaaGreat.Home (pagesF)
def insList (ks : List Int) (l : List Int) : List Int := l.foldl insK ks
theorem insList_snoc (ks l : List Int) (k : Int) : insList ks (l ++ [k]) = insK (insList ks l) k := by unfold insList; rw [List.foldl_append]; rfl
theorem insList_len (l : List Int) : ∀ ks : List Int, (insList ks l).length ≤ ks.length + l.length := by
  induction l with
  | nil => intro ks; exact Nat.le_refl _
  | cons c r ih =>
    intro ks
    have h1 := ih (insK ks c)
    have h2 := insK_len ks c
    show (insList (insK ks c) r).length ≤ _
    rw [List.length_cons]; omega
theorem insList_mem {x : Int} (l : List Int) : ∀ {ks : List Int}, x ∈ insList ks l → x ∈ ks ∨ x ∈ l := by
  induction l with
  | nil => intro ks h; exact .inl h
  | cons c r ih =>
    intro ks h
    rcases ih (ks := insK ks c) h with h | h
    · rcases insK_mem h with h | h
      · exact .inl h
      · exact .inr (by rw [h]; exact List.mem_cons_self ..)
    · exact .inr (List.mem_cons_of_mem _ h)
section
variable {w0 W : World} {F : List HP} {g n : Nat} {las : List Int} {wt : Wt}
set_option maxHeartbeats 1600000 in
set_option maxRecDepth 100000 in
theorem open_none (h : Sep w0 W (Dsk g las wt :: F)) (hl : las.length = 64 * n) (hn : n ≤ 160) (hw : ∀ i b, wt i = some b → b.length = 64) (hb : ∀ j, Bytes (secF n las wt j)) (h0 : decide (0 < (bestTo n (secF n las wt) 2).2.2) = false) :
    Calls Tryz.prog 24 #[.pointer (some ⟨g, 0, none⟩)] W fun e w' => e = .returned (.tuple #[.pointer none, .int .i64 22]) ∧ Sep w0 w' (Dsk g las wt :: F) := by
  have H0 := Aside0.mk h
  have HL := Aside0.mk (And.intro hl (And.intro hn (And.intro hw (And.intro hb h0))))
  clear h hl hn hw hb h0
  go_enter Tryz.func24, Tryz.ntmps24
  go_wp2_with fail
  refine (found_none H0.out HL.out.1 HL.out.2.1 HL.out.2.2.1 HL.out.2.2.2.1 HL.out.2.2.2.2).mono ?_
  rintro e w2 ⟨rfl, hS2⟩
  have B2 := Aside0.mk (hS2.alloc (.cells #[.int .i64 0, .int .i64 0, .int .u32 0] 80))
  clear hS2
  go_wp2_with fail
  go_ret2
  exact ⟨by first | rfl | (simp; done), B2.out⟩
set_option maxHeartbeats 3200000 in
set_option maxRecDepth 100000 in
theorem open_ok (h : Sep w0 W (Dsk g las wt :: F)) (hl : las.length = 64 * n) (hn : n ≤ 160) (hw : ∀ i b, wt i = some b → b.length = 64) (hb : ∀ j, Bytes (secF n las wt j)) (a b ep : Int) (hbest : bestTo n (secF n las wt) 2 = (a, b, ep)) (he0 : 0 < ep) (he1 : ep < 4294967295)
    (hlb : Bytes (logF n las wt a b ep)) (hp0 : (pagesF n las wt a b ep).length ≤ 64) (hpb : ((pagesF n las wt a b ep).length : Int) = b) (hp1 : ∀ p ∈ pagesF n las wt a b ep, p.length ≤ 1000000) (hrl : (recR n las wt a b ep).1.length ≤ 1000) (hrx : ∀ x ∈ (recR n las wt a b ep).1, x.length ≤ 64) :
    Calls Tryz.prog 24 #[.pointer (some ⟨g, 0, none⟩)] W fun e w' => ∃ gs m, e = .returned (.tuple #[.pointer (some ⟨gs, 0, none⟩), .int .i64 0]) ∧ Sep w0 w' (StB gs g m a b (ep + 1) (pgAll (pagesF n las wt a b ep) (recR n las wt a b ep).1) [] 0 0 :: Dsk g (chkL n las wt a b ep (pgAll (pagesF n las wt a b ep) (recR n las wt a b ep).1) (insList [] (sortK (nmAll [] (recR n las wt a b ep).1)))) (fun _ => none) :: F) := by
  have H0 := Aside0.mk h
  have HL := Aside0.mk (And.intro hl (And.intro hn hw))
  have HF := Aside0.mk (found_ok h hl hn hw hb a b ep hbest he0 he1 hlb hp0 hp1 hrl hrx)
  obtain ⟨pp, hpp⟩ : ∃ p, pgAll (pagesF n las wt a b ep) (recR n las wt a b ep).1 = p := ⟨_, rfl⟩
  obtain ⟨nn, hnn⟩ : ∃ p, nmAll [] (recR n las wt a b ep).1 = p := ⟨_, rfl⟩
  obtain ⟨ks, hks⟩ : ∃ p, sortK nn = p := ⟨_, rfl⟩
  rw [hpp, hnn, hks] at HF
  have HPP := Aside0.mk hpp
  have HNN := Aside0.mk hnn
  have HKK := Aside0.mk hks
  have HPL : Aside0 ((pp.length : Int) = b ∧ pp.length ≤ 64) := ⟨by rw [← hpp, pgAll_len]; exact ⟨hpb, hp0⟩⟩
  have HKM : Aside0 (∀ k ∈ ks, 0 ≤ k ∧ k < b) := ⟨fun k hk => by
    rw [← hks] at hk
    have h1 := (sortK_perm nn).mem_iff.2 hk
    rw [← hnn] at h1
    exact nmAll_mem (P := fun k => 0 ≤ k ∧ k < b) (fun k hk => (by cases hk)) (fun x hx c hc => by have h2 := (right_in (recs_right b _ x hx)).2 c hc; omega) k h1⟩
  have HKL : Aside0 (ks.length ≤ 64000) := ⟨by
    have h1 := nmAll_len 64 (recR n las wt a b ep).1 [] hrx
    rw [hnn] at h1
    have h2 := (sortK_perm nn).length_eq
    rw [hks] at h2
    simp only [List.length_nil] at h1
    omega⟩
  obtain ⟨nk, hnk⟩ : ∃ n, ks.length = n := ⟨_, rfl⟩
  have HNK := Aside0.mk hnk
  have HEP := Aside0.mk (And.intro he0 he1)
  have hmm := @run_makeMap Tryz.prog
  clear h hl hn hw hb hbest hlb hp0 hpb hp1 hrl hrx he0 he1 hpp hnn hks hnk
  go_enter Tryz.func24, Tryz.ntmps24
  go_wp2_with fail
  refine HF.out.mono ?_
  rintro e w2 ⟨v, v2, rfl, hS2⟩
  obtain ⟨A1, c1, rfl⟩ := Sep.rowVN hS2 rfl
  obtain ⟨A2, c2, rfl⟩ := hS2.at2.rowN HNK.out
  have B2 := Aside0.mk (hS2.newBlk 80 #[.int .i64 a, .int .i64 b, .int .u32 ep])
  have z0 := (B2.out.cell 0).trans rfl
  have z1 := (B2.out.cell 1).trans rfl
  have z2 := (B2.out.cell 2).trans rfl
  clear hS2
  go_wp2_with fail
  have B3 := Aside0.mk (set_new B2.out)
  rw [show ∀ o : Obj, (w2.alloc o).heap.size = w2.heap.size + 1 from fun o => by simp] at B3
  have B4 := Aside0.mk (B3.out.newBlk 108 #[.pointer (some ⟨g, 0, none⟩), .int .i64 a, .int .i64 b, .int .u32 ep, .slice A1 pp.length c1, .map (some (w2.heap.size + 1)), .int .i64 0, .int .u32 0])
  rw [show ∀ o o2 : Obj, ((w2.alloc o).alloc o2).heap.size = w2.heap.size + 1 + 1 from fun o o2 => by simp] at B4
  obtain ⟨w5, hw5⟩ : ∃ x, ((w2.alloc (.cells #[.int .i64 a, .int .i64 b, .int .u32 ep] 80)).alloc (.map #[] 0)).alloc (.cells #[.pointer (some ⟨g, 0, none⟩), .int .i64 a, .int .i64 b, .int .u32 ep, .slice A1 pp.length c1, .map (some (w2.heap.size + 1)), .int .i64 0, .int .u32 0] 108) = x := ⟨_, rfl⟩
  rw [hw5] at B4 ⊢
  clear hw5 B3 z0 z1 z2 hmm
  generalize w2.heap.size + 1 + 1 = gs at B4 ⊢
  generalize w2.heap.size + 1 = m at B4 ⊢
  generalize w2.heap.size = r5 at B4 ⊢
  have hnk : nk ≤ 64000 := by have := HKL.out; rw [HNK.out] at this; exact this
  have B5 : Aside0 (Sep w0 w5 (SetM m [] :: Blk gs 108 #[.pointer (some ⟨g, 0, none⟩), .int .i64 a, .int .i64 b, .int .u32 ep, .slice A1 pp.length c1, .map (some m), .int .i64 0, .int .u32 0] :: Blk r5 80 #[.int .i64 a, .int .i64 b, .int .u32 ep] :: RowV KP 24 (.slice A1 pp.length c1) pp :: Row I64 3 (.slice A2 nk c2) ks :: Dsk g las wt :: F)) := ⟨B4.out.at2⟩
  clear B4
  go_loopg [30] nk (fun k_ p wr => ∃ (j : Nat), p = .int .i64 (j : Int) ∧ j + k_ = nk ∧ Sep w0 wr (SetM m (insList [] (ks.take j)) :: Blk gs 108 #[.pointer (some ⟨g, 0, none⟩), .int .i64 a, .int .i64 b, .int .u32 ep, .slice A1 pp.length c1, .map (some m), .int .i64 0, .int .u32 0] :: Blk r5 80 #[.int .i64 a, .int .i64 b, .int .u32 ep] :: RowV KP 24 (.slice A1 pp.length c1) pp :: Row I64 3 (.slice A2 nk c2) ks :: Dsk g las wt :: F))
  case atStart => exact ⟨0, rfl, by omega, B5.out⟩
  case round =>
    obtain ⟨j, rfl, hjk, hS⟩ := hrel
    have AK := Aside0.mk hjk
    have AS := Aside0.mk hS
    clear hS
    by_cases cj : j < nk
    case pos =>
      have hjl : (j : Int) < (nk : Int) := by omega
      have hjx : j < ks.length := by rw [HNK.out]; exact cj
      obtain ⟨ad, hA, hcc⟩ := Kd.at_int AS.out.at5.rowC' (j : Int) (by omega) (by omega)
      rw [Int.toNat_natCast] at hcc
      have hgd : rd ks (j : Int) = ks[j] := by unfold rd; rw [Int.toNat_natCast, List.getD_eq_getElem?_getD, List.getElem?_eq_getElem hjx]; rfl
      have hkb := HKM.out _ (List.getElem_mem hjx)
      have HIN : Aside0 (insList [] (ks.take (j + 1)) = insK (insList [] (ks.take j)) ks[j]) := ⟨by rw [take_one hjx, insList_snoc]⟩
      have HIL : Aside0 ((insList [] (ks.take j)).length < 1000000) := ⟨by
        have h1 := insList_len (ks.take j) []
        have h2 : (ks.take j).length ≤ nk := by rw [List.length_take, HNK.out]; omega
        simp only [List.length_nil] at h1
        omega⟩
      obtain ⟨kk, hkk⟩ : ∃ k, ks[j] = k := ⟨_, rfl⟩
      rw [hkk] at hgd hkb HIN
      rw [hgd] at hcc
      have z5 := (AS.out.at2.cell 5).trans rfl
      obtain ⟨W9, hup, hS9⟩ := set_put (v := .agg #[]) AS.out kk (by have := HPL.out; omega) HIL.out
      rw [← HIN.out] at hS9
      have B9 := Aside0.mk hS9
      subst hA
      clear hjk cj hgd hkb hkk hjx hS9
      go_wp2_with fail
      go_roundg (gk - 1)
      case measure => have := AK.out; omega
      case rel => exact ⟨j + 1, by go_num, by have := AK.out; omega, B9.out⟩
    case neg =>
    obtain rfl : j = nk := by omega
    have hjl : ¬ (j : Int) < (j : Int) := by omega
    have HTK : Aside0 (ks.take j = ks) := ⟨List.take_of_length_le (by rw [HNK.out]; exact Nat.le_refl _)⟩
    have B10 := Aside0.mk AS.out
    rw [HTK.out] at B10
    have B11 : Aside0 (Sep w0 wr (StB gs g m a b ep pp (insList [] ks) 0 0 :: Dsk g las wt :: F)) := ⟨stb_shut (B10.out.at5.tail.at3.tail.at2.at3.sw23.at3)⟩
    clear hjk cj
    go_wp2_with fail
    refine (check_ B11.out HL.out.1 HL.out.2.1 HL.out.2.2 (by have := HEP.out; omega) (fun k hk => ?_) (by have := HPL.out.2; omega)).mono ?_
    · rcases insList_mem ks hk with h1 | h1
      · cases h1
      · have h2 := HKM.out k h1
        have h3 := HPL.out.1
        omega
    rintro e w12 ⟨rfl, hS12⟩
    have B12 := Aside0.mk hS12
    clear hS12
    go_wp2_with fail
    go_ret2
    exact ⟨gs, m, by first | rfl | (simp; done), by rw [HPP.out, HNN.out, HKK.out]; exact B12.out⟩
end
end Go.Proofs.YtjngnigelkgekaaGreat.Store
namespace Go.Proofs.YtjngnigelkgekaaGreat.Store
open Go.RowKit Go.Proofs.YtjngnigelkgekaaGreatW.PrintWords Go.Proofs.YtjngnigelkgekaaGreatW.PrintLast Go.Proofs.YtjngnigelkgekaaGreatW.PrintMore Go.Proofs.YtjngnigelkgekaaGreat.Kit Go.Proofs.YtjngnigelkgekaaGreat.Plain Go.Proofs.YtjngnigelkgekaaGreat.Disk Go.Proofs.YtjngnigelkgekaaGreat.Root
def putsW (n : Nat) (s : Nat) (z : List Int) : Nat → Wt → Wt
  | 0, wt => wt
  | k + 1, wt => putW n (putsW n s z k wt) (s + k) z
theorem putsW_len {n s : Nat} {z : List Int} {wt : Wt} (hw : ∀ i b, wt i = some b → b.length = 64) : ∀ (k : Nat), ∀ i b, putsW n s z k wt i = some b → b.length = 64
  | 0 => hw
  | k + 1 => putW_len (putsW_len hw k)
abbrev zz64 : List Int := List.replicate 64 0
def fmtL (n : Nat) (las : List Int) (wt : Wt) (a b : Nat) : List Int :=
  flushed (flushed (flushed las (putsW n 0 zz64 2 wt)) (putsW n 2 zz64 (a + b) (fun _ => none))) (putW n (fun _ => none) 1 (rootF (m32 (a : Int)) (m32 (b : Int)) 1))
section
variable {w0 W : World} {F : List HP} {g n : Nat} {las : List Int} {wt : Wt}
set_option maxHeartbeats 1600000 in
set_option maxRecDepth 100000 in
theorem format_nil (a b : Int) (W : World) : Calls Tryz.prog 27 #[.pointer none, .int .i64 a, .int .i64 b] W fun e w' => e = .returned (.int .i64 1) ∧ W = w' := by
  go_enter Tryz.func27, Tryz.ntmps27
  go_wp2_with fail
  go_ret
  exact ⟨by first | rfl | (simp; done), rfl⟩
set_option maxHeartbeats 1600000 in
set_option maxRecDepth 100000 in
theorem format_bad (h : Sep w0 W (Dsk g las wt :: F)) (hl : las.length = 64 * n) (a b : Int) (hr : rightR a b 1 n = false) : Calls Tryz.prog 27 #[.pointer (some ⟨g, 0, none⟩), .int .i64 a, .int .i64 b] W fun e w' => e = .returned (.int .i64 25) ∧ Sep w0 w' (Dsk g las wt :: F) := by
  have A0 := Aside0.mk (h.newBlk 80 #[.int .i64 a, .int .i64 b, .int .u32 1]).drew
  have HLN : Aside0 ((las.length : Int) / 64 = (n : Int)) := ⟨by omega⟩
  have HR := Aside0.mk hr
  clear h hl hr
  go_enter Tryz.func27, Tryz.ntmps27
  go_wp2_with fail
  refine start_ (n := 5) (S := fun w' => w'.cell? ⟨W.heap.size, 0, none⟩ = some (.int .i64 a) ∧ w'.cell? ⟨W.heap.size, 1, none⟩ = some (.int .i64 b) ∧ w'.cell? ⟨W.heap.size, 2, none⟩ = some (.int .u32 1)) (ds := [3]) #[Z,Z,Z,Z,Z] (by kernel_rfl) rfl rfl ⟨(A0.out.cell 0).trans rfl, (A0.out.cell 1).trans rfl, (A0.out.cell 2).trans rfl⟩ (fun hHeld => ?_)
  refine pu_ 1 17 ?_ #[Z,J,Z,Z,Z] rfl rfl ?_ ?_ ?_ ?_
  rotate_left
  · intro w'
    go_simp
    with_reducible rfl
  rotate_left
  · simp only [aP]
    rfl
  refine ta_ 0 16 ?_ #[J,J,Z,Z,Z] rfl rfl ?_ hHeld ?_ ?_ ?_
  rotate_left
  · rintro w' ⟨s0, s1, s2⟩
    go_simp
    with_reducible rfl
  rotate_left
  · simp only [aP]
    rfl
  refine one_ (i := 2) (N := some 18) #[J,J,J,Z,Z] rfl rfl (by kernel_rfl) (by decide) (fun K hK => ?_)
  refine goes_ Tryz.func65 (by kernel_rfl) rfl #[.pointer (some ⟨g, 0, none⟩)] (by rfl) rfl rfl (by simp only [List.map_toArray, List.map_cons, List.map_nil]; rfl) ?_
  with_reducible refine (len_ A0.out.at2).mono ?_
  rintro e w4 ⟨rfl, rfl⟩
  refine ⟨_, rfl, ?_⟩
  rw [HLN.out]
  refine hK.out _ _ ⟨(A0.out.cell 0).trans rfl, (A0.out.cell 1).trans rfl, (A0.out.cell 2).trans rfl⟩ (fun hHeld => ?_)
  clear hK K
  refine norm_ (a' := ?_) ?_ ?_
  rotate_left
  · show Act.put _ (some 18) _ = _
    simp only [aP]
    rfl
  refine last_ (i := 3) (N := some 19) #[J,J,J,J,Z] rfl rfl (by kernel_rfl) (by decide) (fun K hK => ?_)
  refine goes_ Tryz.func64 (by kernel_rfl) rfl #[.agg #[.int .i64 a, .int .i64 b, .int .u32 1], .int .i64 (n : Int)] (by rfl) rfl rfl (by simp only [List.map_toArray, List.map_cons, List.map_nil]; rfl) ?_
  with_reducible refine (right_ a b 1 (n : Int) _).mono ?_
  rintro e w5 ⟨rfl, hb5⟩
  refine ⟨_, rfl, ?_⟩
  rw [HR.out]
  have A5 := Aside0.mk (A0.out.below hb5)
  clear hb5
  refine hK.out _ _ ?_
  clear hK K
  refine norm_ (a' := ?_) ?_ ?_
  rotate_left
  · show Act.put _ (some 19) _ = _
    simp only [aP]
    rfl
  refine pu_ 4 20 ?_ #[J,J,J,J,J] rfl rfl ?_ ?_ ?_ ?_
  rotate_left
  · intro w'
    go_simp
    with_reducible rfl
  rotate_left
  · simp only [aP]
    rfl
  refine done_ (by kernel_rfl) ?_
  go_wp2_with fail
  go_ret
  exact ⟨by first | rfl | (simp; done), A5.out.tail⟩
set_option maxHeartbeats 1600000 in
set_option maxRecDepth 100000 in
theorem format_ok (h : Sep w0 W (Dsk g las wt :: F)) (hl : las.length = 64 * n) (hn : n ≤ 160) (hw : ∀ i b, wt i = some b → b.length = 64) (a b : Nat) (hr : rightR (a : Int) (b : Int) 1 n = true) : Calls Tryz.prog 27 #[.pointer (some ⟨g, 0, none⟩), .int .i64 (a : Int), .int .i64 (b : Int)] W fun e w' => e = .returned (.int .i64 0) ∧ Sep w0 w' (Dsk g (fmtL n las wt a b) (fun _ => none) :: F) := by
  have A0 := Aside0.mk (h.newBlk 80 #[.int .i64 (a : Int), .int .i64 (b : Int), .int .u32 1]).drew
  have HLN : Aside0 ((las.length : Int) / 64 = (n : Int)) := ⟨by omega⟩
  have HR := Aside0.mk hr
  have HL := Aside0.mk (And.intro hl (And.intro hn hw))
  have h1 := of_decide_eq_true hr
  have hab : a + b ≤ 160 := by omega
  have HAB := Aside0.mk hab
  have hws : wrap64 ((a : Int) + (b : Int)) = ((a + b : Nat) : Int) := by rw [IntWalk.wrap64_in _ (by omega)]; omega
  obtain ⟨M, hM⟩ : ∃ M, a + b = M := ⟨_, rfl⟩
  rw [hM] at hws HAB
  have HM := Aside0.mk hM
  have hmk : ∀ W : World, (Instr.makeSlice 24 (.int .i64 64) (.int .i64 64)).run Tryz.prog W = .ok (.slice (some ⟨W.heap.size, 0, none⟩) 64 64) (W.alloc (.cells (madeCells #[.int .u8 0] 64) 5)) := make_ (m := 64) (by omega)
  obtain ⟨G0, hG0⟩ : ∃ G, W.heap.size = G := ⟨_, rfl⟩
  rw [hG0] at A0
  clear h hl hr hn hw h1 hab hM
  go_enter Tryz.func27, Tryz.ntmps27
  go_wp2_with fail
  obtain ⟨w1, hw1⟩ : ∃ x, W.alloc (.cells #[.int .i64 (a : Int), .int .i64 (b : Int), .int .u32 1] 80) = x := ⟨_, rfl⟩
  rw [hw1] at A0 ⊢
  clear hw1 hG0
  refine start_ (n := 5) (S := fun w' => w'.cell? ⟨G0, 0, none⟩ = some (.int .i64 (a : Int)) ∧ w'.cell? ⟨G0, 1, none⟩ = some (.int .i64 (b : Int)) ∧ w'.cell? ⟨G0, 2, none⟩ = some (.int .u32 1)) (ds := [3]) #[fF,fF,fF,fF,fF] (by kernel_rfl) rfl rfl ⟨(A0.out.cell 0).trans rfl, (A0.out.cell 1).trans rfl, (A0.out.cell 2).trans rfl⟩ (fun hHeld => ?_)
  refine pu_ 1 17 ?_ #[fF,tT,fF,fF,fF] rfl rfl ?_ ?_ ?_ ?_
  rotate_left
  · intro w'
    go_simp
    with_reducible rfl
  rotate_left
  · simp only [aP]
    rfl
  refine ta_ 0 16 ?_ #[tT,tT,fF,fF,fF] rfl rfl ?_ hHeld ?_ ?_ ?_
  rotate_left
  · rintro w' ⟨s0, s1, s2⟩
    go_simp
    with_reducible rfl
  rotate_left
  · simp only [aP]
    rfl
  refine one_ (i := 2) (N := some 18) #[tT,tT,tT,fF,fF] rfl rfl (by kernel_rfl) (by decide) (fun K hK => ?_)
  refine goes_ Tryz.func65 (by kernel_rfl) rfl #[.pointer (some ⟨g, 0, none⟩)] (by rfl) rfl rfl (by simp only [List.map_toArray, List.map_cons, List.map_nil]; rfl) ?_
  with_reducible refine (len_ A0.out.at2).mono ?_
  rintro e w4 ⟨rfl, rfl⟩
  refine ⟨_, rfl, ?_⟩
  rw [HLN.out]
  refine hK.out _ _ ⟨(A0.out.cell 0).trans rfl, (A0.out.cell 1).trans rfl, (A0.out.cell 2).trans rfl⟩ (fun hHeld => ?_)
  clear hK K
  refine norm_ (a' := ?_) ?_ ?_
  rotate_left
  · show Act.put _ (some 18) _ = _
    simp only [aP]
    rfl
  refine last_ (i := 3) (N := some 19) #[tT,tT,tT,tT,fF] rfl rfl (by kernel_rfl) (by decide) (fun K hK => ?_)
  refine goes_ Tryz.func64 (by kernel_rfl) rfl #[.agg #[.int .i64 (a : Int), .int .i64 (b : Int), .int .u32 1], .int .i64 (n : Int)] (by rfl) rfl rfl (by simp only [List.map_toArray, List.map_cons, List.map_nil]; rfl) ?_
  with_reducible refine (right_ (a : Int) (b : Int) 1 (n : Int) _).mono ?_
  rintro e w5 ⟨rfl, hb5⟩
  refine ⟨_, rfl, ?_⟩
  rw [HR.out]
  have A5 := Aside0.mk (A0.out.below hb5)
  clear hb5
  refine hK.out _ _ ?_
  clear hK K
  refine norm_ (a' := ?_) ?_ ?_
  rotate_left
  · show Act.put _ (some 19) _ = _
    simp only [aP]
    rfl
  refine pu_ 4 20 ?_ #[tT,tT,tT,tT,tT] rfl rfl ?_ ?_ ?_ ?_
  rotate_left
  · intro w'
    go_simp
    with_reducible rfl
  rotate_left
  · simp only [aP]
    rfl
  refine done_ (by kernel_rfl) ?_
  obtain ⟨G1, hG1⟩ : ∃ G, w5.heap.size = G := ⟨_, rfl⟩
  have A6' := Aside0.mk (madeB 64 A5.out (by omega))
  rw [hG1] at A6'
  obtain ⟨w6, hw6⟩ : ∃ x, w5.alloc (.cells (madeCells #[.int .u8 0] 64) 5) = x := ⟨_, rfl⟩
  rw [hw6] at A6'
  have A6 := Aside0.mk A6'.out.at3
  clear A6'
  go_wp2_with fail
  clear hG1 hmk
  go_loopg [22] 2 (fun k_ p wr => ∃ (j : Nat), p = .int .i64 (j : Int) ∧ j + k_ = 2 ∧ Sep w0 wr (Dsk g las (putsW n 0 zz64 j wt) :: Row Base.U8 5 (.slice (some ⟨G1, 0, none⟩) 64 64) zz64 :: Blk G0 80 #[.int .i64 (a : Int), .int .i64 (b : Int), .int .u32 1] :: F))
  case atStart => exact ⟨0, rfl, by decide, by rw [← hw6] at A6; rw [hw6] at A6; exact A6.out⟩
  case round =>
    obtain ⟨j, rfl, hjk, hS⟩ := hrel
    have AK := Aside0.mk hjk
    have AS := Aside0.mk hS
    clear hS
    by_cases cj : j < 2
    case pos =>
      have hjl : (j : Int) < 2 := by omega
      clear hjk cj
      go_wp2_with fail
      refine (dwrite_ AS.out HL.out.1 HL.out.2.1 j (by have h2 := AS.out.at2.rowC.2.2; rw [List.length_replicate] at h2; exact h2) (Nat.le_refl _)).mono ?_
      rintro e w7 ⟨rfl, hS7⟩
      have B7 := Aside0.mk hS7
      clear hS7
      go_wp2_with fail
      go_roundg (gk - 1)
      case measure => have := AK.out; omega
      case rel => exact ⟨j + 1, by go_num, by have := AK.out; omega, by have h3 := B7.out; rw [show putsW n 0 zz64 (j + 1) wt = putW n (putsW n 0 zz64 j wt) j zz64 by show putW n _ (0 + j) _ = _; rw [Nat.zero_add]]; exact h3⟩
    case neg =>
    obtain rfl : j = 2 := by omega
    clear hjk cj
    go_wp2_with fail
    refine (flush_ AS.out).mono ?_
    rintro e w8 ⟨rfl, hS8⟩
    have HL1 := Aside0.mk (Ref.flushed_len HL.out.1 (putsW_len (n := n) (s := 0) (z := zz64) HL.out.2.2 2))
    obtain ⟨L1, hL1⟩ : ∃ L, flushed las (putsW n 0 zz64 2 wt) = L := ⟨_, rfl⟩
    rw [hL1] at hS8 HL1
    have HL1E := Aside0.mk hL1
    have B8 := Aside0.mk hS8
    clear hS8 hL1
    go_wp2_with fail
    rw [hws]
    go_loopg [35] M (fun k_ p wr => ∃ (j : Nat), p = .int .i64 (j : Int) ∧ j + k_ = M ∧ Sep w0 wr (Dsk g L1 (putsW n 2 zz64 j (fun _ => none)) :: Row Base.U8 5 (.slice (some ⟨G1, 0, none⟩) 64 64) zz64 :: Blk G0 80 #[.int .i64 (a : Int), .int .i64 (b : Int), .int .u32 1] :: F))
    case atStart => exact ⟨0, rfl, by omega, B8.out⟩
    case round =>
      obtain ⟨j, rfl, hjk, hS⟩ := hrel
      have AK := Aside0.mk hjk
      have AS := Aside0.mk hS
      clear hS
      by_cases cj : j < M
      case pos =>
        have hjl : (j : Int) < (M : Int) := by omega
        obtain ⟨J2, hJ2⟩ : ∃ J, 2 + j = J := ⟨_, rfl⟩
        have hw2 : wrap64 (2 + (j : Int)) = (J2 : Int) := by have := HAB.out; rw [IntWalk.wrap64_in _ (by omega)]; omega
        have HJ2 := Aside0.mk hJ2
        have hw1j : wrap64 ((j : Int) + 1) = (j : Int) + 1 := by have := HAB.out; exact IntWalk.wrap64_in _ (by omega)
        clear hjk cj hJ2
        go_wp2_with fail
        refine (dwrite_ AS.out HL1.out HL.out.2.1 J2 (by have h2 := AS.out.at2.rowC.2.2; rw [List.length_replicate] at h2; exact h2) (Nat.le_refl _)).mono ?_
        rintro e w9 ⟨rfl, hS9⟩
        have B9 := Aside0.mk hS9
        clear hS9
        go_wp2_with fail
        go_roundg (gk - 1)
        case measure => have := AK.out; omega
        case rel => exact ⟨j + 1, by go_num, by have := AK.out; omega, by have h3 := B9.out; rw [← HJ2.out] at h3; exact h3⟩
      case neg =>
      obtain rfl : j = M := by omega
      have hjl : ¬ (j : Int) < (j : Int) := by omega
      clear hjk cj
      go_wp2_with fail
      refine (flush_ AS.out).mono ?_
      rintro e w10 ⟨rfl, hS10⟩
      have HL2 := Aside0.mk (Ref.flushed_len HL1.out (putsW_len (n := n) (s := 2) (z := zz64) Ref.none_len j))
      obtain ⟨L2, hL2⟩ : ∃ L, flushed L1 (putsW n 2 zz64 j (fun _ => none)) = L := ⟨_, rfl⟩
      rw [hL2] at hS10 HL2
      have HL2E := Aside0.mk hL2
      have B10 := Aside0.mk hS10
      clear hS10 hL2
      have z0 := (B10.out.at3.cell 0).trans rfl
      have z1 := (B10.out.at3.cell 1).trans rfl
      have z2 := (B10.out.at3.cell 2).trans rfl
      go_wp2_with fail
      refine (Root.bytes_ (a : Int) (b : Int) 1 (by decide) _).mono ?_
      rintro e w11 ⟨v11, rfl, hS11⟩
      obtain ⟨R, hR⟩ : ∃ R, rootF (m32 (a : Int)) (m32 (b : Int)) 1 = R := ⟨_, rfl⟩
      rw [hR] at hS11
      have HRR := Aside0.mk hR
      obtain ⟨n11, hn11⟩ : ∃ n, R.length = n := ⟨_, rfl⟩
      obtain ⟨A11, c11, rfl⟩ := hS11.rowN hn11
      have B11 := Aside0.mk (B10.out.lift1 hS11)
      clear hS11 hR hn11 z0 z1 z2
      go_wp2_with fail
      refine (dwrite_ B11.out.at2 HL2.out HL.out.2.1 1 B11.out.rowC' B11.out.rowC.2.1).mono ?_
      rintro e w12 ⟨rfl, hS12⟩
      have B12 := Aside0.mk hS12
      clear hS12
      go_wp2_with fail
      refine (flush_ B12.out).mono ?_
      rintro e w13 ⟨rfl, hS13⟩
      have HFM : Aside0 (flushed L2 (putW n (fun _ => none) 1 R) = fmtL n las wt a b) := ⟨by unfold fmtL; rw [HL1E.out, HM.out, HL2E.out, HRR.out]⟩
      rw [HFM.out] at hS13
      have B13 := Aside0.mk hS13
      clear hS13
      go_wp2_with fail
      go_ret
      exact ⟨by first | rfl | (simp; done), B13.out.drop2.drop2.drop2⟩
end
end Go.Proofs.YtjngnigelkgekaaGreat.Store
namespace Go.Proofs.YtjngnigelkgekaaGreat.Store
open Go.RowKit Go.Proofs.YtjngnigelkgekaaGreatW.PrintWords Go.Proofs.YtjngnigelkgekaaGreatW.PrintLast Go.Proofs.YtjngnigelkgekaaGreatW.PrintMore Go.Proofs.YtjngnigelkgekaaGreat.Kit Go.Proofs.YtjngnigelkgekaaGreat.Plain Go.Proofs.YtjngnigelkgekaaGreat.Disk Go.Proofs.YtjngnigelkgekaaGreat.Root
open Go.Proofs.YtjngnigelkgekaaGreat.Delta (Chg KC deltaF rightF)
open Go.Proofs.YtjngnigelkgekaaGreat.Redo (recR logF appR)
open Go.Proofs.YtjngnigelkgekaaGreat.Home (pagesF)
open Go.Proofs.YtjngnigelkgekaaGreat.Frame (frameF)
abbrev noW : Wt := fun _ => none
abbrev z0L : List Int := List.replicate (20 * 64) 0
abbrev z1L : List Int := List.replicate 64 0 ++ (rootF 9 4 1 ++ List.replicate 1152 0)
abbrev z2L : List Int := rootF 9 4 2 ++ (rootF 9 4 1 ++ List.replicate 1152 0)
abbrev s5 : List Int := 5 :: List.replicate 63 0
abbrev zps : List (List Int) := [List.replicate 64 0, List.replicate 64 0, List.replicate 64 0, List.replicate 64 0]
abbrev zfr : List Int := frameF 2 0 (deltaF [(2, s5)])
abbrev z3L : List Int := rootF 9 4 2 ++ (rootF 9 4 1 ++ (zfr ++ List.replicate (1152 - 84) 0))
theorem k_none : decide (0 < (bestTo (20 : Nat) (secF 20 z0L noW) 2).2.2) = false := by decide +kernel
theorem k_right : rightR ((9 : Nat) : Int) ((4 : Nat) : Int) 1 (20 : Nat) = true := by decide +kernel
theorem k_fmt : fmtL 20 z0L noW 9 4 = z1L := by decide +kernel
theorem k_best1 : bestTo (20 : Nat) (secF 20 z1L noW) 2 = (9, 4, 1) := by decide +kernel
theorem k_pages1 : pagesF 20 z1L noW 9 4 1 = zps := by decide +kernel
theorem k_rec1 : (recR 20 z1L noW 9 4 1).1 = [] := by decide +kernel
theorem k_chk1 : chkL 20 z1L noW 9 4 1 zps [] = z2L := by decide +kernel
theorem k_r1 : rightF [(2, s5)] 4 = true := by decide +kernel
theorem k_r2 : rightF [(4, s5)] 4 = false := by decide +kernel
theorem k_fit : fitsF 9 0 1 = true := by decide +kernel
theorem k_app : applyF zps [(2, s5)] = [List.replicate 64 0, List.replicate 64 0, s5, List.replicate 64 0] := by decide +kernel
theorem k_flush : flushed z2L (appR 20 z2L noW 9 4 2 0 zfr) = z3L := by decide +kernel
theorem k_crash : crashed z3L noW [] = z3L := by decide +kernel
theorem k_best3 : bestTo (20 : Nat) (secF 20 z3L noW) 2 = (9, 4, 2) := by decide +kernel
theorem k_pages3 : pagesF 20 z3L noW 9 4 2 = zps := by decide +kernel
theorem k_rec3 : (recR 20 z3L noW 9 4 2).1 = [[(2, s5)]] := by decide +kernel
end Go.Proofs.YtjngnigelkgekaaGreat.Store
namespace Go.Proofs.YtjngnigelkgekaaGreat.Store
open Go.RowKit Go.Proofs.YtjngnigelkgekaaGreatW.PrintWords Go.Proofs.YtjngnigelkgekaaGreatW.PrintLast Go.Proofs.YtjngnigelkgekaaGreatW.PrintMore Go.Proofs.YtjngnigelkgekaaGreat.Kit Go.Proofs.YtjngnigelkgekaaGreat.Plain Go.Proofs.YtjngnigelkgekaaGreat.Disk Go.Proofs.YtjngnigelkgekaaGreat.Root
def joinF (l : List (List Int)) : ByteArray := l.foldl (fun s x => s ++ strOfNums x) ⟨#[]⟩
theorem joinF_snoc (l : List (List Int)) (x : List Int) : joinF (l ++ [x]) = joinF l ++ strOfNums x := by unfold joinF; rw [List.foldl_append]; rfl
theorem strOf_size (x : List Int) : (strOfNums x).size = x.length := by simp [strOfNums, ByteArray.size]
theorem joinF_size' (M : Nat) : ∀ (l : List (List Int)) (s : ByteArray), (∀ x ∈ l, x.length ≤ M) → (l.foldl (fun s x => s ++ strOfNums x) s).size ≤ s.size + M * l.length
  | [], s, _ => by simp
  | x :: t, s, h => by
    have h1 := joinF_size' M t (s ++ strOfNums x) (fun y hy => h y (List.mem_cons_of_mem _ hy))
    have h2 := h x (List.mem_cons_self ..)
    rw [ByteArray.size_append, strOf_size] at h1
    rw [List.foldl_cons, List.length_cons, Nat.mul_succ]
    omega
theorem joinF_size (M : Nat) (l : List (List Int)) (h : ∀ x ∈ l, x.length ≤ M) : (joinF l).size ≤ M * l.length := by
  have h1 := joinF_size' M l ⟨#[]⟩ h
  rw [show (ByteArray.mk #[]).size = 0 from rfl, Nat.zero_add] at h1
  exact h1
set_option maxHeartbeats 800000 in
set_option maxRecDepth 100000 in
theorem join_ {A : Option Addr} {n c : Nat} {l : List (List Int)} {w : World} (hr : KP.C w A n l) (hn : n ≤ 1000) (hp : ∀ x ∈ l, x.length ≤ 1000000) :
    Calls Tryz.prog 29 #[.slice A n c] w fun e w' => e = .returned (.string (joinF l)) ∧ w = w' := by
  have HR := Aside0.mk hr
  have HP := Aside0.mk hp
  have HL := Aside0.mk hr.1
  have HN := Aside0.mk hn
  clear hr hp
  go_enter Tryz.func29, Tryz.ntmps29
  go_wp2_with fail
  go_loopg [3, 7] n (fun k_ s p wr => ∃ (j : Nat), p = .int .i64 (j : Int) ∧ j + k_ = n ∧ s = .string (joinF (l.take j)) ∧ w = wr)
  case atStart => exact ⟨0, rfl, by omega, rfl, rfl⟩
  case round =>
    obtain ⟨j, rfl, hjk, rfl, rfl⟩ := hrel
    have AK := Aside0.mk hjk
    by_cases cj : j < n
    case pos =>
      have hjl : (j : Int) < (n : Int) := by omega
      obtain ⟨hx, ad, B, cB, rfl, hc, hlc, hC⟩ := elemP HR.out cj
      have HT : Aside0 (joinF (l.take (j + 1)) = joinF (l.take j) ++ strOfNums l[j]) := ⟨by rw [take_one hx, joinF_snoc]⟩
      have hs := Str.strC (c := cB) hC
      have hz1 := joinF_size 1000000 (l.take j) (fun x hx => HP.out x (List.mem_of_mem_take hx))
      have hz2 := strOf_size l[j]
      have hz3 := HP.out _ (List.getElem_mem hx)
      have hz4 : (l.take j).length ≤ n := by rw [List.length_take, HL.out]; omega
      generalize joinF (l.take j) = s1 at *
      generalize strOfNums l[j] = s2 at *
      generalize (l[j]).length = XL at *
      have hsz : s1.size + s2.size ≤ 140737488355328 := by have := HN.out; omega
      clear hjk cj hC hlc hz1 hz2 hz3 hz4 hx
      go_wp2_with fail
      go_roundg (gk - 1)
      case measure => have := AK.out; omega
      case rel => exact ⟨j + 1, by go_num, by have := AK.out; omega, by rw [HT.out], rfl⟩
    case neg =>
    obtain rfl : j = n := by omega
    have hjl : ¬ (j : Int) < (j : Int) := by omega
    have HTK : Aside0 (l.take j = l) := ⟨List.take_of_length_le (by rw [HL.out]; exact Nat.le_refl _)⟩
    clear hjk cj
    go_wp2_with fail
    go_ret
    exact ⟨by rw [HTK.out]; first | rfl | (simp; done), rfl⟩
section
variable {w0 W : World} {F : List HP} {gs g m n : Nat} {a b ep : Int} {pages : List (List Int)} {named : List Int} {used seq : Nat} {las : List Int} {wt : Wt}
set_option maxHeartbeats 800000 in
set_option maxRecDepth 100000 in
theorem page_in (h : Sep w0 W (StB gs g m a b ep pages named used seq :: F)) (i : Nat) (hi : i < pages.length) (hp : (pages[i]).length ≤ 1000000) (hn : pages.length ≤ 100000) : Calls Tryz.prog 49 #[.pointer (some ⟨gs, 0, none⟩), .int .i64 (i : Int)] W fun e w' => ∃ v, e = .returned v ∧ Sep w0 w' (Row (Kd.int .u8) 5 v pages[i] :: StB gs g m a b ep pages named used seq :: F) := by
  obtain ⟨A, c, hs⟩ := stb_open h
  have H0 := Aside0.mk h
  obtain ⟨hx, ad, B, cB, rfl, hc, hlc, hC⟩ := elemP (Sep.rowVC rfl hs.at2).2.2 hi
  obtain ⟨x, hxe⟩ : ∃ x, pages[i] = x := ⟨_, rfl⟩
  rw [hxe] at hc hlc hC hp
  have HX := Aside0.mk hxe
  obtain ⟨XL, hXL⟩ : ∃ L, x.length = L := ⟨_, rfl⟩
  rw [hXL] at hc hlc hC hp
  have HC := Aside0.mk (And.intro hC (And.intro hlc hp))
  obtain ⟨N, hN⟩ : ∃ N, pages.length = N := ⟨_, rfl⟩
  have z4 := (hs.cell 4).trans rfl
  rw [hN] at z4 hi hn
  have hil : (i : Int) < (N : Int) := by omega
  have hil2 : ¬ (N : Int) ≤ (i : Int) := by omega
  have hild : decide ((N : Int) ≤ (i : Int)) = false := decide_eq_false hil2
  clear h hs hC hlc hp hxe hXL hN
  go_enter Tryz.func49, Tryz.ntmps49
  go_wp2_with fail
  refine (Base.clone_ HC.out.1 HC.out.2.1 (by have := HC.out.2.2; omega)).mono ?_
  rintro e w1 ⟨v1, rfl, hS1⟩
  have B1 := Aside0.mk (H0.out.lift1 hS1)
  clear hS1
  go_wp2_with fail
  go_ret
  exact ⟨_, by first | rfl | (simp; done), by rw [HX.out]; exact B1.out⟩
set_option maxHeartbeats 800000 in
set_option maxRecDepth 100000 in
theorem page_out (h : Sep w0 W (StB gs g m a b ep pages named used seq :: F)) (i : Nat) (hi : pages.length ≤ i) : Calls Tryz.prog 49 #[.pointer (some ⟨gs, 0, none⟩), .int .i64 (i : Int)] W fun e w' => e = .returned (.slice none 0 0) ∧ W = w' := by
  obtain ⟨A, c, hs⟩ := stb_open h
  obtain ⟨N, hN⟩ : ∃ N, pages.length = N := ⟨_, rfl⟩
  have z4 := (hs.cell 4).trans rfl
  rw [hN] at z4 hi
  have hil2 : (N : Int) ≤ (i : Int) := by omega
  have hild : decide ((N : Int) ≤ (i : Int)) = true := decide_eq_true hil2
  clear h hs hN
  go_enter Tryz.func49, Tryz.ntmps49
  go_wp2_with fail
  go_ret
  exact ⟨by first | rfl | (simp; done), rfl⟩
set_option maxHeartbeats 800000 in
theorem sync_ (h : Sep w0 W (StB gs g m a b ep pages named used seq :: Dsk g las wt :: F)) : Calls Tryz.prog 30 #[.pointer (some ⟨gs, 0, none⟩)] W fun e w' => e = .returned (.tuple #[]) ∧ Sep w0 w' (StB gs g m a b ep pages named used seq :: Dsk g (flushed las wt) (fun _ => none) :: F) := by
  obtain ⟨A, c, hs⟩ := stb_open h
  have H0 := Aside0.mk h
  have z0 := (hs.cell 0).trans rfl
  clear h hs
  go_enter Tryz.func30, Tryz.ntmps30
  go_wp2_with fail
  refine (flush_ H0.out.at2).mono ?_
  rintro e w1 ⟨rfl, hS1⟩
  have B1 := Aside0.mk hS1.at2
  clear hS1
  go_wp2_with fail
  go_end0
  exact ⟨rfl, B1.out⟩
end
def sectF (x : Int) : List Int := x :: List.replicate 63 0
set_option maxHeartbeats 400000 in
theorem sector_ (x : Int) (w : World) : Calls Tryz.prog 42 #[.int .u8 x] w fun e w' => ∃ v, e = .returned v ∧ Sep w w' [Row U8 5 v (sectF x)] := by
  have hmk : ∀ W : World, (Instr.makeSlice 24 (.int .i64 64) (.int .i64 64)).run Tryz.prog W = .ok (.slice (some ⟨W.heap.size, 0, none⟩) 64 64) (W.alloc (.cells (madeCells #[.int .u8 0] 64) 5)) := make_ (m := 64) (by omega)
  have A0 := Aside0.mk (madeB 64 (Sep.start w) (by omega))
  obtain ⟨e1, e2⟩ := A0.out.rowCell (enc := Value.int .u8) 0 0 (by decide)
  have hL := A0.out.putRow (enc := Value.int .u8) 0 x
  rw [show (w.alloc (.cells (madeCells #[.int .u8 0] 64) 5)).setCell ⟨w.heap.size, 0, none⟩ (.int .u8 x) = w.alloc (.cells ((madeCells #[.int .u8 0] 64).setIfInBounds 0 (.int .u8 x)) 5) by simp only [go_sem]] at hL
  have A1 := Aside0.mk hL
  clear hL
  go_enter Tryz.func42, Tryz.ntmps42
  go_wp2_with fail
  go_ret
  exact ⟨_, by first | rfl | (simp; done), A1.out⟩
end Go.Proofs.YtjngnigelkgekaaGreat.Store
namespace Go.Proofs.YtjngnigelkgekaaGreat.Store
open Go.RowKit Go.Proofs.YtjngnigelkgekaaGreatW.PrintWords Go.Proofs.YtjngnigelkgekaaGreatW.PrintLast Go.Proofs.YtjngnigelkgekaaGreatW.PrintMore Go.Proofs.YtjngnigelkgekaaGreat.Kit Go.Proofs.YtjngnigelkgekaaGreat.Plain Go.Proofs.YtjngnigelkgekaaGreat.Disk Go.Proofs.YtjngnigelkgekaaGreat.Root
open Go.Proofs.YtjngnigelkgekaaGreat.Delta (Chg KC deltaF rightF okF right_ needF)
open Go.Proofs.YtjngnigelkgekaaGreat.Frame (frameF frameF_len frameF_bytes fbytes_)
open Go.Proofs.YtjngnigelkgekaaGreat.Redo (appR okA append_ sizeF)
theorem cm_nums {u k sq : Nat} (h : u + k ≤ 4096) (hs : sq ≤ 1000000) : wrap64 ((u : Int) + (k : Int)) = ((u + k : Nat) : Int) ∧ IntKind.u32.wrap ((sq : Int) + 1) = ((sq + 1 : Nat) : Int) := ⟨by rw [IntWalk.wrap64_in _ (by omega)]; omega, by rw [IntKind.wrap_u32]; omega⟩
section
variable {w0 W : World} {F : List HP} {gs g m n : Nat} {a b ep : Int} {pages : List (List Int)} {named : List Int} {used seq : Nat} {las : List Int} {wt : Wt}
set_option maxHeartbeats 3200000 in
set_option maxRecDepth 100000 in
theorem commit_ok (h : Sep w0 W (StB gs g m a b ep pages named used seq :: Dsk g las wt :: F)) (hl : las.length = 64 * n) (hn : n ≤ 160) (hw : ∀ i b, wt i = some b → b.length = 64) {A2 : Option Addr} {n2 c2 : Nat} {l : List Chg} (hC : ∀ W', Sep w0 W' F → KC.C W' A2 n2 l) (hr : rightF l b = true) (hu : (used : Int) ≤ sizeF a) (hf : fitsF a used n2 = true)
    (hep : 0 ≤ ep ∧ ep ≤ 4294967295) (hsq : seq ≤ 1000000) (hpn : pages.length ≤ 100000) (hp : ∀ p ∈ pages, p.length ≤ 1000000) (hnl : named.length ≤ 100000) :
    Calls Tryz.prog 32 #[.pointer (some ⟨gs, 0, none⟩), .slice A2 n2 c2] W fun e w' => e = .returned (.int .i64 0) ∧ Sep w0 w' (StB gs g m a b ep (applyF pages l) (insAll named l) (used + (18 + 66 * n2)) (seq + 1) :: Dsk g las (appR n las wt a b ep (used : Int) (frameF ep (seq : Int) (deltaF l))) :: F) := by
  have hC0 := hC W h.tail.tail
  have hln := hC0.1
  obtain ⟨A, c, hs⟩ := stb_open h
  obtain ⟨N, hN⟩ : ∃ N, pages.length = N := ⟨_, rfl⟩
  rw [hN] at hs hpn
  have hs1 := Redo.sizeF_in a
  have hfi := fits_in hf
  have hok : okF b (-1) l = true := by
    have h2 := hr
    unfold rightF at h2
    rw [Bool.and_eq_true] at h2
    exact h2.2
  have hall := right_all hok (by decide)
  have hdl : (deltaF l).length = 2 + 66 * n2 := by
    unfold deltaF
    rw [List.length_append, Redo.okF_len hok, hln]; rfl
  have HFL : Aside0 ((frameF ep (seq : Int) (deltaF l)).length = 18 + 66 * n2) := ⟨by rw [frameF_len, hdl]; omega⟩
  have HS := Aside0.mk hs
  have HC := Aside0.mk hC
  have HR := Aside0.mk hr
  have HU := Aside0.mk hu
  have HF := Aside0.mk hf
  have HL := Aside0.mk (And.intro hl (And.intro hn hw))
  have HDL := Aside0.mk hdl
  have HN2 := Aside0.mk hfi.1
  have HN := Aside0.mk hN
  have HP := Aside0.mk (And.intro hpn hp)
  have HEP := Aside0.mk hep
  have HSQ := Aside0.mk hsq
  have HLN := Aside0.mk hln
  have HAL : Aside0 (∀ x ∈ l, x.2.length ≤ 1000000 ∧ -9223372036854775808 ≤ x.1 ∧ x.1 ≤ 9223372036854775807) := ⟨fun x hx => by
    have h1 := hall x hx
    have hb64 : b ≤ 64 := by
      have h2 := hr
      unfold rightF at h2
      rw [Bool.and_eq_true, decide_eq_true_eq] at h2
      exact h2.1
    exact ⟨by omega, by omega, by omega⟩⟩
  have HNL := Aside0.mk hnl
  obtain ⟨e1, e2⟩ := cm_nums (u := used) (k := 18 + 66 * n2) (sq := seq) (by have := hfi.2; have := hs1.2; omega) hsq
  obtain ⟨KF, hK_⟩ : ∃ K, 18 + 66 * n2 = K := ⟨_, rfl⟩
  rw [hK_] at e1 HFL
  have HKK := Aside0.mk hK_
  obtain ⟨U2, hU2⟩ : ∃ u, used + KF = u := ⟨_, rfl⟩
  obtain ⟨S2, hS2⟩ : ∃ u, seq + 1 = u := ⟨_, rfl⟩
  rw [hU2] at e1
  rw [hS2] at e2
  have HU2 := Aside0.mk hU2
  have HS2 := Aside0.mk hS2
  have hn64 : n2 ≤ 64 := hfi.1
  have z2 := (hs.cell 2).trans rfl
  clear h hs hC hC0 hr hu hf hl hn hw hln hN hs1 hfi hok hall hdl hK_ hU2 hS2 hpn hp hnl hep hsq
  go_enter Tryz.func32, Tryz.ntmps32
  go_wp2_with fail
  refine (right_ (HC.out _ HS.out.tail.tail.tail.tail) b).mono ?_
  rintro e w1 ⟨rfl, hb1⟩
  rw [HR.out]
  have B1 := Aside0.mk (HS.out.below hb1).drew
  clear hb1 z2
  go_wp2_with fail
  refine start_ (n := 13) (S := fun w' => w'.cell? ⟨gs, 1, none⟩ = some (.int .i64 a) ∧ w'.cell? ⟨gs, 2, none⟩ = some (.int .i64 b) ∧ w'.cell? ⟨gs, 3, none⟩ = some (.int .u32 ep) ∧ w'.cell? ⟨gs, 6, none⟩ = some (.int .i64 (used : Int))) (ds := [10]) #[Z,Z,Z,Z,Z,Z,Z,Z,Z,Z,Z,Z,Z] (by kernel_rfl) rfl rfl ⟨(B1.out.cell 1).trans rfl, (B1.out.cell 2).trans rfl, (B1.out.cell 3).trans rfl, (B1.out.cell 6).trans rfl⟩ (fun hHeld => ?_)
  refine pu_ 0 18 ?_ #[J,Z,Z,Z,Z,Z,Z,Z,Z,Z,Z,Z,Z] rfl rfl ?_ ?_ ?_ ?_
  rotate_left
  · intro w'
    go_simp
    with_reducible rfl
  rotate_left
  · simp only [aP]
    rfl
  refine pu_ 1 19 ?_ #[J,J,Z,Z,Z,Z,Z,Z,Z,Z,Z,Z,Z] rfl rfl ?_ ?_ ?_ ?_
  rotate_left
  · intro w'
    go_simp
    with_reducible rfl
  rotate_left
  · simp only [aP]
    rfl
  refine pu_ 2 20 ?_ #[J,J,J,Z,Z,Z,Z,Z,Z,Z,Z,Z,Z] rfl rfl ?_ ?_ ?_ ?_
  rotate_left
  · intro w'
    go_simp
    with_reducible rfl
  rotate_left
  · simp only [aP]
    rfl
  refine pu_ 4 22 ?_ #[J,J,J,Z,J,Z,Z,Z,Z,Z,Z,Z,Z] rfl rfl ?_ ?_ ?_ ?_
  rotate_left
  · intro w'
    go_simp
    with_reducible rfl
  rotate_left
  · simp only [aP]
    rfl
  refine pu_ 5 23 ?_ #[J,J,J,Z,J,J,Z,Z,Z,Z,Z,Z,Z] rfl rfl ?_ ?_ ?_ ?_
  rotate_left
  · intro w'
    go_simp
    with_reducible rfl
  rotate_left
  · simp only [aP]
    rfl
  refine pu_ 6 24 ?_ #[J,J,J,Z,J,J,J,Z,Z,Z,Z,Z,Z] rfl rfl ?_ ?_ ?_ ?_
  rotate_left
  · intro w'
    go_simp
    with_reducible rfl
  rotate_left
  · simp only [aP]
    rfl
  refine pu_ 8 26 ?_ #[J,J,J,Z,J,J,J,Z,J,Z,Z,Z,Z] rfl rfl ?_ ?_ ?_ ?_
  rotate_left
  · intro w'
    go_simp
    with_reducible rfl
  rotate_left
  · simp only [aP]
    rfl
  refine pu_ 9 27 ?_ #[J,J,J,Z,J,J,J,Z,J,J,Z,Z,Z] rfl rfl ?_ ?_ ?_ ?_
  rotate_left
  · intro w'
    go_simp
    with_reducible rfl
  rotate_left
  · simp only [aP]
    rfl
  refine ta_ 3 21 ?_ #[J,J,J,J,J,J,J,Z,J,J,Z,Z,Z] rfl rfl ?_ hHeld ?_ ?_ ?_
  rotate_left
  · rintro w' ⟨s0, s1, s2, s3⟩
    go_simp
    with_reducible rfl
  rotate_left
  · simp only [aP]
    rfl
  refine ta_ 7 25 ?_ #[J,J,J,J,J,J,J,J,J,J,Z,Z,Z] rfl rfl ?_ hHeld ?_ ?_ ?_
  rotate_left
  · rintro w' ⟨s0, s1, s2, s3⟩
    go_simp
    with_reducible rfl
  rotate_left
  · simp only [aP]
    rfl
  refine last_ (i := 10) (N := some 28) #[J,J,J,J,J,J,J,J,J,J,J,Z,Z] rfl rfl (by kernel_rfl) (by decide) (fun K hK => ?_)
  refine goes_ Tryz.func70 (by kernel_rfl) rfl #[.agg #[.int .i64 a, .int .i64 b, .int .u32 ep], .int .i64 (used : Int), .int .i64 (n2 : Int)] (by rfl) rfl rfl (by simp only [List.map_toArray, List.map_cons, List.map_nil]; rfl) ?_
  with_reducible refine (fits_ a b ep used n2 HU.out _).mono ?_
  rintro e w3 ⟨rfl, hb3⟩
  refine ⟨_, rfl, ?_⟩
  rw [HF.out]
  have B3 := Aside0.mk (B1.out.below hb3).drew
  clear hb3
  refine hK.out _ _ ?_
  clear hK K
  refine norm_ (a' := ?_) ?_ ?_
  rotate_left
  · show Act.put _ (some 28) _ = _
    simp only [aP]
    rfl
  refine pu_ 11 29 ?_ #[J,J,J,J,J,J,J,J,J,J,J,J,Z] rfl rfl ?_ ?_ ?_ ?_
  rotate_left
  · intro w'
    go_simp
    with_reducible rfl
  rotate_left
  · simp only [aP]
    rfl
  refine pu_ 12 17 ?_ #[J,J,J,J,J,J,J,J,J,J,J,J,J] rfl rfl ?_ ?_ ?_ ?_
  rotate_left
  · intro w'
    go_simp
    with_reducible rfl
  rotate_left
  · simp only [aP]
    rfl
  refine done_ (by kernel_rfl) ?_
  go_wp2_with fail
  refine start_ (n := 13) (S := fun w' => w'.cell? ⟨gs, 3, none⟩ = some (.int .u32 ep) ∧ w'.cell? ⟨gs, 7, none⟩ = some (.int .u32 (seq : Int))) (ds := [11]) #[Z,Z,Z,Z,Z,Z,Z,Z,Z,Z,Z,Z,Z] (by kernel_rfl) rfl rfl ⟨(B3.out.cell 3).trans rfl, (B3.out.cell 7).trans rfl⟩ (fun hHeld => ?_)
  refine pu_ 0 30 ?_ #[J,Z,Z,Z,Z,Z,Z,Z,Z,Z,Z,Z,Z] rfl rfl ?_ ?_ ?_ ?_
  rotate_left
  · intro w'
    go_simp
    with_reducible rfl
  rotate_left
  · simp only [aP]
    rfl
  refine pu_ 1 31 ?_ #[J,J,Z,Z,Z,Z,Z,Z,Z,Z,Z,Z,Z] rfl rfl ?_ ?_ ?_ ?_
  rotate_left
  · intro w'
    go_simp
    with_reducible rfl
  rotate_left
  · simp only [aP]
    rfl
  refine pu_ 2 32 ?_ #[J,J,J,Z,Z,Z,Z,Z,Z,Z,Z,Z,Z] rfl rfl ?_ ?_ ?_ ?_
  rotate_left
  · intro w'
    go_simp
    with_reducible rfl
  rotate_left
  · simp only [aP]
    rfl
  refine pu_ 3 33 ?_ #[J,J,J,J,Z,Z,Z,Z,Z,Z,Z,Z,Z] rfl rfl ?_ ?_ ?_ ?_
  rotate_left
  · intro w'
    go_simp
    with_reducible rfl
  rotate_left
  · simp only [aP]
    rfl
  refine pu_ 5 35 ?_ #[J,J,J,J,Z,J,Z,Z,Z,Z,Z,Z,Z] rfl rfl ?_ ?_ ?_ ?_
  rotate_left
  · intro w'
    go_simp
    with_reducible rfl
  rotate_left
  · simp only [aP]
    rfl
  refine pu_ 6 36 ?_ #[J,J,J,J,Z,J,J,Z,Z,Z,Z,Z,Z] rfl rfl ?_ ?_ ?_ ?_
  rotate_left
  · intro w'
    go_simp
    with_reducible rfl
  rotate_left
  · simp only [aP]
    rfl
  refine pu_ 7 37 ?_ #[J,J,J,J,Z,J,J,J,Z,Z,Z,Z,Z] rfl rfl ?_ ?_ ?_ ?_
  rotate_left
  · intro w'
    go_simp
    with_reducible rfl
  rotate_left
  · simp only [aP]
    rfl
  refine pu_ 9 39 ?_ #[J,J,J,J,Z,J,J,J,Z,J,Z,Z,Z] rfl rfl ?_ ?_ ?_ ?_
  rotate_left
  · intro w'
    go_simp
    with_reducible rfl
  rotate_left
  · simp only [aP]
    rfl
  refine ta_ 4 34 ?_ #[J,J,J,J,J,J,J,J,Z,J,Z,Z,Z] rfl rfl ?_ hHeld ?_ ?_ ?_
  rotate_left
  · rintro w' ⟨s0, s1⟩
    go_simp
    with_reducible rfl
  rotate_left
  · simp only [aP]
    rfl
  refine ta_ 8 38 ?_ #[J,J,J,J,J,J,J,J,J,J,Z,Z,Z] rfl rfl ?_ hHeld ?_ ?_ ?_
  rotate_left
  · rintro w' ⟨s0, s1⟩
    go_simp
    with_reducible rfl
  rotate_left
  · simp only [aP]
    rfl
  refine one_ (i := 10) (N := some 40) #[J,J,J,J,J,J,J,J,J,J,J,Z,Z] rfl rfl (by kernel_rfl) (by decide) (fun K hK => ?_)
  refine goes_ Tryz.func72 (by kernel_rfl) rfl #[.slice A2 n2 c2] (by rfl) rfl rfl (by simp only [List.map_toArray, List.map_cons, List.map_nil]; rfl) ?_
  with_reducible refine (Delta.bytes_ (HC.out _ B3.out.tail.tail.tail.tail) (by rw [HDL.out]; have := HN2.out; omega)).mono ?_
  rintro e w4 ⟨v4, rfl, hS4⟩
  refine ⟨_, rfl, ?_⟩
  obtain ⟨A4, c4, rfl⟩ := hS4.rowN HDL.out
  have B4 := Aside0.mk (B3.out.lift1 hS4)
  clear hS4
  refine hK.out _ _ ⟨(B4.out.at2.cell 3).trans rfl, (B4.out.at2.cell 7).trans rfl⟩ (fun hHeld => ?_)
  clear hK K
  refine norm_ (a' := ?_) ?_ ?_
  rotate_left
  · show Act.put _ (some 40) _ = _
    simp only [aP]
    rfl
  refine last_ (i := 11) (N := some 41) #[J,J,J,J,J,J,J,J,J,J,J,J,Z] rfl rfl (by kernel_rfl) (by decide) (fun K hK => ?_)
  refine goes_ Tryz.func71 (by kernel_rfl) rfl #[.int .u32 ep, .int .u32 (seq : Int), .slice A4 (2 + 66 * n2) c4] (by rfl) rfl rfl (by simp only [List.map_toArray, List.map_cons, List.map_nil]; rfl) ?_
  with_reducible refine (fbytes_ B4.out.rowC' (by have := HN2.out; omega) HEP.out (by have := HSQ.out; omega)).mono ?_
  rintro e w5 ⟨v5, rfl, hS5⟩
  refine ⟨_, rfl, ?_⟩
  obtain ⟨fr, hfr⟩ : ∃ f, frameF ep (seq : Int) (deltaF l) = f := ⟨_, rfl⟩
  have HFR := Aside0.mk hfr
  have HFE : Aside0 (fr.length = KF) := ⟨by rw [← hfr]; exact HFL.out⟩
  rw [hfr] at hS5
  obtain ⟨A5, c5, rfl⟩ := hS5.rowN HFE.out
  have hc5 := hS5.rowC.2.1
  have B5 := Aside0.mk (B4.out.tail.lift1 hS5).drew
  clear hS5 hfr
  refine hK.out _ _ ?_
  clear hK K
  refine norm_ (a' := ?_) ?_ ?_
  rotate_left
  · show Act.put _ (some 41) _ = _
    simp only [aP]
    rfl
  refine pu_ 12 5 ?_ #[J,J,J,J,J,J,J,J,J,J,J,J,J] rfl rfl ?_ ?_ ?_ ?_
  rotate_left
  · intro w'
    go_simp
    with_reducible rfl
  rotate_left
  · simp only [aP]
    rfl
  refine done_ (by kernel_rfl) ?_
  have HC5 := Aside0.mk hc5
  clear hc5
  go_wp2_with fail
  refine start_ (n := 14) (S := fun w' => w'.cell? ⟨gs, 0, none⟩ = some (.pointer (some ⟨g, 0, none⟩)) ∧ w'.cell? ⟨gs, 1, none⟩ = some (.int .i64 a) ∧ w'.cell? ⟨gs, 2, none⟩ = some (.int .i64 b) ∧ w'.cell? ⟨gs, 3, none⟩ = some (.int .u32 ep) ∧ w'.cell? ⟨gs, 6, none⟩ = some (.int .i64 (used : Int))) (ds := [13]) #[Z,Z,Z,Z,Z,Z,Z,Z,Z,Z,Z,Z,Z,Z] (by kernel_rfl) rfl rfl ⟨(B5.out.at2.cell 0).trans rfl, (B5.out.at2.cell 1).trans rfl, (B5.out.at2.cell 2).trans rfl, (B5.out.at2.cell 3).trans rfl, (B5.out.at2.cell 6).trans rfl⟩ (fun hHeld => ?_)
  refine pu_ 0 42 ?_ #[J,Z,Z,Z,Z,Z,Z,Z,Z,Z,Z,Z,Z,Z] rfl rfl ?_ ?_ ?_ ?_
  rotate_left
  · intro w'
    go_simp
    with_reducible rfl
  rotate_left
  · simp only [aP]
    rfl
  refine pu_ 1 43 ?_ #[J,J,Z,Z,Z,Z,Z,Z,Z,Z,Z,Z,Z,Z] rfl rfl ?_ ?_ ?_ ?_
  rotate_left
  · intro w'
    go_simp
    with_reducible rfl
  rotate_left
  · simp only [aP]
    rfl
  refine pu_ 2 44 ?_ #[J,J,J,Z,Z,Z,Z,Z,Z,Z,Z,Z,Z,Z] rfl rfl ?_ ?_ ?_ ?_
  rotate_left
  · intro w'
    go_simp
    with_reducible rfl
  rotate_left
  · simp only [aP]
    rfl
  refine pu_ 4 46 ?_ #[J,J,J,Z,J,Z,Z,Z,Z,Z,Z,Z,Z,Z] rfl rfl ?_ ?_ ?_ ?_
  rotate_left
  · intro w'
    go_simp
    with_reducible rfl
  rotate_left
  · simp only [aP]
    rfl
  refine pu_ 5 47 ?_ #[J,J,J,Z,J,J,Z,Z,Z,Z,Z,Z,Z,Z] rfl rfl ?_ ?_ ?_ ?_
  rotate_left
  · intro w'
    go_simp
    with_reducible rfl
  rotate_left
  · simp only [aP]
    rfl
  refine pu_ 6 48 ?_ #[J,J,J,Z,J,J,J,Z,Z,Z,Z,Z,Z,Z] rfl rfl ?_ ?_ ?_ ?_
  rotate_left
  · intro w'
    go_simp
    with_reducible rfl
  rotate_left
  · simp only [aP]
    rfl
  refine pu_ 8 50 ?_ #[J,J,J,Z,J,J,J,Z,J,Z,Z,Z,Z,Z] rfl rfl ?_ ?_ ?_ ?_
  rotate_left
  · intro w'
    go_simp
    with_reducible rfl
  rotate_left
  · simp only [aP]
    rfl
  refine pu_ 9 51 ?_ #[J,J,J,Z,J,J,J,Z,J,J,Z,Z,Z,Z] rfl rfl ?_ ?_ ?_ ?_
  rotate_left
  · intro w'
    go_simp
    with_reducible rfl
  rotate_left
  · simp only [aP]
    rfl
  refine pu_ 10 52 ?_ #[J,J,J,Z,J,J,J,Z,J,J,J,Z,Z,Z] rfl rfl ?_ ?_ ?_ ?_
  rotate_left
  · intro w'
    go_simp
    with_reducible rfl
  rotate_left
  · simp only [aP]
    rfl
  refine pu_ 12 54 ?_ #[J,J,J,Z,J,J,J,Z,J,J,J,Z,J,Z] rfl rfl ?_ ?_ ?_ ?_
  rotate_left
  · intro w'
    go_simp
    with_reducible rfl
  rotate_left
  · simp only [aP]
    rfl
  refine ta_ 3 45 ?_ #[J,J,J,J,J,J,J,Z,J,J,J,Z,J,Z] rfl rfl ?_ hHeld ?_ ?_ ?_
  rotate_left
  · rintro w' ⟨s0, s1, s2, s3, s4⟩
    go_simp
    with_reducible rfl
  rotate_left
  · simp only [aP]
    rfl
  refine ta_ 7 49 ?_ #[J,J,J,J,J,J,J,J,J,J,J,Z,J,Z] rfl rfl ?_ hHeld ?_ ?_ ?_
  rotate_left
  · rintro w' ⟨s0, s1, s2, s3, s4⟩
    go_simp
    with_reducible rfl
  rotate_left
  · simp only [aP]
    rfl
  refine ta_ 11 53 ?_ #[J,J,J,J,J,J,J,J,J,J,J,J,J,Z] rfl rfl ?_ hHeld ?_ ?_ ?_
  rotate_left
  · rintro w' ⟨s0, s1, s2, s3, s4⟩
    go_simp
    with_reducible rfl
  rotate_left
  · simp only [aP]
    rfl
  refine last_ (i := 13) (N := some 55) #[J,J,J,J,J,J,J,J,J,J,J,J,J,J] rfl rfl (by kernel_rfl) (by decide) (fun K hK => ?_)
  refine goes_ Tryz.func73 (by kernel_rfl) rfl #[.pointer (some ⟨g, 0, none⟩), .agg #[.int .i64 a, .int .i64 b, .int .u32 ep], .int .i64 (used : Int), .slice A5 KF c5] (by rfl) rfl rfl (by simp only [List.map_toArray, List.map_cons, List.map_nil]; rfl) ?_
  with_reducible refine (append_ (xs := fr) B5.out.at5 HL.out.1 HL.out.2.1 HL.out.2.2 a b ep (used : Int) (by have := HU.out; have := (Redo.sizeF_in a).2; omega) (fun W' hW => hW.rowC') HC5.out).mono ?_
  rintro e w6 ⟨rfl, hS6⟩
  refine ⟨_, rfl, ?_⟩
  obtain ⟨wt2, hwt2⟩ : ∃ t, appR n las wt a b ep (used : Int) fr = t := ⟨_, rfl⟩
  have HWT := Aside0.mk hwt2
  rw [hwt2] at hS6
  have B6 := Aside0.mk hS6.at2.tail.at2
  clear hS6 hwt2
  refine hK.out _ _ ?_
  clear hK K
  refine norm_ (a' := ?_) ?_ ?_
  rotate_left
  · show Act.put _ (some 55) _ = _
    simp only [aP]
    rfl
  refine done_ (by kernel_rfl) ?_
  have z4 := (B6.out.cell 4).trans rfl
  go_wp2_with fail
  refine (apply_ (ps := pages) (l := l) (Sep.rowVC rfl B6.out.at3).2.2 (HC.out _ B6.out.tail.tail.tail.tail) HP.out.1 HP.out.2 (fun x hx => (HAL.out x hx).1)).mono ?_
  rintro e w7 ⟨v7, rfl, hS7⟩
  obtain ⟨ps2, hps2⟩ : ∃ p, applyF pages l = p := ⟨_, rfl⟩
  have HPS := Aside0.mk hps2
  have HPL : Aside0 (ps2.length = N) := ⟨by rw [← hps2, applyF_len]; exact HN.out⟩
  rw [hps2] at hS7
  obtain ⟨A7, c7, rfl⟩ := Sep.rowVN hS7 HPL.out
  have B7 := Aside0.mk (B6.out.lift1 hS7).at4.tail.at2
  clear hS7 z4 hps2
  have z4 := (B7.out.cell 4).trans rfl
  have f4 := B7.out.frozen 4
  have B8' := Aside0.mk (B7.out.setBlk 4 (.slice A7 N c7))
  go_wp2_with fail
  obtain ⟨w8, hw8⟩ : ∃ x, w7.setCell ⟨gs, 4, none⟩ (.slice A7 N c7) = x := ⟨_, rfl⟩
  rw [hw8] at B8' ⊢
  have B8 : Aside0 (Sep w0 w8 (SetM m named :: Blk gs 108 #[.pointer (some ⟨g, 0, none⟩), .int .i64 a, .int .i64 b, .int .u32 ep, .slice A7 N c7, .map (some m), .int .i64 (used : Int), .int .u32 (seq : Int)] :: RowV KP 24 (.slice A7 N c7) ps2 :: Dsk g las wt2 :: F)) := ⟨B8'.out.at4⟩
  clear B8' hw8 z4 f4
  go_loopg [67] n2 (fun k_ p wr => ∃ (j : Nat), p = .int .i64 (j : Int) ∧ j + k_ = n2 ∧ Sep w0 wr (SetM m (insAll named (l.take j)) :: Blk gs 108 #[.pointer (some ⟨g, 0, none⟩), .int .i64 a, .int .i64 b, .int .u32 ep, .slice A7 N c7, .map (some m), .int .i64 (used : Int), .int .u32 (seq : Int)] :: RowV KP 24 (.slice A7 N c7) ps2 :: Dsk g las wt2 :: F))
  case atStart => exact ⟨0, rfl, by omega, B8.out⟩
  case round =>
    obtain ⟨j, rfl, hjk, hS⟩ := hrel
    obtain ⟨w9, rfl⟩ : ∃ x, x = wr := ⟨_, rfl⟩
    have AK := Aside0.mk hjk
    have AS := Aside0.mk hS
    clear hS
    by_cases cj : j < n2
    case pos =>
      have hjl : (j : Int) < (n2 : Int) := by omega
      obtain ⟨hx, ad, B, cB, rfl, q0, q1, q2, q3⟩ := elem2_ (HC.out _ AS.out.tail.tail.tail.tail) cj
      have hpg := (HAL.out _ (List.getElem_mem hx)).2
      have HIN : Aside0 (insAll named (l.take (j + 1)) = insK (insAll named (l.take j)) (l[j]).1) := ⟨by rw [take_one hx, insAll_snoc]⟩
      obtain ⟨pg, hpgE⟩ : ∃ p, (l[j]).1 = p := ⟨_, rfl⟩
      obtain ⟨bn, hbn⟩ : ∃ p, (l[j]).2.length = p := ⟨_, rfl⟩
      rw [hpgE] at q0 hpg HIN
      rw [hbn] at q1
      have HPG := Aside0.mk hpg
      have HIL : Aside0 ((insAll named (l.take j)).length < 1000000) := ⟨by
        have h1 := insAll_len (l.take j) named
        have h2 : (l.take j).length ≤ n2 := by rw [List.length_take, HLN.out]; omega
        have h3 := HNL.out
        have h4 := HN2.out
        omega⟩
      obtain ⟨G9, hG9⟩ : ∃ G, w9.heap.size = G := ⟨_, rfl⟩
      have BK := Aside0.mk (AS.out.newBlk 75 #[.int .i64 pg, .slice B bn cB])
      rw [hG9] at BK
      clear hjk cj q2 q3 hpgE hbn hpg hx
      go_wp2_with fail
      obtain ⟨w10, hw10⟩ : ∃ x, w9.alloc (.cells #[.int .i64 pg, .slice B bn cB] 75) = x := ⟨_, rfl⟩
      rw [hw10] at BK ⊢
      have BD := Aside0.mk BK.out.drew
      clear hw10 hG9 q0 q1
      refine start_ (n := 8) (S := fun w' => w'.cell? ⟨gs, 5, none⟩ = some (.map (some m)) ∧ w'.cell? ⟨G9, 0, none⟩ = some (.int .i64 pg)) (ds := [7]) #[Z,Z,Z,Z,Z,Z,Z,Z] (by kernel_rfl) rfl rfl ⟨(BD.out.at3.cell 5).trans rfl, (BD.out.cell 0).trans rfl⟩ (fun hHeld => ?_)
      refine pu_ 0 71 ?_ #[J,Z,Z,Z,Z,Z,Z,Z] rfl rfl ?_ ?_ ?_ ?_
      rotate_left
      · intro w'
        go_simp
        with_reducible rfl
      rotate_left
      · simp only [aP]
        rfl
      refine pu_ 1 72 ?_ #[J,J,Z,Z,Z,Z,Z,Z] rfl rfl ?_ ?_ ?_ ?_
      rotate_left
      · intro w'
        go_simp
        with_reducible rfl
      rotate_left
      · simp only [aP]
        rfl
      refine pu_ 2 73 ?_ #[J,J,J,Z,Z,Z,Z,Z] rfl rfl ?_ ?_ ?_ ?_
      rotate_left
      · intro w'
        go_simp
        with_reducible rfl
      rotate_left
      · simp only [aP]
        rfl
      refine pu_ 4 75 ?_ #[J,J,J,Z,J,Z,Z,Z] rfl rfl ?_ ?_ ?_ ?_
      rotate_left
      · intro w'
        go_simp
        with_reducible rfl
      rotate_left
      · simp only [aP]
        rfl
      refine pu_ 6 77 ?_ #[J,J,J,Z,J,Z,J,Z] rfl rfl ?_ ?_ ?_ ?_
      rotate_left
      · intro w'
        go_simp
        with_reducible rfl
      rotate_left
      · simp only [aP]
        rfl
      refine ta_ 3 74 ?_ #[J,J,J,J,J,Z,J,Z] rfl rfl ?_ hHeld ?_ ?_ ?_
      rotate_left
      · rintro w' ⟨s0, s1⟩
        go_simp
        with_reducible rfl
      rotate_left
      · simp only [aP]
        rfl
      refine ta_ 5 76 ?_ #[J,J,J,J,J,J,J,Z] rfl rfl ?_ hHeld ?_ ?_ ?_
      rotate_left
      · rintro w' ⟨s0, s1⟩
        go_simp
        with_reducible rfl
      rotate_left
      · simp only [aP]
        rfl
      refine last_ (i := 7) (N := none) #[J,J,J,J,J,J,J,J] rfl rfl (by kernel_rfl) (by decide) (fun K hK => ?_)
      obtain ⟨W11, hup, hS11⟩ := set_put (v := .agg #[]) BD.out.at2 pg HPG.out HIL.out
      refine skip_ (w1 := ?_) (by rfl) rfl ?_ ?_
      rotate_left
      · go_simp
        rfl
      refine hK.out _ _ ?_
      clear hK K
      refine done_ (by kernel_rfl) ?_
      rw [← HIN.out] at hS11
      have B11 := Aside0.mk hS11.drop2
      clear hS11 hup
      go_wp2_with fail
      go_roundg (gk - 1)
      case measure => have := AK.out; omega
      case rel => exact ⟨j + 1, by go_num, by have := AK.out; omega, B11.out⟩
    case neg =>
    obtain rfl : j = n2 := by omega
    have hjl : ¬ (j : Int) < (j : Int) := by omega
    have HTK : Aside0 (l.take j = l) := ⟨List.take_of_length_le (by rw [HLN.out]; exact Nat.le_refl _)⟩
    have B12 := Aside0.mk AS.out.at2
    rw [HTK.out] at B12
    have z6 := (B12.out.cell 6).trans rfl
    have f6 := B12.out.frozen 6
    have B13 := Aside0.mk (B12.out.setBlk 6 (.int .i64 (U2 : Int)))
    have z7 := (B13.out.cell 7).trans rfl
    have f7 := B13.out.frozen 7
    have B14 := Aside0.mk (B13.out.setBlk 7 (.int .u32 (S2 : Int)))
    clear hjk cj
    go_wp2_with fail
    go_ret
    refine ⟨by first | rfl | (simp; done), ?_⟩
    rw [HKK.out, HU2.out, HS2.out, HPS.out, HFR.out, HWT.out]
    exact stb_shut B14.out.sw23
end
end Go.Proofs.YtjngnigelkgekaaGreat.Store
namespace Go.Proofs.YtjngnigelkgekaaGreat.Store
open Go.RowKit Go.Proofs.YtjngnigelkgekaaGreatW.PrintWords Go.Proofs.YtjngnigelkgekaaGreatW.PrintLast Go.Proofs.YtjngnigelkgekaaGreatW.PrintMore Go.Proofs.YtjngnigelkgekaaGreat.Kit Go.Proofs.YtjngnigelkgekaaGreat.Plain Go.Proofs.YtjngnigelkgekaaGreat.Disk Go.Proofs.YtjngnigelkgekaaGreat.Root
open Go.Proofs.YtjngnigelkgekaaGreat.Delta (Chg KC deltaF rightF)
open Go.Proofs.YtjngnigelkgekaaGreat.Redo (recR logF logF_bytes appR)
open Go.Proofs.YtjngnigelkgekaaGreat.Home (pagesF)
open Go.Proofs.YtjngnigelkgekaaGreat.Frame (frameF)
theorem k_b1 : Bytes z1L := by unfold Bytes; decide +kernel
theorem k_b3 : Bytes z3L := by unfold Bytes; decide +kernel
theorem k_len1 : z1L.length = 64 * 20 := by decide +kernel
theorem k_len2 : z2L.length = 64 * 20 := by decide +kernel
theorem k_len3 : z3L.length = 64 * 20 := by decide +kernel
theorem k_pl : ∀ p ∈ zps, p.length ≤ 1000000 := by decide +kernel
theorem no_bytes : ∀ i b, noW i = some b → Bytes b := fun i b h => by cases h
theorem chg_lit {w0 W : World} {F : List HP} {p : Nat} {t : TypeId} {k : Int} {A : Option Addr} {n c : Nat} {xs : List Int} (h : Sep w0 W (Blk p t #[.int .i64 k, .slice A n c] :: Row (Kd.int .u8) 5 (.slice A n c) xs :: F)) : KC.C W (some ⟨p, 0, none⟩) 1 [(k, xs)] := by
  have h1 := h.at2.rowC
  have h2 := h.at2.rowC'
  refine ⟨rfl, by decide, fun _ => ⟨_, rfl, fun j q hq => ?_⟩⟩
  have hj : j = 0 := by
    have := (List.getElem?_eq_some_iff.1 hq).1
    simp at this; omega
  subst hj
  obtain rfl : (k, xs) = q := by simpa using hq
  refine ⟨[.int .i64 k, .slice A n c], rfl, ⟨[.int .i64 k], [.slice A n c], rfl, rfl, A, c, by rw [← h1.1], by rw [← h1.1]; exact h1.2.1, by have h3 := h1.2.2; exact h3⟩, fun i u hu => ?_⟩
  rw [Nat.zero_mul, Nat.zero_add, add_plain, h.cell]
  simpa using hu
section
variable {w0 W : World} {F : List HP} {g : Nat}
theorem k_open0 (h : Sep w0 W (Dsk g z0L noW :: F)) : Calls Tryz.prog 24 #[.pointer (some ⟨g, 0, none⟩)] W fun e w' => e = .returned (.tuple #[.pointer none, .int .i64 22]) ∧ Sep w0 w' (Dsk g z0L noW :: F) :=
  open_none (n := 20) h List.length_replicate (by decide) Ref.none_len (fun j => secF_bytes (zeros_bytes _) no_bytes j) k_none
theorem k_format (h : Sep w0 W (Dsk g z0L noW :: F)) : Calls Tryz.prog 27 #[.pointer (some ⟨g, 0, none⟩), .int .i64 9, .int .i64 4] W fun e w' => e = .returned (.int .i64 0) ∧ Sep w0 w' (Dsk g z1L noW :: F) := by
  rw [← k_fmt]
  exact format_ok (n := 20) h List.length_replicate (by decide) Ref.none_len 9 4 k_right
theorem k_open1 (h : Sep w0 W (Dsk g z1L noW :: F)) : Calls Tryz.prog 24 #[.pointer (some ⟨g, 0, none⟩)] W fun e w' => ∃ gs m, e = .returned (.tuple #[.pointer (some ⟨gs, 0, none⟩), .int .i64 0]) ∧ Sep w0 w' (StB gs g m 9 4 2 zps [] 0 0 :: Dsk g z2L noW :: F) := by
  refine (open_ok (n := 20) h k_len1 (by decide) Ref.none_len (fun j => secF_bytes k_b1 no_bytes j) 9 4 1 k_best1 (by decide) (by decide) (logF_bytes k_b1 no_bytes _ _ _) (by rw [k_pages1]; decide) (by rw [k_pages1]; rfl) (by rw [k_pages1]; exact k_pl) (by rw [k_rec1]; decide) (by rw [k_rec1]; intro x hx; cases hx)).mono ?_
  rintro e w' ⟨gs, m, rfl, hS⟩
  rw [k_pages1, k_rec1] at hS
  have hs : insList [] (sortK (nmAll [] [])) = [] := by decide +kernel
  rw [hs, show pgAll zps [] = zps from rfl, k_chk1] at hS
  exact ⟨gs, m, rfl, hS⟩
theorem k_open3 (h : Sep w0 W (Dsk g z3L noW :: F)) : Calls Tryz.prog 24 #[.pointer (some ⟨g, 0, none⟩)] W fun e w' => ∃ gs m L4, e = .returned (.tuple #[.pointer (some ⟨gs, 0, none⟩), .int .i64 0]) ∧ L4.length = 64 * 20 ∧ Sep w0 w' (StB gs g m 9 4 3 (applyF zps [(2, s5)]) [] 0 0 :: Dsk g L4 noW :: F) := by
  refine (open_ok (n := 20) h k_len3 (by decide) Ref.none_len (fun j => secF_bytes k_b3 no_bytes j) 9 4 2 k_best3 (by decide) (by decide) (logF_bytes k_b3 no_bytes _ _ _) (by rw [k_pages3]; decide) (by rw [k_pages3]; rfl) (by rw [k_pages3]; exact k_pl) (by rw [k_rec3]; decide) (by rw [k_rec3]; intro x hx; rw [List.mem_singleton.1 hx]; decide)).mono ?_
  rintro e w' ⟨gs, m, rfl, hS⟩
  rw [k_pages3, k_rec3] at hS
  refine ⟨gs, m, _, rfl, ?_, hS⟩
  unfold chkL
  exact Ref.flushed_len (Ref.flushed_len (Ref.flushed_len k_len3 Ref.none_len) (homeW_len _ Ref.none_len)) (putW_len Ref.none_len)
end
end Go.Proofs.YtjngnigelkgekaaGreat.Store
