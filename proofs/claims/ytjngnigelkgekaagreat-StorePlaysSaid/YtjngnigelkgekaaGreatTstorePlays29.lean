/- StOpen2, StDeed3, StRef4, StFmt2, StCm, Open, OpenRow, AskOpen: what StorePlays needs. -/
import Derived.Test.YtjngnigelkgekaaGreatTstorePlays28
import Derived.Test.YtjngnigelkgekaaGreatProg
import Derived.WalkKit
import Derived.ProofKit
import Derived.OpenShut
import Derived.ShutString
import Derived.ChangeOld
import Derived.Below
import Derived.SizedLaws
import Derived.Deep.Slices
import Derived.ChangeSame
import Derived.ChangeArms
set_option linter.unusedVariables false
set_option linter.unusedSimpArgs false
namespace Go.Proofs.YtjngnigelkgekaaGreat.RStore
open Go.RowKit Go.Proofs.YtjngnigelkgekaaGreatW.PrintWords Go.Proofs.YtjngnigelkgekaaGreatW.PrintLast Go.Proofs.YtjngnigelkgekaaGreatW.PrintMore Go.Proofs.YtjngnigelkgekaaGreat.Kit Go.Proofs.YtjngnigelkgekaaGreat.Plain Go.Proofs.YtjngnigelkgekaaGreat.Disk Go.Proofs.YtjngnigelkgekaaGreat.Root
open Go.Proofs.YtjngnigelkgekaaGreat.Delta (Chg KC deltaF rightF)
open Go.Proofs.YtjngnigelkgekaaGreat.Store (KP StB applyF pgAll pgAll_len openN insAll chkL open_ok open_none open_full check_ check_full commit_ok fitsF)
open Go.Proofs.YtjngnigelkgekaaGreat.Home (RT RTL pagesF)
open Go.Proofs.YtjngnigelkgekaaGreat.Redo (appR sizeF recR)
open Go.Proofs.YtjngnigelkgekaaGreat.Frame (frameF)
open Go.Proofs.YtjngnigelkgekaaGreat.Deed
def NoOpen (n : Nat) (las : List Int) (wt : Wt) (er : Int) : Prop := (er = 22 ∧ decide (0 < (bestTo n (secF n las wt) 2).2.2) = false) ∨ (er = 24 ∧ (bestTo n (secF n las wt) 2).2.2 = 4294967295)
theorem open_cases {n : Nat} {las : List Int} {wt : Wt} (h : Dk n las wt) (hn : n ≤ 160) : (∃ er, NoOpen n las wt er) ∨ ∃ (a b : Nat) (E : Int), Any n las wt a b E ∧ E < 4294967295 := by
  by_cases h0 : 0 < (bestTo (n : Int) (secF n las wt) 2).2.2
  · by_cases h1 : (bestTo (n : Int) (secF n las wt) 2).2.2 = 4294967295
    · exact .inl ⟨24, .inr ⟨rfl, h1⟩⟩
    · obtain ⟨a, b, E, ha⟩ := any_of h hn h0
      have h2 := ha.best
      have h3 := ha.e32
      rw [h2] at h1
      have h4 : ¬ E = 4294967295 := h1
      exact .inr ⟨a, b, E, ha, by omega⟩
  · exact .inl ⟨22, .inl ⟨rfl, decide_eq_false h0⟩⟩
section
variable {w0 W : World} {F : List HP} {g gr n : Nat} {las : List Int} {wt : Wt}
theorem sopen_nil {er : Int} (h : Sep w0 W (Dsk g las wt :: F)) (hd : Dk n las wt) (hn : n ≤ 160) (hno : NoOpen n las wt er) :
    Calls Tryz.prog 24 #[.pointer (some ⟨g, 0, none⟩)] W fun e w' => e = .returned (.tuple #[.pointer none, .int .i64 er]) ∧ Sep w0 w' (Dsk g las wt :: F) := by
  rcases hno with ⟨rfl, h0⟩ | ⟨rfl, h0⟩
  · exact open_none h hd.len hn hd.wl hd.secB h0
  · exact open_full h hd.len hn hd.wl hd.secB h0
theorem ropen_nil {er k : Int} {d : Nat} (h : Sep w0 W (RTL gr n las wt k (d : Int) :: F)) (hd : Dk n las wt) (hno : NoOpen n las wt er) :
    Calls Tryz.prog 40 #[.pointer (some ⟨gr, 0, none⟩)] W fun e w' => e = .returned (.tuple #[.pointer none, .int .i64 er]) ∧ Sep w0 w' (RTL gr n las wt k (d : Int) :: F) := by
  rcases hno with ⟨rfl, h0⟩ | ⟨rfl, h0⟩
  · exact ropen_none h hd h0
  · exact ropen_full h hd h0
theorem sopen_ok {a b : Nat} {E : Int} (h : Sep w0 W (Dsk g las wt :: F)) (ha : Any n las wt a b E) (he : E < 4294967295) :
    Calls Tryz.prog 24 #[.pointer (some ⟨g, 0, none⟩)] W fun e w' => ∃ gs m, e = .returned (.tuple #[.pointer (some ⟨gs, 0, none⟩), .int .i64 0]) ∧ Sep w0 w' (StB gs g m (a : Int) (b : Int) (E + 1) (shownG n a b E las wt) [] 0 0 :: Dsk g (openG n a b E las wt) (fun _ => none) :: F) := by
  have hp := ha.pages
  have hr := ha.rows
  have hn := ha.nums
  exact open_ok h ha.dk.len ha.n160 ha.dk.wl ha.dk.secB (a : Int) (b : Int) E ha.best (by omega) he ha.logB (by rw [hp.1]; omega) (by rw [hp.1]) (fun p hq => by have := (hp.2 p hq).1; omega) hr.1 (fun x hx => (hr.2 x hx).1)
theorem ropen_all {a b d : Nat} {E : Int} (h : Sep w0 W (RT gr n las wt d :: F)) (ha : Any n las wt a b E) (he : E < 4294967295) (hd : d ≤ 1000000) :
    Calls Tryz.prog 40 #[.pointer (some ⟨gr, 0, none⟩)] W fun e w' => ∃ gx, e = .returned (.tuple #[.pointer (some ⟨gx, 0, none⟩), .int .i64 0]) ∧ ∃ d' : Nat, d' ≤ d + 68 ∧ Sep w0 w' (RStB gx gr (a : Int) (b : Int) (E + 1) (shownG n a b E las wt) (List.replicate b false) 0 0 :: RT gr n (openG n a b E las wt) (fun _ => none) d' :: F) := by
  refine (ropen_ok h ha he (by decide) hd).mono ?_
  rintro e w' ⟨gx, rfl, hS⟩
  have hn := ha.nums
  have h1 := rq_all hS.at2
  have h2 : runD (las, wt) (chkD a b E (shownG n a b E las wt) (nmL (nmAllB (List.replicate b false) (rowsG n a b E las wt)) b)) = (openG n a b E las wt, fun _ => none) := ha.st.deeds
  rw [h2] at h1
  refine ⟨gx, rfl, _, ?_, h1.at2⟩
  · rw [chkD_len]
    have := nmL_len (nmAllB (List.replicate b false) (rowsG n a b E las wt)) b
    omega
theorem scheck_ {gs m a b : Nat} {ep : Int} {pages : List (List Int)} {named : List Int} {nm : List Bool} {used seq : Nat} (h : Sep w0 W (StB gs g m (a : Int) (b : Int) ep pages named used seq :: Dsk g las wt :: F)) (hs : St n a b ep pages named nm used seq las wt) (he : ep < 4294967295) :
    Calls Tryz.prog 47 #[.pointer (some ⟨gs, 0, none⟩)] W fun e w' => e = .returned (.int .i64 0) ∧ Sep w0 w' (StB gs g m (a : Int) (b : Int) (ep + 1) pages [] 0 0 :: Dsk g (chkL n las wt (a : Int) (b : Int) ep pages named) (fun _ => none) :: F) := by
  have hn := hs.nums
  exact check_ h hs.dk.len hs.n160 hs.dk.wl ⟨by omega, he⟩ (fun k hk => by have := hs.nk k hk; rw [hs.pl]; exact this) (by rw [hs.pl]; omega)
theorem rcheck_all {gx a b d : Nat} {ep : Int} {pages : List (List Int)} {named : List Int} {nm : List Bool} {used seq : Nat} (h : Sep w0 W (RStB gx gr (a : Int) (b : Int) ep pages nm used seq :: RT gr n las wt d :: F)) (hs : St n a b ep pages named nm used seq las wt) (he : ep < 4294967295) (hd : d ≤ 1000000) :
    Calls Tryz.prog 48 #[.pointer (some ⟨gx, 0, none⟩)] W fun e w' => e = .returned (.int .i64 0) ∧ ∃ d' : Nat, d' ≤ d + 68 ∧ Sep w0 w' (RStB gx gr (a : Int) (b : Int) (ep + 1) pages (List.replicate b false) 0 0 :: RT gr n (chkL n las wt (a : Int) (b : Int) ep pages named) (fun _ => none) d' :: F) := by
  have hn := hs.nums
  refine (rcheck_ (S := (las, wt)) (k := -1) (d := d) (rq_start (S := (las, wt)) h.at2 (by decide)).at2 hs.dk.ok hs.rgt he hs.pl hs.pg (by decide) hd).mono ?_
  rintro e w' ⟨rfl, hS⟩
  have h1 := rq_all hS.at2
  have h2 : runD (las, wt) (chkD a b ep pages (nmL nm b)) = (chkL n las wt (a : Int) (b : Int) ep pages named, fun _ => none) := hs.deeds
  rw [h2] at h1
  refine ⟨rfl, _, ?_, h1.at2⟩
  rw [chkD_len]
  have := nmL_len nm b
  omega
end
end Go.Proofs.YtjngnigelkgekaaGreat.RStore
namespace Go.Proofs.YtjngnigelkgekaaGreat.Deed
open Go.RowKit Go.Proofs.YtjngnigelkgekaaGreat.Kit Go.Proofs.YtjngnigelkgekaaGreat.Disk Go.Proofs.YtjngnigelkgekaaGreat.Plain Go.Proofs.YtjngnigelkgekaaGreat.Root
open Go.Proofs.YtjngnigelkgekaaGreat.Store (putsW zz64 fmtL)
def putsD (s k : Nat) : List Dd := (List.range k).map (fun i => some (s + i, zz64))
theorem putsD_snoc (s k : Nat) : putsD s (k + 1) = putsD s k ++ [some (s + k, zz64)] := by unfold putsD; rw [List.range_succ, List.map_append]; rfl
theorem putsD_len (s k : Nat) : (putsD s k).length = k := by unfold putsD; rw [List.length_map, List.length_range]
theorem putsD_ok {n s : Nat} : ∀ k, s + k ≤ n → OkD n (putsD s k)
  | 0, _ => OkD.nil
  | k + 1, h => by rw [putsD_snoc]; exact (putsD_ok k (by omega)).write (by omega) rfl
theorem putsD_run {n s : Nat} (L : List Int) (w : Wt) : ∀ k, s + k ≤ n → runD (L, w) (putsD s k) = (L, putsW n s zz64 k w)
  | 0, _ => rfl
  | k + 1, h => by
    rw [putsD_snoc, runD_snoc, putsD_run (n := n) L w k (by omega)]
    show (L, _) = (L, putW n (putsW n s zz64 k w) (s + k) zz64)
    unfold putW
    rw [if_pos ⟨by omega, rfl⟩]
def fmtD (a b : Nat) : List Dd := (putsD 0 2 ++ [none]) ++ ((putsD 2 (a + b) ++ [none]) ++ [some (1, rootF (m32 (a : Int)) (m32 (b : Int)) 1), none])
theorem fmtD_len (a b : Nat) : (fmtD a b).length = a + b + 6 := by
  unfold fmtD
  rw [List.length_append, List.length_append, List.length_append, List.length_append, putsD_len, putsD_len]
  simp; omega
theorem fmtD_run {n a b : Nat} (hr : rightR (a : Int) (b : Int) 1 n = true) (las : List Int) (wt : Wt) : runD (las, wt) (fmtD a b) = (fmtL n las wt a b, fun _ => none) := by
  have h4 := of_decide_eq_true hr
  unfold fmtD
  rw [runD_append, runD_append, runD_append, runD_append, putsD_run (n := n) las wt 2 (by omega)]
  show runD (runD (runD (flushed las (putsW n 0 zz64 2 wt), fun _ => none) (putsD 2 (a + b))) [none]) _ = _
  rw [putsD_run (n := n) _ _ (a + b) (by omega)]
  have hput : putW n (fun _ => none) 1 (rootF (m32 (a : Int)) (m32 (b : Int)) 1) = fun j => if j = 1 then some (rootF (m32 (a : Int)) (m32 (b : Int)) 1) else none := by
    unfold putW; rw [if_pos ⟨by omega, rootF_len _ _ _⟩]
  unfold fmtL
  rw [hput]
  rfl
end Go.Proofs.YtjngnigelkgekaaGreat.Deed
namespace Go.Proofs.YtjngnigelkgekaaGreat.RStore
open Go.RowKit Go.Proofs.YtjngnigelkgekaaGreatW.PrintWords Go.Proofs.YtjngnigelkgekaaGreatW.PrintLast Go.Proofs.YtjngnigelkgekaaGreatW.PrintMore Go.Proofs.YtjngnigelkgekaaGreat.Kit Go.Proofs.YtjngnigelkgekaaGreat.Plain Go.Proofs.YtjngnigelkgekaaGreat.Disk Go.Proofs.YtjngnigelkgekaaGreat.Root
open Go.Proofs.YtjngnigelkgekaaGreat.Deed
open Go.Proofs.YtjngnigelkgekaaGreat.Home (RT RTL)
open Go.Proofs.YtjngnigelkgekaaGreat.Store (zz64 fmtL)
section
variable {w0 W : World} {F : List HP} {gr n d : Nat} {las : List Int} {wt : Wt}
set_option maxHeartbeats 1600000 in
set_option maxRecDepth 100000 in
theorem rformat_bad (h : Sep w0 W (RT gr n las wt d :: F)) (a b : Int) (hr : rightR a b 1 n = false) : Calls Tryz.prog 39 #[.pointer (some ⟨gr, 0, none⟩), .int .i64 a, .int .i64 b] W fun e w' => e = .returned (.int .i64 25) ∧ Sep w0 w' (RT gr n las wt d :: F) := by
  have A0 := Aside0.mk (h.newBlk 80 #[.int .i64 a, .int .i64 b, .int .u32 1]).drew
  have HR := Aside0.mk hr
  clear h hr
  go_enter Tryz.func39, Tryz.ntmps39
  go_wp2_with fail
  refine start_ (n := 5) (S := fun w' => w'.cell? ⟨W.heap.size, 0, none⟩ = some (.int .i64 a) ∧ w'.cell? ⟨W.heap.size, 1, none⟩ = some (.int .i64 b) ∧ w'.cell? ⟨W.heap.size, 2, none⟩ = some (.int .u32 1)) (ds := [3]) #[false, false, false, false, false] (by kernel_rfl) rfl rfl ⟨(A0.out.cell 0).trans rfl, (A0.out.cell 1).trans rfl, (A0.out.cell 2).trans rfl⟩ (fun hHeld => ?_)
  refine pure_ (i := 1) (N := some 13) (v := ?_) (a' := ?_) #[false, true, false, false, false] rfl rfl (by kernel_rfl) (fun _ _ _ h => h) (Or.inl ⟨by rfl, ?_⟩) ?_ ?_
  rotate_left
  · intro w'
    go_simp
    with_reducible rfl
  rotate_left
  · simp only [Act.put, sIB, sCz, sCs, i64_w, i32_w]
    rfl
  refine take_ (i := 0) (N := some 12) (v := ?_) (a' := ?_) #[true, true, false, false, false] rfl rfl (by kernel_rfl) (fun _ _ _ h => h) (Or.inl ⟨by rfl, ?_⟩) hHeld ?_ ?_
  rotate_left
  · rintro w' ⟨s0, s1, s2⟩
    go_simp
    with_reducible rfl
  rotate_left
  · simp only [Act.put, sIB, sCz, sCs, i64_w, i32_w]
    rfl
  refine one_ (i := 2) (N := some 14) #[true, true, true, false, false] rfl rfl (by kernel_rfl) (by decide) (fun K hK => ?_)
  refine goes_ Tryz.func78 (by kernel_rfl) rfl #[.pointer (some ⟨gr, 0, none⟩)] (by rfl) rfl rfl (by simp only [List.map_toArray, List.map_cons, List.map_nil]; rfl) ?_
  with_reducible refine (Ref.len_ A0.out.at2).mono ?_
  rintro e w4 ⟨rfl, rfl⟩
  refine ⟨_, rfl, ?_⟩
  refine hK.out _ _ ⟨(A0.out.cell 0).trans rfl, (A0.out.cell 1).trans rfl, (A0.out.cell 2).trans rfl⟩ (fun hHeld => ?_)
  clear hK K
  refine norm_ (a' := ?_) ?_ ?_
  rotate_left
  · show Act.put _ (some 14) _ = _
    simp only [Act.put, sIB, sCz, sCs, i64_w, i32_w]
    rfl
  refine last_ (i := 3) (N := some 15) #[true, true, true, true, false] rfl rfl (by kernel_rfl) (by decide) (fun K hK => ?_)
  refine goes_ Tryz.func77 (by kernel_rfl) rfl #[.agg #[.int .i64 a, .int .i64 b, .int .u32 1], .int .i64 (n : Int)] (by rfl) rfl rfl (by simp only [List.map_toArray, List.map_cons, List.map_nil]; rfl) ?_
  with_reducible refine (rright_ a b 1 (n : Int) _).mono ?_
  rintro e w5 ⟨rfl, hb5⟩
  refine ⟨_, rfl, ?_⟩
  rw [HR.out]
  have A5 := Aside0.mk (A0.out.below hb5)
  clear hb5
  refine hK.out _ _ ?_
  clear hK K
  refine norm_ (a' := ?_) ?_ ?_
  rotate_left
  · show Act.put _ (some 15) _ = _
    simp only [Act.put, sIB, sCz, sCs, i64_w, i32_w]
    rfl
  refine pure_ (i := 4) (N := some 16) (v := ?_) (a' := ?_) #[true, true, true, true, true] rfl rfl (by kernel_rfl) (fun _ _ _ h => h) (Or.inl ⟨by rfl, ?_⟩) ?_ ?_
  rotate_left
  · intro w'
    go_simp
    with_reducible rfl
  rotate_left
  · simp only [Act.put, sIB, sCz, sCs, i64_w, i32_w]
    rfl
  refine done_ (by kernel_rfl) ?_
  go_wp2_with fail
  go_ret
  exact ⟨by first | rfl | (simp; done), A5.out.tail⟩
set_option maxHeartbeats 3200000 in
set_option maxRecDepth 100000 in
theorem rformat_ok (h : Sep w0 W (RT gr n las wt d :: F)) (hl : las.length = 64 * n) (hn : n ≤ 160) (hw : ∀ i b, wt i = some b → b.length = 64) (hd : d ≤ 1000000) (a b : Nat) (hr : rightR (a : Int) (b : Int) 1 n = true) : Calls Tryz.prog 39 #[.pointer (some ⟨gr, 0, none⟩), .int .i64 (a : Int), .int .i64 (b : Int)] W fun e w' => e = .returned (.int .i64 0) ∧ Sep w0 w' (RT gr n (fmtL n las wt a b) (fun _ => none) (d + (a + b + 6)) :: F) := by
  have A0 := Aside0.mk (h.newBlk 80 #[.int .i64 (a : Int), .int .i64 (b : Int), .int .u32 1]).drew
  have HR := Aside0.mk hr
  have HS : Aside0 (OkS n (las, wt)) := ⟨hl, hw⟩
  have h1 := of_decide_eq_true hr
  have HAB : Aside0 (a + b + 2 ≤ n ∧ n ≤ 160) := ⟨by omega⟩
  have HD := Aside0.mk hd
  have hws : wrap64 (2 + (a : Int)) = 2 + (a : Int) := IntWalk.wrap64_in _ (by omega)
  obtain ⟨M, hM⟩ : ∃ M, a + b = M := ⟨_, rfl⟩
  obtain ⟨T, hT⟩ : ∃ T, 2 + M = T := ⟨_, rfl⟩
  have hws2 : wrap64 (2 + (a : Int) + (b : Int)) = (T : Int) := by rw [IntWalk.wrap64_in _ (by omega)]; omega
  have HM := Aside0.mk hM
  have HT := Aside0.mk hT
  have hmk : ∀ W : World, (Instr.makeSlice 24 (.int .i64 64) (.int .i64 64)).run Tryz.prog W = .ok (.slice (some ⟨W.heap.size, 0, none⟩) 64 64) (W.alloc (.cells (madeCells #[.int .u8 0] 64) 5)) := make_ (m := 64) (by omega)
  obtain ⟨G0, hG0⟩ : ∃ G, W.heap.size = G := ⟨_, rfl⟩
  rw [hG0] at A0
  clear h hl hr hn hw h1 hM hT hd
  go_enter Tryz.func39, Tryz.ntmps39
  go_wp2_with fail
  obtain ⟨w1, hw1⟩ : ∃ x, W.alloc (.cells #[.int .i64 (a : Int), .int .i64 (b : Int), .int .u32 1] 80) = x := ⟨_, rfl⟩
  rw [hw1] at A0 ⊢
  clear hw1 hG0
  refine start_ (n := 5) (S := fun w' => w'.cell? ⟨G0, 0, none⟩ = some (.int .i64 (a : Int)) ∧ w'.cell? ⟨G0, 1, none⟩ = some (.int .i64 (b : Int)) ∧ w'.cell? ⟨G0, 2, none⟩ = some (.int .u32 1)) (ds := [3]) #[false, false, false, false, false] (by kernel_rfl) rfl rfl ⟨(A0.out.cell 0).trans rfl, (A0.out.cell 1).trans rfl, (A0.out.cell 2).trans rfl⟩ (fun hHeld => ?_)
  refine pure_ (i := 1) (N := some 13) (v := ?_) (a' := ?_) #[false, true, false, false, false] rfl rfl (by kernel_rfl) (fun _ _ _ h => h) (Or.inl ⟨by rfl, ?_⟩) ?_ ?_
  rotate_left
  · intro w'
    go_simp
    with_reducible rfl
  rotate_left
  · simp only [Act.put, sIB, sCz, sCs, i64_w, i32_w]
    rfl
  refine take_ (i := 0) (N := some 12) (v := ?_) (a' := ?_) #[true, true, false, false, false] rfl rfl (by kernel_rfl) (fun _ _ _ h => h) (Or.inl ⟨by rfl, ?_⟩) hHeld ?_ ?_
  rotate_left
  · rintro w' ⟨s0, s1, s2⟩
    go_simp
    with_reducible rfl
  rotate_left
  · simp only [Act.put, sIB, sCz, sCs, i64_w, i32_w]
    rfl
  refine one_ (i := 2) (N := some 14) #[true, true, true, false, false] rfl rfl (by kernel_rfl) (by decide) (fun K hK => ?_)
  refine goes_ Tryz.func78 (by kernel_rfl) rfl #[.pointer (some ⟨gr, 0, none⟩)] (by rfl) rfl rfl (by simp only [List.map_toArray, List.map_cons, List.map_nil]; rfl) ?_
  with_reducible refine (Ref.len_ A0.out.at2).mono ?_
  rintro e w4 ⟨rfl, rfl⟩
  refine ⟨_, rfl, ?_⟩
  refine hK.out _ _ ⟨(A0.out.cell 0).trans rfl, (A0.out.cell 1).trans rfl, (A0.out.cell 2).trans rfl⟩ (fun hHeld => ?_)
  clear hK K
  refine norm_ (a' := ?_) ?_ ?_
  rotate_left
  · show Act.put _ (some 14) _ = _
    simp only [Act.put, sIB, sCz, sCs, i64_w, i32_w]
    rfl
  refine last_ (i := 3) (N := some 15) #[true, true, true, true, false] rfl rfl (by kernel_rfl) (by decide) (fun K hK => ?_)
  refine goes_ Tryz.func77 (by kernel_rfl) rfl #[.agg #[.int .i64 (a : Int), .int .i64 (b : Int), .int .u32 1], .int .i64 (n : Int)] (by rfl) rfl rfl (by simp only [List.map_toArray, List.map_cons, List.map_nil]; rfl) ?_
  with_reducible refine (rright_ (a : Int) (b : Int) 1 (n : Int) _).mono ?_
  rintro e w5 ⟨rfl, hb5⟩
  refine ⟨_, rfl, ?_⟩
  rw [HR.out]
  have A5 := Aside0.mk (A0.out.below hb5)
  clear hb5
  refine hK.out _ _ ?_
  clear hK K
  refine norm_ (a' := ?_) ?_ ?_
  rotate_left
  · show Act.put _ (some 15) _ = _
    simp only [Act.put, sIB, sCz, sCs, i64_w, i32_w]
    rfl
  refine pure_ (i := 4) (N := some 16) (v := ?_) (a' := ?_) #[true, true, true, true, true] rfl rfl (by kernel_rfl) (fun _ _ _ h => h) (Or.inl ⟨by rfl, ?_⟩) ?_ ?_
  rotate_left
  · intro w'
    go_simp
    with_reducible rfl
  rotate_left
  · simp only [Act.put, sIB, sCz, sCs, i64_w, i32_w]
    rfl
  refine done_ (by kernel_rfl) ?_
  have B5 : Aside0 (Sep w0 w5 (RQ gr n (las, wt) (-1) d [] :: Blk G0 80 #[.int .i64 (a : Int), .int .i64 (b : Int), .int .u32 1] :: F)) := ⟨rq_start A5.out.at2 (by decide)⟩
  have B6 := Aside0.mk (madeB 64 B5.out (by omega)).at2
  have h0n : 0 < n := by have := HAB.out; omega
  have H0N := Aside0.mk h0n
  have H1N : Aside0 (1 < n) := ⟨by have := HAB.out; omega⟩
  clear h0n
  go_wp2_with fail
  refine (qwrite_ (b := zz64) B6.out HS.out OkD.nil (by decide) (by have := HD.out; simp only [List.length_nil]; omega) 0 H0N.out (fun W' hW => by have h2 := hW.rowC.2.2; rw [List.length_replicate] at h2; exact h2)).mono ?_
  rintro e w6 ⟨rfl, hS6⟩
  have B7 := Aside0.mk (madeB 64 hS6.drop2 (by omega)).at2
  clear hS6
  go_wp2_with fail
  refine (qwrite_ (b := zz64) B7.out HS.out (OkD.nil.write H0N.out rfl) (by decide) (by have := HD.out; simp only [List.length_append, List.length_nil, List.length_singleton]; omega) 1 H1N.out (fun W' hW => by have h2 := hW.rowC.2.2; rw [List.length_replicate] at h2; exact h2)).mono ?_
  rintro e w7 ⟨rfl, hS7⟩
  have B8 : Aside0 (Sep w0 w7 (RQ gr n (las, wt) (-1) d (putsD 0 2) :: _)) := ⟨hS7.drop2⟩
  clear hS7
  go_wp2_with fail
  refine (qflush_ B8.out HS.out (putsD_ok 2 (by have := HAB.out; omega)) (by decide) (by have := HD.out; rw [putsD_len]; omega)).mono ?_
  rintro e w8 ⟨rfl, hS8⟩
  have B9 := Aside0.mk hS8
  clear hS8
  have HO9 : Aside0 (OkD n (putsD 0 2 ++ [none])) := ⟨(putsD_ok 2 (by have := HAB.out; omega)).flush⟩
  obtain ⟨D9, hD9⟩ : ∃ D, putsD 0 2 ++ [none] = D := ⟨_, rfl⟩
  have HL9 : Aside0 (D9.length = 3) := ⟨by rw [← hD9]; rfl⟩
  rw [hD9] at B9 HO9
  have HD9 := Aside0.mk hD9
  clear hD9
  have HOK : Aside0 (∀ j, j ≤ M → OkD n (D9 ++ putsD 2 j)) := ⟨fun j hj i x hm => by
    rcases List.mem_append.1 hm with hm | hm
    · exact HO9.out i x hm
    · exact putsD_ok j (by have := HAB.out; have := HM.out; omega) i x hm⟩
  go_wp2_with fail
  go_loopg [8] M (fun k_ p wr => ∃ j i : Nat, p = .int .i64 (i : Int) ∧ i = 2 + j ∧ j + k_ = M ∧ Sep w0 wr (RQ gr n (las, wt) (-1) d (D9 ++ putsD 2 j) :: Blk G0 80 #[.int .i64 (a : Int), .int .i64 (b : Int), .int .u32 1] :: F))
  case atStart => exact ⟨0, 2, rfl, rfl, by omega, by show Sep w0 _ (RQ gr n (las, wt) (-1) d (D9 ++ []) :: _); rw [List.append_nil]; exact B9.out⟩
  case round =>
    obtain ⟨j, i, rfl, hij, hjk, hS⟩ := hrel
    obtain ⟨w10, rfl⟩ : ∃ x, x = wr := ⟨_, rfl⟩
    have AK := Aside0.mk (And.intro hij hjk)
    have AS := Aside0.mk hS
    clear hS
    by_cases cj : j < M
    case pos =>
      have hil : (i : Int) < (T : Int) := by have := HT.out; omega
      have HIN : Aside0 (i < n) := ⟨by have := HAB.out; have := HM.out; omega⟩
      have hw1j : wrap64 ((i : Int) + 1) = (i : Int) + 1 := by have := HAB.out; have := HIN.out; exact IntWalk.wrap64_in _ (by omega)
      have B10 := Aside0.mk (madeB 64 AS.out (by omega)).at2
      have HLE : Aside0 (d + (D9 ++ putsD 2 j).length ≤ 2000000) := ⟨by rw [List.length_append, putsD_len, HL9.out]; have := HD.out; have := HAB.out; have := HM.out; omega⟩
      have HPS : Aside0 (D9 ++ putsD 2 (j + 1) = (D9 ++ putsD 2 j) ++ [some (i, zz64)]) := ⟨by rw [putsD_snoc, hij, List.append_assoc]⟩
      have HJM : Aside0 (j ≤ M) := ⟨by omega⟩
      clear hjk cj hij
      go_wp2_with fail
      refine (qwrite_ (b := zz64) B10.out HS.out (HOK.out j HJM.out) (by decide) HLE.out i HIN.out (fun W' hW => by have h2 := hW.rowC.2.2; rw [List.length_replicate] at h2; exact h2)).mono ?_
      rintro e w11 ⟨rfl, hS11⟩
      have B11 := Aside0.mk hS11.drop2
      clear hS11
      go_wp2_with fail
      go_roundg (gk - 1)
      case measure => have := AK.out; have := HT.out; omega
      case rel => exact ⟨j + 1, i + 1, by go_num, by have := AK.out; omega, by have := AK.out; have := HT.out; omega, by rw [HPS.out]; exact B11.out⟩
    case neg =>
    have hil : ¬ (i : Int) < (T : Int) := by have := HT.out; omega
    obtain rfl : j = M := by omega
    have HO10 : Aside0 (OkD n (D9 ++ putsD 2 j)) := ⟨HOK.out j (Nat.le_refl _)⟩
    have HL10 : Aside0 ((D9 ++ putsD 2 j).length ≤ 163) := ⟨by rw [List.length_append, putsD_len, HL9.out]; have := HAB.out; have := HM.out; omega⟩
    obtain ⟨D10, hD10⟩ : ∃ D, D9 ++ putsD 2 j = D := ⟨_, rfl⟩
    rw [hD10] at AS HO10 HL10
    have HD10 := Aside0.mk hD10
    clear hjk cj hij hD10 HOK
    go_wp2_with fail
    refine (qflush_ AS.out HS.out HO10.out (by decide) (by have := HD.out; have := HL10.out; omega)).mono ?_
    rintro e w12 ⟨rfl, hS12⟩
    have B12 := Aside0.mk hS12
    clear hS12
    have z0 := (B12.out.at2.cell 0).trans rfl
    have z1 := (B12.out.at2.cell 1).trans rfl
    have z2 := (B12.out.at2.cell 2).trans rfl
    go_wp2_with fail
    refine (rroot_ (a : Int) (b : Int) 1 (by decide) _).mono ?_
    rintro e w13 ⟨v13, rfl, hS13⟩
    obtain ⟨R, hR⟩ : ∃ R, rootF (m32 (a : Int)) (m32 (b : Int)) 1 = R := ⟨_, rfl⟩
    have HRL : Aside0 (R.length = 64) := ⟨by rw [← hR]; exact rootF_len _ _ _⟩
    rw [hR] at hS13
    have HRR := Aside0.mk hR
    obtain ⟨A13, c13, rfl⟩ := hS13.rowN HRL.out
    have B13 := Aside0.mk (B12.out.lift1 hS13).at2
    clear hS13 hR z0 z1 z2
    go_wp2_with fail
    refine (qwrite_ (b := R) B13.out HS.out HO10.out.flush (by decide) (by have := HD.out; have := HL10.out; rw [List.length_append, List.length_singleton]; omega) 1 H1N.out (fun W' hW => hW.rowC')).mono ?_
    rintro e w14 ⟨rfl, hS14⟩
    have B14 := Aside0.mk hS14.drop2
    clear hS14
    go_wp2_with fail
    refine (qflush_ B14.out HS.out (HO10.out.flush.write H1N.out HRL.out) (by decide) (by have := HD.out; have := HL10.out; rw [List.length_append, List.length_append, List.length_singleton, List.length_singleton]; omega)).mono ?_
    rintro e w15 ⟨rfl, hS15⟩
    have HFD : Aside0 (((D10 ++ [none]) ++ [some (1, R)]) ++ [none] = fmtD a b) := ⟨by
      unfold fmtD
      rw [← HD10.out, ← HD9.out, ← HRR.out, HM.out]
      simp⟩
    rw [HFD.out] at hS15
    have hfin := rq_all hS15.drop2
    rw [fmtD_run HR.out, fmtD_len] at hfin
    have B15 := Aside0.mk hfin
    clear hS15 hfin
    go_wp2_with fail
    go_ret
    exact ⟨by first | rfl | (simp; done), B15.out⟩
end
end Go.Proofs.YtjngnigelkgekaaGreat.RStore
namespace Go.Proofs.YtjngnigelkgekaaGreat.RStore
open Go.RowKit Go.Proofs.YtjngnigelkgekaaGreatW.PrintWords Go.Proofs.YtjngnigelkgekaaGreatW.PrintLast Go.Proofs.YtjngnigelkgekaaGreatW.PrintMore Go.Proofs.YtjngnigelkgekaaGreat.Kit Go.Proofs.YtjngnigelkgekaaGreat.Plain Go.Proofs.YtjngnigelkgekaaGreat.Disk Go.Proofs.YtjngnigelkgekaaGreat.Root
open Go.Proofs.YtjngnigelkgekaaGreat.Store (fmtL fmt_len format_bad format_ok putsW_bytes putsW_len zz64 no_bytes)
open Go.Proofs.YtjngnigelkgekaaGreat.Home (RT RTL)
open Go.Proofs.YtjngnigelkgekaaGreat.Deed
def fmtE (n : Nat) (log pages : Int) : Int := if rightR log pages 1 n = true then 0 else 25
def fmtS (n : Nat) (las : List Int) (wt : Wt) (log pages : Int) : DS := if rightR log pages 1 n = true then (fmtL n las wt log.toNat pages.toNat, fun _ => none) else (las, wt)
theorem zz_bytes : Bytes zz64 := fun x hx => by
  have := List.eq_of_mem_replicate hx
  omega
theorem Dk.fmt {n : Nat} {las : List Int} {wt : Wt} (h : Dk n las wt) (log pages : Int) : Dk n (fmtS n las wt log pages).1 (fmtS n las wt log pages).2 := by
  unfold fmtS
  split
  · refine ⟨fmt_len h.len h.wl, Ref.none_len, ?_, no_bytes⟩
    show Bytes (fmtL n las wt log.toNat pages.toNat)
    unfold fmtL
    exact Redo.flushed_bytes (Redo.flushed_bytes (Redo.flushed_bytes h.byt (putsW_bytes zz_bytes 2 h.wb)) (putsW_bytes zz_bytes _ no_bytes)) (putW_bytes no_bytes (rootF_bytes _ _ _))
  · exact h
section
variable {w0 W : World} {F : List HP} {g gr n d : Nat} {las : List Int} {wt : Wt}
theorem sformat_ (h : Sep w0 W (Dsk g las wt :: F)) (hd : Dk n las wt) (hn : n ≤ 160) (log pages : Int) :
    Calls Tryz.prog 27 #[.pointer (some ⟨g, 0, none⟩), .int .i64 log, .int .i64 pages] W fun e w' => e = .returned (.int .i64 (fmtE n log pages)) ∧ Sep w0 w' (Dsk g (fmtS n las wt log pages).1 (fmtS n las wt log pages).2 :: F) := by
  unfold fmtE fmtS
  cases hr : rightR log pages 1 n with
  | false =>
    rw [if_neg (by decide), if_neg (by decide)]
    exact format_bad h hd.len log pages hr
  | true =>
    have h1 := of_decide_eq_true hr
    obtain ⟨a, rfl⟩ := Int.eq_ofNat_of_zero_le (show 0 ≤ log by omega)
    obtain ⟨b, rfl⟩ := Int.eq_ofNat_of_zero_le (show 0 ≤ pages by omega)
    rw [if_pos rfl, if_pos rfl, Int.toNat_natCast, Int.toNat_natCast]
    exact format_ok h hd.len hn hd.wl a b hr
theorem rformat_ (h : Sep w0 W (RT gr n las wt d :: F)) (hk : Dk n las wt) (hn : n ≤ 160) (hd : d ≤ 1000000) (log pages : Int) :
    Calls Tryz.prog 39 #[.pointer (some ⟨gr, 0, none⟩), .int .i64 log, .int .i64 pages] W fun e w' => e = .returned (.int .i64 (fmtE n log pages)) ∧ ∃ d' : Nat, d' ≤ d + 200 ∧ Sep w0 w' (RT gr n (fmtS n las wt log pages).1 (fmtS n las wt log pages).2 d' :: F) := by
  unfold fmtE fmtS
  cases hr : rightR log pages 1 n with
  | false =>
    rw [if_neg (by decide), if_neg (by decide)]
    exact (rformat_bad h log pages hr).mono (by rintro e w' ⟨rfl, hS⟩; exact ⟨rfl, d, by omega, hS⟩)
  | true =>
    have h1 := of_decide_eq_true hr
    obtain ⟨a, rfl⟩ := Int.eq_ofNat_of_zero_le (show 0 ≤ log by omega)
    obtain ⟨b, rfl⟩ := Int.eq_ofNat_of_zero_le (show 0 ≤ pages by omega)
    rw [if_pos rfl, if_pos rfl, Int.toNat_natCast, Int.toNat_natCast]
    exact (rformat_ok h hk.len hn hk.wl hd a b hr).mono (by rintro e w' ⟨rfl, hS⟩; exact ⟨rfl, _, by omega, hS⟩)
end
end Go.Proofs.YtjngnigelkgekaaGreat.RStore
namespace Go.Proofs.YtjngnigelkgekaaGreat.RStore
open Go.RowKit Go.Proofs.YtjngnigelkgekaaGreatW.PrintWords Go.Proofs.YtjngnigelkgekaaGreatW.PrintLast Go.Proofs.YtjngnigelkgekaaGreatW.PrintMore Go.Proofs.YtjngnigelkgekaaGreat.Kit Go.Proofs.YtjngnigelkgekaaGreat.Plain Go.Proofs.YtjngnigelkgekaaGreat.Disk Go.Proofs.YtjngnigelkgekaaGreat.Root
open Go.Proofs.YtjngnigelkgekaaGreat.Delta (Chg KC deltaF rightF)
open Go.Proofs.YtjngnigelkgekaaGreat.Store (KP StB applyF insAll commit_bad commit_full commit_ok fitsF)
open Go.Proofs.YtjngnigelkgekaaGreat.Home (RT RTL)
open Go.Proofs.YtjngnigelkgekaaGreat.Redo (appR sizeF)
open Go.Proofs.YtjngnigelkgekaaGreat.Frame (frameF)
structure Cm where
  pages : List (List Int)
  named : List Int
  nm : List Bool
  used : Nat
  seq : Nat
  wt : Wt
def cmE (a b : Int) (used : Nat) (l : List Chg) : Int := if rightF l b = true then (if fitsF a used l.length = true then 0 else 24) else 1
def cmR (n : Nat) (a b ep : Int) (las : List Int) (c : Cm) (l : List Chg) : Cm :=
  if rightF l b = true then (if fitsF a c.used l.length = true then ⟨applyF c.pages l, insAll c.named l, nmF c.nm l, c.used + (18 + 66 * l.length), c.seq + 1, appR n las c.wt a b ep (c.used : Int) (frameF ep (c.seq : Int) (deltaF l))⟩ else c) else c
section
variable {n a b : Nat} {ep : Int} {las : List Int} {c : Cm}
theorem St.cm {l : List Chg} (h : St n a b ep c.pages c.named c.nm c.used c.seq las c.wt) (hB : ∀ x ∈ l, Bytes x.2) : St n a b ep (cmR n a b ep las c l).pages (cmR n a b ep las c l).named (cmR n a b ep las c l).nm (cmR n a b ep las c l).used (cmR n a b ep las c l).seq las (cmR n a b ep las c l).wt ∧ (cmR n a b ep las c l).seq ≤ c.seq + 1 := by
  unfold cmR
  split
  · rename_i hr
    split
    · rename_i hf
      exact ⟨h.commit hr hf hB, Nat.le_refl _⟩
    · exact ⟨h, Nat.le_succ _⟩
  · exact ⟨h, Nat.le_succ _⟩
end
section
variable {w0 W : World} {F : List HP} {g gr gs gx m n a b : Nat} {ep : Int} {las : List Int} {c : Cm}
theorem scommit_ {A2 : Option Addr} {n2 c2 : Nat} {l : List Chg} (h : Sep w0 W (StB gs g m (a : Int) (b : Int) ep c.pages c.named c.used c.seq :: Dsk g las c.wt :: F)) (hs : St n a b ep c.pages c.named c.nm c.used c.seq las c.wt) (hq : c.seq ≤ 1000) (hC : ∀ W', Sep w0 W' F → KC.C W' A2 n2 l) :
    Calls Tryz.prog 32 #[.pointer (some ⟨gs, 0, none⟩), .slice A2 n2 c2] W fun e w' => e = .returned (.int .i64 (cmE a b c.used l)) ∧ Sep w0 w' (StB gs g m (a : Int) (b : Int) ep (cmR n a b ep las c l).pages (cmR n a b ep las c l).named (cmR n a b ep las c l).used (cmR n a b ep las c l).seq :: Dsk g las (cmR n a b ep las c l).wt :: F) := by
  have hC0 := hC W h.tail.tail
  obtain rfl : l.length = n2 := hC0.1
  have hnu := hs.nums
  unfold cmE cmR
  cases hr : rightF l (b : Int) with
  | false =>
    rw [if_neg (by decide), if_neg (by decide)]
    exact commit_bad h hC0 hr
  | true =>
    rw [if_pos rfl, if_pos rfl]
    cases hf : fitsF (a : Int) c.used l.length with
    | false =>
      rw [if_neg (by decide), if_neg (by decide)]
      exact commit_full h hC0 hr hs.us hf
    | true =>
      rw [if_pos rfl, if_pos rfl]
      exact commit_ok h hs.dk.len hs.n160 hs.dk.wl hC hr hs.us hf ⟨by omega, hs.e32⟩ (by omega) (by rw [hs.pl]; omega) (fun p hp => by have := (hs.p64 p hp).1; omega) (by have := hs.nl; omega)
theorem rcommit_ {d : Nat} {A2 : Option Addr} {n2 c2 : Nat} {l : List Chg} (h : Sep w0 W (RStB gx gr (a : Int) (b : Int) ep c.pages c.nm c.used c.seq :: RT gr n las c.wt d :: F)) (hs : St n a b ep c.pages c.named c.nm c.used c.seq las c.wt) (hq : c.seq ≤ 1000) (hd : d ≤ 900000) (hC : ∀ W', Sep w0 W' F → KC.C W' A2 n2 l) :
    Calls Tryz.prog 43 #[.pointer (some ⟨gx, 0, none⟩), .slice A2 n2 c2] W fun e w' => e = .returned (.int .i64 (cmE a b c.used l)) ∧ ∃ d' : Nat, d' ≤ d + 64 ∧ Sep w0 w' (RStB gx gr (a : Int) (b : Int) ep (cmR n a b ep las c l).pages (cmR n a b ep las c l).nm (cmR n a b ep las c l).used (cmR n a b ep las c l).seq :: RT gr n las (cmR n a b ep las c l).wt d' :: F) := by
  have hC0 := hC W h.tail.tail
  obtain rfl : l.length = n2 := hC0.1
  have hnu := hs.nums
  unfold cmE cmR
  cases hr : rightF l (b : Int) with
  | false =>
    rw [if_neg (by decide), if_neg (by decide)]
    exact (rcommit_bad h hC0 hr).mono (by rintro e w' ⟨rfl, hS⟩; exact ⟨rfl, d, by omega, hS⟩)
  | true =>
    rw [if_pos rfl, if_pos rfl]
    cases hf : fitsF (a : Int) c.used l.length with
    | false =>
      rw [if_neg (by decide), if_neg (by decide)]
      exact (rcommit_full h hC0 hr hs.us hf).mono (by rintro e w' ⟨rfl, hS⟩; exact ⟨rfl, d, by omega, hS⟩)
    | true =>
      rw [if_pos rfl, if_pos rfl]
      exact rcommit_ok h hs.dk.len hs.n160 hd hs.dk.wl hC hr hs.us hf ⟨by omega, hs.e32⟩ (by omega) (by rw [hs.pl])
end
end Go.Proofs.YtjngnigelkgekaaGreat.RStore
namespace Go.Proofs.YtjngnigelkgekaaGreat.Kit
open Go.ChangeShapes Go.WideShapes Go.ChangeAt Go.RowKit Go.Proofs.YtjngnigelkgekaaGreatW.PrintWords
section
variable {H : Type} {enc : TypeId × Value → H} {P : Program} {W : World} {base : Nat} {sp : Nat → Bool} {held : Bool}
theorem ints_C {T E : TypeId} {k : IntKind} {a : Option Addr} {len cap : Nat} {d : DataW H} {p : List MemPlace} (hT : P.underlying T = some (.slice E)) (hE : P.underlying E = some (.int k)) (hc : P.cellsOf E = 1)
    (h : DataW.Trod enc P W base (fun _ => true) held T (.slice a len cap) d p) : ∃ xs : List Int, len ≤ cap ∧ (Kd.int k).C W a len xs ∧ ∀ n ∈ xs, (Lit.int k n).wf = true := by
  obtain ⟨fuel, hf⟩ := h
  rcases open_ints hT hE hc hf with ⟨hcs, _⟩ | ⟨x, l, c, zs, hcs, _, hl, hm, hz, _, hcell, hwz⟩
  · simp [Value.cells] at hcs
    obtain ⟨rfl, rfl, rfl⟩ := hcs
    exact ⟨[], Nat.le_refl _, Kd.C_nil _ _, by simp⟩
  · simp [Value.cells] at hcs
    obtain ⟨rfl, rfl, rfl⟩ := hcs
    simp at hz
    simp only [maxLen] at hm
    refine ⟨zs.take len, hl, Kd.C_of_reads (d := (0 : Int)) (h1 := fun _ => rfl) ⟨by rw [List.length_take]; omega, by omega, fun h0 => ⟨x, rfl, fun j hj => ?_⟩⟩, fun n hn => hwz n (List.mem_of_mem_take hn)⟩
    rw [hcell j (by omega), List.getD_eq_getElem?_getD, List.getD_eq_getElem?_getD, List.getElem?_take, if_pos hj]
end
end Go.Proofs.YtjngnigelkgekaaGreat.Kit
namespace Go.Proofs.YtjngnigelkgekaaGreat.Kit
open Go.ChangeShapes Go.WideShapes Go.ChangeAt Go.RowKit Go.Proofs.YtjngnigelkgekaaGreatW.PrintWords
theorem add_twice (a : Addr) (m j : Nat) : (a.add m).add j = a.add (m + j) := by
  unfold Addr.add
  by_cases h1 : m = 0
  · subst h1; simp
  · by_cases h2 : j = 0
    · subst h2; simp
    · simp [h1, h2]; omega
theorem C_each {α : Type} {d : Kd α} {W : World} {A : Option Addr} {n : Nat} (hn : n ≤ 9223372036854775807) {Q : α → Prop}
    (h : ∀ i, i < n → ∃ (ad : Addr) (x : α) (cs : List Value), A = some ad ∧ cs.length = d.sz ∧ d.K W x cs ∧ Q x ∧ ∀ (j : Nat) u, cs[j]? = some u → W.cell? (ad.add (i * d.sz + j)) = some u) : ∃ xs : List α, d.C W A n xs ∧ ∀ x ∈ xs, Q x := by
  have hm : ∀ m, m ≤ n → ∃ xs : List α, xs.length = m ∧ ∀ (i : Nat) x, xs[i]? = some x → Q x ∧ ∃ (ad : Addr) (cs : List Value), A = some ad ∧ cs.length = d.sz ∧ d.K W x cs ∧ ∀ (j : Nat) u, cs[j]? = some u → W.cell? (ad.add (i * d.sz + j)) = some u := by
    intro m
    induction m with
    | zero => exact fun _ => ⟨[], rfl, fun i x hx => by simp at hx⟩
    | succ m ih =>
      intro hle
      obtain ⟨xs, hl, hx⟩ := ih (by omega)
      obtain ⟨ad, x, cs, h1, h2, h3, h4, h5⟩ := h m (by omega)
      refine ⟨xs ++ [x], by simp [hl], fun i y hy => ?_⟩
      by_cases hi : i < m
      · rw [List.getElem?_append_left (by omega)] at hy
        exact hx i y hy
      · have : i = m := by
          have := (List.getElem?_eq_some_iff.1 hy).1
          simp [hl] at this; omega
        subst this
        rw [List.getElem?_append_right (by omega), hl, Nat.sub_self] at hy
        simp at hy
        subst hy
        exact ⟨h4, ad, cs, h1, h2, h3, h5⟩
  obtain ⟨xs, hl, hx⟩ := hm n (Nat.le_refl _)
  refine ⟨xs, ⟨hl, hn, fun hp => ?_⟩, fun x hm => ?_⟩
  · obtain ⟨ad, _, _, e, _⟩ := h 0 hp
    refine ⟨ad, e, fun j x hj => ?_⟩
    obtain ⟨_, ad2, cs, e2, h2, h3, h5⟩ := hx j x hj
    rw [e] at e2
    cases e2
    exact ⟨cs, h2, h3, h5⟩
  · obtain ⟨i, hi⟩ := List.getElem?_of_mem hm
    exact (hx i x hi).1
section
variable {H : Type} {enc : TypeId × Value → H} {P : Program} {W : World} {base : Nat} {held : Bool}
theorem slice_cell {α : Type} {T E : TypeId} {d : Kd α} {Q : α → Prop} {fuel : Nat} {v : Value} {y : DataW H × List MemPlace} (hT : P.underlying T = some (.slice E)) (hc : P.cellsOf E = d.sz)
    (hK : ∀ (cs : List Value) (fuel : Nat) (y : DataW H × List MemPlace), cs.length = d.sz → DataW.trod enc P W base (fun _ => true) held fuel E cs = some y → ∃ x, d.K W x cs ∧ Q x)
    (h : DataW.trod enc P W base (fun _ => true) held fuel T [v] = some y) : ∃ A m c xs, v = .slice A m c ∧ m ≤ c ∧ d.C W A m xs ∧ ∀ x ∈ xs, Q x := by
  rcases Go.Deep.open_slice hT h with ⟨hcs, _⟩ | ⟨x, l, c, m, n, D, Pl, hcs, hb, hl, hm, hmm, hx, hi⟩
  · exact ⟨none, 0, 0, [], (List.cons.inj hcs).1, Nat.le_refl _, Kd.C_nil _ _, by simp⟩
  · simp at hmm
    simp only [maxLen] at hm
    obtain ⟨xs, h1, h2⟩ := C_each (d := d) (W := W) (A := some x) (n := l) (Q := Q) (by omega) (fun i hlt => by
      obtain ⟨cs', hc', ht'⟩ := hi i (by omega)
      obtain ⟨_, hcl, hat⟩ := World.cells?_some hc'
      rw [hc] at hcl hat
      obtain ⟨z, hz, hQ⟩ := hK cs' _ _ hcl ht'
      refine ⟨x, z, cs', rfl, hcl, hz, hQ, fun j u hj => ?_⟩
      have hjl := (List.getElem?_eq_some_iff.1 hj).1
      have := hat j (by omega)
      rw [add_twice, hj] at this
      exact this)
    exact ⟨some x, l, c, xs, (List.cons.inj hcs).1, hl, h1, h2⟩
theorem slice_open {α : Type} {T E : TypeId} {d : Kd α} {Q : α → Prop} {a : Option Addr} {len cap : Nat} {dd : DataW H} {p : List MemPlace} (hT : P.underlying T = some (.slice E)) (hc : P.cellsOf E = d.sz)
    (hK : ∀ (cs : List Value) (fuel : Nat) (y : DataW H × List MemPlace), cs.length = d.sz → DataW.trod enc P W base (fun _ => true) held fuel E cs = some y → ∃ x, d.K W x cs ∧ Q x)
    (h : DataW.Trod enc P W base (fun _ => true) held T (.slice a len cap) dd p) : ∃ xs : List α, len ≤ cap ∧ d.C W a len xs ∧ ∀ x ∈ xs, Q x := by
  obtain ⟨fuel, hf⟩ := h
  obtain ⟨A, m, c, xs, e, h1, h2, h3⟩ := slice_cell hT hc hK (v := .slice a len cap) hf
  cases e
  exact ⟨xs, h1, h2, h3⟩
theorem int_cell {T : TypeId} {k : IntKind} {fuel : Nat} {cs : List Value} {y : DataW H × List MemPlace} (hT : P.underlying T = some (.int k)) (h : DataW.trod enc P W base (fun _ => true) held fuel T cs = some y) : ∃ n, (Kd.int k).K W n cs ∧ (Lit.int k n).wf = true := by
  obtain ⟨n, h1, _, h2⟩ := DataW.trod_int hT h
  exact ⟨n, h1, h2⟩
end
end Go.Proofs.YtjngnigelkgekaaGreat.Kit
namespace Go.Proofs.YtjngnigelkgekaaGreat.RStore
open Go.ChangeShapes Go.WideShapes Go.ChangeAt Go.RowKit Go.Proofs.YtjngnigelkgekaaGreatW.PrintWords Go.Proofs.YtjngnigelkgekaaGreat.Kit Go.Proofs.YtjngnigelkgekaaGreat.Plain
open Go.Proofs.YtjngnigelkgekaaGreat.Delta (Chg KC)
theorem u8wf_ {x : Int} (h : (Lit.int .u8 x).wf = true) : 0 ≤ x ∧ x ≤ 255 := by
  simp only [Lit.wf, IntKind.min, IntKind.max, IntKind.signed, IntKind.bits, Bool.and_eq_true] at h
  simp at h; omega
abbrev Ask := Int × Int × List Int × List Chg
abbrev KA : Kd Ask := Kd.pair (Kd.int .i64) (Kd.pair (Kd.int .i64) (Kd.pair (Kd.slice 3 (Kd.int .i64)) (Kd.slice 75 KC)))
theorem askE_ {W : World} {A : Option Addr} {n : Nat} {xs : List Ask} (h : KA.C W A n xs) {i : Nat} (hi : i < n) :
    ∃ (hx : i < xs.length) (a : Addr) (B : Option Addr) (cB : Nat) (C : Option Addr) (cC : Nat), A = some a ∧ W.cell? (a.add (i * 4)) = some (.int .i64 (xs[i]).1) ∧ W.cell? ⟨(a.add (i * 4)).block, (a.add (i * 4)).off + 1, none⟩ = some (.int .i64 (xs[i]).2.1) ∧
      W.cell? ⟨(a.add (i * 4)).block, (a.add (i * 4)).off + 2, none⟩ = some (.slice B (xs[i]).2.2.1.length cB) ∧ W.cell? ⟨(a.add (i * 4)).block, (a.add (i * 4)).off + 3, none⟩ = some (.slice C (xs[i]).2.2.2.length cC) ∧
      (xs[i]).2.2.1.length ≤ cB ∧ (Kd.int .i64).C W B (xs[i]).2.2.1.length (xs[i]).2.2.1 ∧ (xs[i]).2.2.2.length ≤ cC ∧ KC.C W C (xs[i]).2.2.2.length (xs[i]).2.2.2 := by
  obtain ⟨hx, a, cs, e, ⟨c0, r0, e0, h0, c1, r1, e1, h1, c2, c3, e2, ⟨B, cB, h2, b1, b2⟩, C, cC, h3, b3, b4⟩, hc0, hcj⟩ := elem_ h hi
  have h0 : c0 = [.int .i64 (xs[i]).1] := h0
  have h1 : c1 = [.int .i64 (xs[i]).2.1] := h1
  subst h0 h1 h2 h3 e2 e1 e0
  exact ⟨hx, a, B, cB, C, cC, e, hc0 _ rfl, hcj 1 _ (by decide) rfl, hcj 2 _ (by decide) rfl, hcj 3 _ (by decide) rfl, b1, b2, b3, b4⟩
section
variable {H : Type} {enc : TypeId × Value → H} {W : World} {base : Nat} {held : Bool}
set_option maxRecDepth 100000 in
theorem change_K {cs : List Value} {fuel : Nat} {y : DataW H × List MemPlace} (hl : cs.length = 2) (ht : DataW.trod enc Tryz.prog W base (fun _ => true) held fuel 75 cs = some y) : ∃ x : Chg, KC.K W x cs ∧ Bytes x.2 := by
  obtain ⟨ys, n', _, _, hlen, hyl, hg⟩ := DataW.trod_struct Tryz.underlying75 ht
  match cs, hl with
  | [u0, u1], _ =>
    match ys, hyl with
    | [y0, y1], _ =>
      have g0 := hg 0 _ rfl
      have g1 := hg 1 _ rfl
      have e1 : Tryz.prog.cellsOf 3 = 1 := by kernel_rfl
      have e2 : Tryz.prog.cellsOf 24 = 1 := by kernel_rfl
      simp [e1, e2] at g0 g1
      obtain ⟨k, q0, _, _⟩ := DataW.trod_int Tryz.underlying3 g0
      obtain ⟨B, m, c, bs, rfl, h1, h2, h3⟩ := slice_cell (d := Kd.int .u8) (Q := fun x => 0 ≤ x ∧ x ≤ 255) Tryz.underlying24 (by kernel_rfl) (fun cs fuel y _ ht => by
        obtain ⟨n, e, hw⟩ := int_cell Tryz.underlying5 ht
        exact ⟨n, e, u8wf_ hw⟩) g1
      obtain rfl := h2.1
      exact ⟨(k, bs), ⟨[u0], [.slice B bs.length c], rfl, q0, B, c, rfl, h1, h2⟩, h3⟩
set_option maxRecDepth 100000 in
theorem asks18_open {a : Option Addr} {len cap : Nat} {d : DataW H} {p : List MemPlace} (h : DataW.Trod enc Tryz.prog W base (fun _ => true) held 23 (.slice a len cap) d p) : ∃ xs : List Ask, len ≤ cap ∧ KA.C W a len xs ∧ ∀ x ∈ xs, ∀ c ∈ x.2.2.2, Bytes c.2 := by
  refine slice_open (d := KA) (Q := fun x : Ask => ∀ c ∈ x.2.2.2, Bytes c.2) Tryz.underlying23 (by kernel_rfl) (fun cs fuel y hl ht => ?_) h
  obtain ⟨ys, n', _, _, hlen, hyl, hg⟩ := DataW.trod_struct Tryz.underlying83 ht
  match cs, hl with
  | [u0, u1, u2, u3], _ =>
    match ys, hyl with
    | [y0, y1, y2, y3], _ =>
      have g0 := hg 0 _ rfl
      have g1 := hg 1 _ rfl
      have g2 := hg 2 _ rfl
      have g3 := hg 3 _ rfl
      have e1 : Tryz.prog.cellsOf 3 = 1 := by kernel_rfl
      have e2 : Tryz.prog.cellsOf 22 = 1 := by kernel_rfl
      have e3 : Tryz.prog.cellsOf 60 = 1 := by kernel_rfl
      simp [e1, e2, e3] at g0 g1 g2 g3
      obtain ⟨k, q0, _, _⟩ := DataW.trod_int Tryz.underlying3 g0
      obtain ⟨k1, q1, _, _⟩ := DataW.trod_int Tryz.underlying3 g1
      obtain ⟨B, m, c, bs, rfl, h1, h2, _⟩ := slice_cell (d := Kd.int .i64) (Q := fun _ => True) Tryz.underlying22 (by kernel_rfl) (fun cs fuel y _ ht => by
        obtain ⟨n, e, hw⟩ := int_cell Tryz.underlying3 ht
        exact ⟨n, e, trivial⟩) g2
      obtain rfl := h2.1
      obtain ⟨C, m3, c3, ls, rfl, h4, h5, h6⟩ := slice_cell (d := KC) (Q := fun x : Chg => Bytes x.2) Tryz.underlying60 (by kernel_rfl) (fun cs fuel y hl ht => change_K hl ht) g3
      obtain rfl := h5.1
      simp at q0 q1
      subst q0 q1
      exact ⟨(k, k1, bs, ls), ⟨[.int .i64 k], _, rfl, rfl, [.int .i64 k1], _, rfl, rfl, [.slice B bs.length c], [.slice C ls.length c3], rfl, ⟨B, c, rfl, h1, h2⟩, C, c3, rfl, h4, h5⟩, h6⟩
theorem bytes18_open {a : Option Addr} {len cap : Nat} {d : DataW H} {p : List MemPlace} (h : DataW.Trod enc Tryz.prog W base (fun _ => true) held 24 (.slice a len cap) d p) : ∃ xs : List Int, len ≤ cap ∧ (Kd.int .u8).C W a len xs ∧ Bytes xs := by
  refine slice_open (d := Kd.int .u8) (Q := fun x => 0 ≤ x ∧ x ≤ 255) Tryz.underlying24 (by kernel_rfl) (fun cs fuel y hl ht => ?_) h
  obtain ⟨n, e, hw⟩ := int_cell Tryz.underlying5 ht
  exact ⟨n, e, u8wf_ hw⟩
end
end Go.Proofs.YtjngnigelkgekaaGreat.RStore
