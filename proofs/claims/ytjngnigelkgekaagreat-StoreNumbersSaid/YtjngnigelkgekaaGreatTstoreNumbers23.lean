/- StOpen2, StDeed3, StRef4, StFmt2, StCm, Open, OpenRow, AskOpen, StPlay: what StoreNumbers needs. -/
import Derived.Test.YtjngnigelkgekaaGreatTstoreNumbers22
import Derived.Test.YtjngnigelkgekaaGreatProg
import Derived.WalkKit
import Derived.ProofKit
import Derived.OpenShut
import Derived.ShutString
import Derived.ChangeOld
import Derived.Below
import Derived.SizedLaws
import Derived.Deep.Slices
import Derived.ChangeSame
import Derived.ChangeArms
import Derived.Deep.Cut
import Derived.Deep.CutRange
import Derived.Deep.CutBlock
set_option linter.unusedVariables false
set_option linter.unusedSimpArgs false
namespace Go.Proofs.YtjngnigelkgekaaGreat.RStore
open Go.RowKit Go.Proofs.YtjngnigelkgekaaGreatW.PrintWords Go.Proofs.YtjngnigelkgekaaGreatW.PrintLast Go.Proofs.YtjngnigelkgekaaGreatW.PrintMore Go.Proofs.YtjngnigelkgekaaGreat.Kit Go.Proofs.YtjngnigelkgekaaGreat.Plain Go.Proofs.YtjngnigelkgekaaGreat.Disk Go.Proofs.YtjngnigelkgekaaGreat.Root
open Go.Proofs.YtjngnigelkgekaaGreat.Delta (Chg KC deltaF rightF)
open Go.Proofs.YtjngnigelkgekaaGreat.Store (KP StB applyF pgAll pgAll_len openN insAll chkL open_ok open_none open_full check_ check_full commit_ok fitsF)
open Go.Proofs.YtjngnigelkgekaaGreat.Home (RT RTL pagesF)
open Go.Proofs.YtjngnigelkgekaaGreat.Redo (appR sizeF recR)
open Go.Proofs.YtjngnigelkgekaaGreat.Frame (frameF)
open Go.Proofs.YtjngnigelkgekaaGreat.Deed
def NoOpen (n : Nat) (las : List Int) (wt : Wt) (er : Int) : Prop := (er = 22 ∧ decide (0 < (bestTo n (secF n las wt) 2).2.2) = false) ∨ (er = 24 ∧ (bestTo n (secF n las wt) 2).2.2 = 4294967295)
theorem open_cases {n : Nat} {las : List Int} {wt : Wt} (h : Dk n las wt) (hn : n ≤ 160) : (∃ er, NoOpen n las wt er) ∨ ∃ (a b : Nat) (E : Int), Any n las wt a b E ∧ E < 4294967295 := by
  by_cases h0 : 0 < (bestTo (n : Int) (secF n las wt) 2).2.2
  · by_cases h1 : (bestTo (n : Int) (secF n las wt) 2).2.2 = 4294967295
    · exact .inl ⟨24, .inr ⟨rfl, h1⟩⟩
    · obtain ⟨a, b, E, ha⟩ := any_of h hn h0
      have h2 := ha.best
      have h3 := ha.e32
      rw [h2] at h1
      have h4 : ¬ E = 4294967295 := h1
      exact .inr ⟨a, b, E, ha, by omega⟩
  · exact .inl ⟨22, .inl ⟨rfl, decide_eq_false h0⟩⟩
section
variable {w0 W : World} {F : List HP} {g gr n : Nat} {las : List Int} {wt : Wt}
theorem sopen_nil {er : Int} (h : Sep w0 W (Dsk g las wt :: F)) (hd : Dk n las wt) (hn : n ≤ 160) (hno : NoOpen n las wt er) :
    Calls Tryz.prog 24 #[.pointer (some ⟨g, 0, none⟩)] W fun e w' => e = .returned (.tuple #[.pointer none, .int .i64 er]) ∧ Sep w0 w' (Dsk g las wt :: F) := by
  rcases hno with ⟨rfl, h0⟩ | ⟨rfl, h0⟩
  · exact open_none h hd.len hn hd.wl hd.secB h0
  · exact open_full h hd.len hn hd.wl hd.secB h0
theorem ropen_nil {er k : Int} {d : Nat} (h : Sep w0 W (RTL gr n las wt k (d : Int) :: F)) (hd : Dk n las wt) (hno : NoOpen n las wt er) :
    Calls Tryz.prog 40 #[.pointer (some ⟨gr, 0, none⟩)] W fun e w' => e = .returned (.tuple #[.pointer none, .int .i64 er]) ∧ Sep w0 w' (RTL gr n las wt k (d : Int) :: F) := by
  rcases hno with ⟨rfl, h0⟩ | ⟨rfl, h0⟩
  · exact ropen_none h hd h0
  · exact ropen_full h hd h0
theorem sopen_ok {a b : Nat} {E : Int} (h : Sep w0 W (Dsk g las wt :: F)) (ha : Any n las wt a b E) (he : E < 4294967295) :
    Calls Tryz.prog 24 #[.pointer (some ⟨g, 0, none⟩)] W fun e w' => ∃ gs m, e = .returned (.tuple #[.pointer (some ⟨gs, 0, none⟩), .int .i64 0]) ∧ Sep w0 w' (StB gs g m (a : Int) (b : Int) (E + 1) (shownG n a b E las wt) [] 0 0 :: Dsk g (openG n a b E las wt) (fun _ => none) :: F) := by
  have hp := ha.pages
  have hr := ha.rows
  have hn := ha.nums
  exact open_ok h ha.dk.len ha.n160 ha.dk.wl ha.dk.secB (a : Int) (b : Int) E ha.best (by omega) he ha.logB (by rw [hp.1]; omega) (by rw [hp.1]) (fun p hq => by have := (hp.2 p hq).1; omega) hr.1 (fun x hx => (hr.2 x hx).1)
theorem ropen_all {a b d : Nat} {E : Int} (h : Sep w0 W (RT gr n las wt d :: F)) (ha : Any n las wt a b E) (he : E < 4294967295) (hd : d ≤ 1000000) :
    Calls Tryz.prog 40 #[.pointer (some ⟨gr, 0, none⟩)] W fun e w' => ∃ gx, e = .returned (.tuple #[.pointer (some ⟨gx, 0, none⟩), .int .i64 0]) ∧ ∃ d' : Nat, d' ≤ d + 68 ∧ Sep w0 w' (RStB gx gr (a : Int) (b : Int) (E + 1) (shownG n a b E las wt) (List.replicate b false) 0 0 :: RT gr n (openG n a b E las wt) (fun _ => none) d' :: F) := by
  refine (ropen_ok h ha he (by decide) hd).mono ?_
  rintro e w' ⟨gx, rfl, hS⟩
  have hn := ha.nums
  have h1 := rq_all hS.at2
  have h2 : runD (las, wt) (chkD a b E (shownG n a b E las wt) (nmL (nmAllB (List.replicate b false) (rowsG n a b E las wt)) b)) = (openG n a b E las wt, fun _ => none) := ha.st.deeds
  rw [h2] at h1
  refine ⟨gx, rfl, _, ?_, h1.at2⟩
  · rw [chkD_len]
    have := nmL_len (nmAllB (List.replicate b false) (rowsG n a b E las wt)) b
    omega
theorem scheck_ {gs m a b : Nat} {ep : Int} {pages : List (List Int)} {named : List Int} {nm : List Bool} {used seq : Nat} (h : Sep w0 W (StB gs g m (a : Int) (b : Int) ep pages named used seq :: Dsk g las wt :: F)) (hs : St n a b ep pages named nm used seq las wt) (he : ep < 4294967295) :
    Calls Tryz.prog 47 #[.pointer (some ⟨gs, 0, none⟩)] W fun e w' => e = .returned (.int .i64 0) ∧ Sep w0 w' (StB gs g m (a : Int) (b : Int) (ep + 1) pages [] 0 0 :: Dsk g (chkL n las wt (a : Int) (b : Int) ep pages named) (fun _ => none) :: F) := by
  have hn := hs.nums
  exact check_ h hs.dk.len hs.n160 hs.dk.wl ⟨by omega, he⟩ (fun k hk => by have := hs.nk k hk; rw [hs.pl]; exact this) (by rw [hs.pl]; omega)
theorem rcheck_all {gx a b d : Nat} {ep : Int} {pages : List (List Int)} {named : List Int} {nm : List Bool} {used seq : Nat} (h : Sep w0 W (RStB gx gr (a : Int) (b : Int) ep pages nm used seq :: RT gr n las wt d :: F)) (hs : St n a b ep pages named nm used seq las wt) (he : ep < 4294967295) (hd : d ≤ 1000000) :
    Calls Tryz.prog 48 #[.pointer (some ⟨gx, 0, none⟩)] W fun e w' => e = .returned (.int .i64 0) ∧ ∃ d' : Nat, d' ≤ d + 68 ∧ Sep w0 w' (RStB gx gr (a : Int) (b : Int) (ep + 1) pages (List.replicate b false) 0 0 :: RT gr n (chkL n las wt (a : Int) (b : Int) ep pages named) (fun _ => none) d' :: F) := by
  have hn := hs.nums
  refine (rcheck_ (S := (las, wt)) (k := -1) (d := d) (rq_start (S := (las, wt)) h.at2 (by decide)).at2 hs.dk.ok hs.rgt he hs.pl hs.pg (by decide) hd).mono ?_
  rintro e w' ⟨rfl, hS⟩
  have h1 := rq_all hS.at2
  have h2 : runD (las, wt) (chkD a b ep pages (nmL nm b)) = (chkL n las wt (a : Int) (b : Int) ep pages named, fun _ => none) := hs.deeds
  rw [h2] at h1
  refine ⟨rfl, _, ?_, h1.at2⟩
  rw [chkD_len]
  have := nmL_len nm b
  omega
end
end Go.Proofs.YtjngnigelkgekaaGreat.RStore
namespace Go.Proofs.YtjngnigelkgekaaGreat.Deed
open Go.RowKit Go.Proofs.YtjngnigelkgekaaGreat.Kit Go.Proofs.YtjngnigelkgekaaGreat.Disk Go.Proofs.YtjngnigelkgekaaGreat.Plain Go.Proofs.YtjngnigelkgekaaGreat.Root
open Go.Proofs.YtjngnigelkgekaaGreat.Store (putsW zz64 fmtL)
def putsD (s k : Nat) : List Dd := (List.range k).map (fun i => some (s + i, zz64))
theorem putsD_snoc (s k : Nat) : putsD s (k + 1) = putsD s k ++ [some (s + k, zz64)] := by unfold putsD; rw [List.range_succ, List.map_append]; rfl
theorem putsD_len (s k : Nat) : (putsD s k).length = k := by unfold putsD; rw [List.length_map, List.length_range]
theorem putsD_ok {n s : Nat} : ∀ k, s + k ≤ n → OkD n (putsD s k)
  | 0, _ => OkD.nil
  | k + 1, h => by rw [putsD_snoc]; exact (putsD_ok k (by omega)).write (by omega) rfl
theorem putsD_run {n s : Nat} (L : List Int) (w : Wt) : ∀ k, s + k ≤ n → runD (L, w) (putsD s k) = (L, putsW n s zz64 k w)
  | 0, _ => rfl
  | k + 1, h => by
    rw [putsD_snoc, runD_snoc, putsD_run (n := n) L w k (by omega)]
    show (L, _) = (L, putW n (putsW n s zz64 k w) (s + k) zz64)
    unfold putW
    rw [if_pos ⟨by omega, rfl⟩]
def fmtD (a b : Nat) : List Dd := (putsD 0 2 ++ [none]) ++ ((putsD 2 (a + b) ++ [none]) ++ [some (1, rootF (m32 (a : Int)) (m32 (b : Int)) 1), none])
theorem fmtD_len (a b : Nat) : (fmtD a b).length = a + b + 6 := by
  unfold fmtD
  rw [List.length_append, List.length_append, List.length_append, List.length_append, putsD_len, putsD_len]
  simp; omega
theorem fmtD_run {n a b : Nat} (hr : rightR (a : Int) (b : Int) 1 n = true) (las : List Int) (wt : Wt) : runD (las, wt) (fmtD a b) = (fmtL n las wt a b, fun _ => none) := by
  have h4 := of_decide_eq_true hr
  unfold fmtD
  rw [runD_append, runD_append, runD_append, runD_append, putsD_run (n := n) las wt 2 (by omega)]
  show runD (runD (runD (flushed las (putsW n 0 zz64 2 wt), fun _ => none) (putsD 2 (a + b))) [none]) _ = _
  rw [putsD_run (n := n) _ _ (a + b) (by omega)]
  have hput : putW n (fun _ => none) 1 (rootF (m32 (a : Int)) (m32 (b : Int)) 1) = fun j => if j = 1 then some (rootF (m32 (a : Int)) (m32 (b : Int)) 1) else none := by
    unfold putW; rw [if_pos ⟨by omega, rootF_len _ _ _⟩]
  unfold fmtL
  rw [hput]
  rfl
end Go.Proofs.YtjngnigelkgekaaGreat.Deed
namespace Go.Proofs.YtjngnigelkgekaaGreat.RStore
open Go.RowKit Go.Proofs.YtjngnigelkgekaaGreatW.PrintWords Go.Proofs.YtjngnigelkgekaaGreatW.PrintLast Go.Proofs.YtjngnigelkgekaaGreatW.PrintMore Go.Proofs.YtjngnigelkgekaaGreat.Kit Go.Proofs.YtjngnigelkgekaaGreat.Plain Go.Proofs.YtjngnigelkgekaaGreat.Disk Go.Proofs.YtjngnigelkgekaaGreat.Root
open Go.Proofs.YtjngnigelkgekaaGreat.Deed
open Go.Proofs.YtjngnigelkgekaaGreat.Home (RT RTL)
open Go.Proofs.YtjngnigelkgekaaGreat.Store (zz64 fmtL)
section
variable {w0 W : World} {F : List HP} {gr n d : Nat} {las : List Int} {wt : Wt}
set_option maxHeartbeats 1600000 in
set_option maxRecDepth 100000 in
theorem rformat_bad (h : Sep w0 W (RT gr n las wt d :: F)) (a b : Int) (hr : rightR a b 1 n = false) : Calls Tryz.prog 39 #[.pointer (some ⟨gr, 0, none⟩), .int .i64 a, .int .i64 b] W fun e w' => e = .returned (.int .i64 25) ∧ Sep w0 w' (RT gr n las wt d :: F) := by
  have A0 := Aside0.mk (h.newBlk 80 #[.int .i64 a, .int .i64 b, .int .u32 1]).drew
  have HR := Aside0.mk hr
  clear h hr
  go_enter Tryz.func39, Tryz.ntmps39
  go_wp2_with fail
  refine start_ (n := 5) (S := fun w' => w'.cell? ⟨W.heap.size, 0, none⟩ = some (.int .i64 a) ∧ w'.cell? ⟨W.heap.size, 1, none⟩ = some (.int .i64 b) ∧ w'.cell? ⟨W.heap.size, 2, none⟩ = some (.int .u32 1)) (ds := [3]) #[Z,Z,Z,Z,Z] (by kernel_rfl) rfl rfl ⟨(A0.out.cell 0).trans rfl, (A0.out.cell 1).trans rfl, (A0.out.cell 2).trans rfl⟩ (fun hHeld => ?_)
  refine pu_ 1 13 ?_ #[Z,J,Z,Z,Z] rfl rfl ?_ ?_ ?_ ?_
  rotate_left
  · intro w'
    go_simp
    with_reducible rfl
  rotate_left
  · simp only [aP]
    rfl
  refine ta_ 0 12 ?_ #[J,J,Z,Z,Z] rfl rfl ?_ hHeld ?_ ?_ ?_
  rotate_left
  · rintro w' ⟨s0, s1, s2⟩
    go_simp
    with_reducible rfl
  rotate_left
  · simp only [aP]
    rfl
  refine one_ (i := 2) (N := some 14) #[J,J,J,Z,Z] rfl rfl (by kernel_rfl) (by decide) (fun K hK => ?_)
  refine goes_ Tryz.func78 (by kernel_rfl) rfl #[.pointer (some ⟨gr, 0, none⟩)] (by rfl) rfl rfl (by simp only [List.map_toArray, List.map_cons, List.map_nil]; rfl) ?_
  with_reducible refine (Ref.len_ A0.out.at2).mono ?_
  rintro e w4 ⟨rfl, rfl⟩
  refine ⟨_, rfl, ?_⟩
  refine hK.out _ _ ⟨(A0.out.cell 0).trans rfl, (A0.out.cell 1).trans rfl, (A0.out.cell 2).trans rfl⟩ (fun hHeld => ?_)
  clear hK K
  refine norm_ (a' := ?_) ?_ ?_
  rotate_left
  · show Act.put _ (some 14) _ = _
    simp only [aP]
    rfl
  refine last_ (i := 3) (N := some 15) #[J,J,J,J,Z] rfl rfl (by kernel_rfl) (by decide) (fun K hK => ?_)
  refine goes_ Tryz.func77 (by kernel_rfl) rfl #[.agg #[.int .i64 a, .int .i64 b, .int .u32 1], .int .i64 (n : Int)] (by rfl) rfl rfl (by simp only [List.map_toArray, List.map_cons, List.map_nil]; rfl) ?_
  with_reducible refine (rright_ a b 1 (n : Int) _).mono ?_
  rintro e w5 ⟨rfl, hb5⟩
  refine ⟨_, rfl, ?_⟩
  rw [HR.out]
  have A5 := Aside0.mk (A0.out.below hb5)
  clear hb5
  refine hK.out _ _ ?_
  clear hK K
  refine norm_ (a' := ?_) ?_ ?_
  rotate_left
  · show Act.put _ (some 15) _ = _
    simp only [aP]
    rfl
  refine pu_ 4 16 ?_ #[J,J,J,J,J] rfl rfl ?_ ?_ ?_ ?_
  rotate_left
  · intro w'
    go_simp
    with_reducible rfl
  rotate_left
  · simp only [aP]
    rfl
  refine done_ (by kernel_rfl) ?_
  go_wp2_with fail
  go_ret
  exact ⟨by first | rfl | (simp; done), A5.out.tail⟩
set_option maxHeartbeats 3200000 in
set_option maxRecDepth 100000 in
theorem rformat_ok (h : Sep w0 W (RT gr n las wt d :: F)) (hl : las.length = 64 * n) (hn : n ≤ 160) (hw : ∀ i b, wt i = some b → b.length = 64) (hd : d ≤ 1000000) (a b : Nat) (hr : rightR (a : Int) (b : Int) 1 n = true) : Calls Tryz.prog 39 #[.pointer (some ⟨gr, 0, none⟩), .int .i64 (a : Int), .int .i64 (b : Int)] W fun e w' => e = .returned (.int .i64 0) ∧ Sep w0 w' (RT gr n (fmtL n las wt a b) (fun _ => none) (d + (a + b + 6)) :: F) := by
  have A0 := Aside0.mk (h.newBlk 80 #[.int .i64 (a : Int), .int .i64 (b : Int), .int .u32 1]).drew
  have HR := Aside0.mk hr
  have HS : Aside0 (OkS n (las, wt)) := ⟨hl, hw⟩
  have h1 := of_decide_eq_true hr
  have HAB : Aside0 (a + b + 2 ≤ n ∧ n ≤ 160) := ⟨by omega⟩
  have HD := Aside0.mk hd
  have hws : wrap64 (2 + (a : Int)) = 2 + (a : Int) := IntWalk.wrap64_in _ (by omega)
  obtain ⟨M, hM⟩ : ∃ M, a + b = M := ⟨_, rfl⟩
  obtain ⟨T, hT⟩ : ∃ T, 2 + M = T := ⟨_, rfl⟩
  have hws2 : wrap64 (2 + (a : Int) + (b : Int)) = (T : Int) := by rw [IntWalk.wrap64_in _ (by omega)]; omega
  have HM := Aside0.mk hM
  have HT := Aside0.mk hT
  have hmk : ∀ W : World, (Instr.makeSlice 24 (.int .i64 64) (.int .i64 64)).run Tryz.prog W = .ok (.slice (some ⟨W.heap.size, 0, none⟩) 64 64) (W.alloc (.cells (madeCells #[.int .u8 0] 64) 5)) := make_ (m := 64) (by omega)
  obtain ⟨G0, hG0⟩ : ∃ G, W.heap.size = G := ⟨_, rfl⟩
  rw [hG0] at A0
  clear h hl hr hn hw h1 hM hT hd
  go_enter Tryz.func39, Tryz.ntmps39
  go_wp2_with fail
  obtain ⟨w1, hw1⟩ : ∃ x, W.alloc (.cells #[.int .i64 (a : Int), .int .i64 (b : Int), .int .u32 1] 80) = x := ⟨_, rfl⟩
  rw [hw1] at A0 ⊢
  clear hw1 hG0
  refine start_ (n := 5) (S := fun w' => w'.cell? ⟨G0, 0, none⟩ = some (.int .i64 (a : Int)) ∧ w'.cell? ⟨G0, 1, none⟩ = some (.int .i64 (b : Int)) ∧ w'.cell? ⟨G0, 2, none⟩ = some (.int .u32 1)) (ds := [3]) #[Z,Z,Z,Z,Z] (by kernel_rfl) rfl rfl ⟨(A0.out.cell 0).trans rfl, (A0.out.cell 1).trans rfl, (A0.out.cell 2).trans rfl⟩ (fun hHeld => ?_)
  refine pu_ 1 13 ?_ #[Z,J,Z,Z,Z] rfl rfl ?_ ?_ ?_ ?_
  rotate_left
  · intro w'
    go_simp
    with_reducible rfl
  rotate_left
  · simp only [aP]
    rfl
  refine ta_ 0 12 ?_ #[J,J,Z,Z,Z] rfl rfl ?_ hHeld ?_ ?_ ?_
  rotate_left
  · rintro w' ⟨s0, s1, s2⟩
    go_simp
    with_reducible rfl
  rotate_left
  · simp only [aP]
    rfl
  refine one_ (i := 2) (N := some 14) #[J,J,J,Z,Z] rfl rfl (by kernel_rfl) (by decide) (fun K hK => ?_)
  refine goes_ Tryz.func78 (by kernel_rfl) rfl #[.pointer (some ⟨gr, 0, none⟩)] (by rfl) rfl rfl (by simp only [List.map_toArray, List.map_cons, List.map_nil]; rfl) ?_
  with_reducible refine (Ref.len_ A0.out.at2).mono ?_
  rintro e w4 ⟨rfl, rfl⟩
  refine ⟨_, rfl, ?_⟩
  refine hK.out _ _ ⟨(A0.out.cell 0).trans rfl, (A0.out.cell 1).trans rfl, (A0.out.cell 2).trans rfl⟩ (fun hHeld => ?_)
  clear hK K
  refine norm_ (a' := ?_) ?_ ?_
  rotate_left
  · show Act.put _ (some 14) _ = _
    simp only [aP]
    rfl
  refine last_ (i := 3) (N := some 15) #[J,J,J,J,Z] rfl rfl (by kernel_rfl) (by decide) (fun K hK => ?_)
  refine goes_ Tryz.func77 (by kernel_rfl) rfl #[.agg #[.int .i64 (a : Int), .int .i64 (b : Int), .int .u32 1], .int .i64 (n : Int)] (by rfl) rfl rfl (by simp only [List.map_toArray, List.map_cons, List.map_nil]; rfl) ?_
  with_reducible refine (rright_ (a : Int) (b : Int) 1 (n : Int) _).mono ?_
  rintro e w5 ⟨rfl, hb5⟩
  refine ⟨_, rfl, ?_⟩
  rw [HR.out]
  have A5 := Aside0.mk (A0.out.below hb5)
  clear hb5
  refine hK.out _ _ ?_
  clear hK K
  refine norm_ (a' := ?_) ?_ ?_
  rotate_left
  · show Act.put _ (some 15) _ = _
    simp only [aP]
    rfl
  refine pu_ 4 16 ?_ #[J,J,J,J,J] rfl rfl ?_ ?_ ?_ ?_
  rotate_left
  · intro w'
    go_simp
    with_reducible rfl
  rotate_left
  · simp only [aP]
    rfl
  refine done_ (by kernel_rfl) ?_
  have B5 : Aside0 (Sep w0 w5 (RQ gr n (las, wt) (-1) d [] :: Blk G0 80 #[.int .i64 (a : Int), .int .i64 (b : Int), .int .u32 1] :: F)) := ⟨rq_start A5.out.at2 (by decide)⟩
  have B6 := Aside0.mk (madeB 64 B5.out (by omega)).at2
  have h0n : 0 < n := by have := HAB.out; omega
  have H0N := Aside0.mk h0n
  have H1N : Aside0 (1 < n) := ⟨by have := HAB.out; omega⟩
  clear h0n
  go_wp2_with fail
  refine (qwrite_ (b := zz64) B6.out HS.out OkD.nil (by decide) (by have := HD.out; simp only [List.length_nil]; omega) 0 H0N.out (fun W' hW => by have h2 := hW.rowC.2.2; rw [List.length_replicate] at h2; exact h2)).mono ?_
  rintro e w6 ⟨rfl, hS6⟩
  have B7 := Aside0.mk (madeB 64 hS6.drop2 (by omega)).at2
  clear hS6
  go_wp2_with fail
  refine (qwrite_ (b := zz64) B7.out HS.out (OkD.nil.write H0N.out rfl) (by decide) (by have := HD.out; simp only [List.length_append, List.length_nil, List.length_singleton]; omega) 1 H1N.out (fun W' hW => by have h2 := hW.rowC.2.2; rw [List.length_replicate] at h2; exact h2)).mono ?_
  rintro e w7 ⟨rfl, hS7⟩
  have B8 : Aside0 (Sep w0 w7 (RQ gr n (las, wt) (-1) d (putsD 0 2) :: _)) := ⟨hS7.drop2⟩
  clear hS7
  go_wp2_with fail
  refine (qflush_ B8.out HS.out (putsD_ok 2 (by have := HAB.out; omega)) (by decide) (by have := HD.out; rw [putsD_len]; omega)).mono ?_
  rintro e w8 ⟨rfl, hS8⟩
  have B9 := Aside0.mk hS8
  clear hS8
  have HO9 : Aside0 (OkD n (putsD 0 2 ++ [none])) := ⟨(putsD_ok 2 (by have := HAB.out; omega)).flush⟩
  obtain ⟨D9, hD9⟩ : ∃ D, putsD 0 2 ++ [none] = D := ⟨_, rfl⟩
  have HL9 : Aside0 (D9.length = 3) := ⟨by rw [← hD9]; rfl⟩
  rw [hD9] at B9 HO9
  have HD9 := Aside0.mk hD9
  clear hD9
  have HOK : Aside0 (∀ j, j ≤ M → OkD n (D9 ++ putsD 2 j)) := ⟨fun j hj i x hm => by
    rcases List.mem_append.1 hm with hm | hm
    · exact HO9.out i x hm
    · exact putsD_ok j (by have := HAB.out; have := HM.out; omega) i x hm⟩
  go_wp2_with fail
  go_loopg [8] M (fun k_ p wr => ∃ j i : Nat, p = .int .i64 (i : Int) ∧ i = 2 + j ∧ j + k_ = M ∧ Sep w0 wr (RQ gr n (las, wt) (-1) d (D9 ++ putsD 2 j) :: Blk G0 80 #[.int .i64 (a : Int), .int .i64 (b : Int), .int .u32 1] :: F))
  case atStart => exact ⟨0, 2, rfl, rfl, by omega, by show Sep w0 _ (RQ gr n (las, wt) (-1) d (D9 ++ []) :: _); rw [List.append_nil]; exact B9.out⟩
  case round =>
    obtain ⟨j, i, rfl, hij, hjk, hS⟩ := hrel
    obtain ⟨w10, rfl⟩ : ∃ x, x = wr := ⟨_, rfl⟩
    have AK := Aside0.mk (And.intro hij hjk)
    have AS := Aside0.mk hS
    clear hS
    by_cases cj : j < M
    case pos =>
      have hil : (i : Int) < (T : Int) := by have := HT.out; omega
      have HIN : Aside0 (i < n) := ⟨by have := HAB.out; have := HM.out; omega⟩
      have hw1j : wrap64 ((i : Int) + 1) = (i : Int) + 1 := by have := HAB.out; have := HIN.out; exact IntWalk.wrap64_in _ (by omega)
      have B10 := Aside0.mk (madeB 64 AS.out (by omega)).at2
      have HLE : Aside0 (d + (D9 ++ putsD 2 j).length ≤ 2000000) := ⟨by rw [List.length_append, putsD_len, HL9.out]; have := HD.out; have := HAB.out; have := HM.out; omega⟩
      have HPS : Aside0 (D9 ++ putsD 2 (j + 1) = (D9 ++ putsD 2 j) ++ [some (i, zz64)]) := ⟨by rw [putsD_snoc, hij, List.append_assoc]⟩
      have HJM : Aside0 (j ≤ M) := ⟨by omega⟩
      clear hjk cj hij
      go_wp2_with fail
      refine (qwrite_ (b := zz64) B10.out HS.out (HOK.out j HJM.out) (by decide) HLE.out i HIN.out (fun W' hW => by have h2 := hW.rowC.2.2; rw [List.length_replicate] at h2; exact h2)).mono ?_
      rintro e w11 ⟨rfl, hS11⟩
      have B11 := Aside0.mk hS11.drop2
      clear hS11
      go_wp2_with fail
      go_roundg (gk - 1)
      case measure => have := AK.out; have := HT.out; omega
      case rel => exact ⟨j + 1, i + 1, by go_num, by have := AK.out; omega, by have := AK.out; have := HT.out; omega, by rw [HPS.out]; exact B11.out⟩
    case neg =>
    have hil : ¬ (i : Int) < (T : Int) := by have := HT.out; omega
    obtain rfl : j = M := by omega
    have HO10 : Aside0 (OkD n (D9 ++ putsD 2 j)) := ⟨HOK.out j (Nat.le_refl _)⟩
    have HL10 : Aside0 ((D9 ++ putsD 2 j).length ≤ 163) := ⟨by rw [List.length_append, putsD_len, HL9.out]; have := HAB.out; have := HM.out; omega⟩
    obtain ⟨D10, hD10⟩ : ∃ D, D9 ++ putsD 2 j = D := ⟨_, rfl⟩
    rw [hD10] at AS HO10 HL10
    have HD10 := Aside0.mk hD10
    clear hjk cj hij hD10 HOK
    go_wp2_with fail
    refine (qflush_ AS.out HS.out HO10.out (by decide) (by have := HD.out; have := HL10.out; omega)).mono ?_
    rintro e w12 ⟨rfl, hS12⟩
    have B12 := Aside0.mk hS12
    clear hS12
    have z0 := (B12.out.at2.cell 0).trans rfl
    have z1 := (B12.out.at2.cell 1).trans rfl
    have z2 := (B12.out.at2.cell 2).trans rfl
    go_wp2_with fail
    refine (rroot_ (a : Int) (b : Int) 1 (by decide) _).mono ?_
    rintro e w13 ⟨v13, rfl, hS13⟩
    obtain ⟨R, hR⟩ : ∃ R, rootF (m32 (a : Int)) (m32 (b : Int)) 1 = R := ⟨_, rfl⟩
    have HRL : Aside0 (R.length = 64) := ⟨by rw [← hR]; exact rootF_len _ _ _⟩
    rw [hR] at hS13
    have HRR := Aside0.mk hR
    obtain ⟨A13, c13, rfl⟩ := hS13.rowN HRL.out
    have B13 := Aside0.mk (B12.out.lift1 hS13).at2
    clear hS13 hR z0 z1 z2
    go_wp2_with fail
    refine (qwrite_ (b := R) B13.out HS.out HO10.out.flush (by decide) (by have := HD.out; have := HL10.out; rw [List.length_append, List.length_singleton]; omega) 1 H1N.out (fun W' hW => hW.rowC')).mono ?_
    rintro e w14 ⟨rfl, hS14⟩
    have B14 := Aside0.mk hS14.drop2
    clear hS14
    go_wp2_with fail
    refine (qflush_ B14.out HS.out (HO10.out.flush.write H1N.out HRL.out) (by decide) (by have := HD.out; have := HL10.out; rw [List.length_append, List.length_append, List.length_singleton, List.length_singleton]; omega)).mono ?_
    rintro e w15 ⟨rfl, hS15⟩
    have HFD : Aside0 (((D10 ++ [none]) ++ [some (1, R)]) ++ [none] = fmtD a b) := ⟨by
      unfold fmtD
      rw [← HD10.out, ← HD9.out, ← HRR.out, HM.out]
      simp⟩
    rw [HFD.out] at hS15
    have hfin := rq_all hS15.drop2
    rw [fmtD_run HR.out, fmtD_len] at hfin
    have B15 := Aside0.mk hfin
    clear hS15 hfin
    go_wp2_with fail
    go_ret
    exact ⟨by first | rfl | (simp; done), B15.out⟩
end
end Go.Proofs.YtjngnigelkgekaaGreat.RStore
namespace Go.Proofs.YtjngnigelkgekaaGreat.RStore
open Go.RowKit Go.Proofs.YtjngnigelkgekaaGreatW.PrintWords Go.Proofs.YtjngnigelkgekaaGreatW.PrintLast Go.Proofs.YtjngnigelkgekaaGreatW.PrintMore Go.Proofs.YtjngnigelkgekaaGreat.Kit Go.Proofs.YtjngnigelkgekaaGreat.Plain Go.Proofs.YtjngnigelkgekaaGreat.Disk Go.Proofs.YtjngnigelkgekaaGreat.Root
open Go.Proofs.YtjngnigelkgekaaGreat.Store (fmtL fmt_len format_bad format_ok putsW_bytes putsW_len zz64 no_bytes)
open Go.Proofs.YtjngnigelkgekaaGreat.Home (RT RTL)
open Go.Proofs.YtjngnigelkgekaaGreat.Deed
def fmtE (n : Nat) (log pages : Int) : Int := if rightR log pages 1 n = true then 0 else 25
def fmtS (n : Nat) (las : List Int) (wt : Wt) (log pages : Int) : DS := if rightR log pages 1 n = true then (fmtL n las wt log.toNat pages.toNat, fun _ => none) else (las, wt)
theorem zz_bytes : Bytes zz64 := fun x hx => by
  have := List.eq_of_mem_replicate hx
  omega
theorem Dk.fmt {n : Nat} {las : List Int} {wt : Wt} (h : Dk n las wt) (log pages : Int) : Dk n (fmtS n las wt log pages).1 (fmtS n las wt log pages).2 := by
  unfold fmtS
  split
  · refine ⟨fmt_len h.len h.wl, Ref.none_len, ?_, no_bytes⟩
    show Bytes (fmtL n las wt log.toNat pages.toNat)
    unfold fmtL
    exact Redo.flushed_bytes (Redo.flushed_bytes (Redo.flushed_bytes h.byt (putsW_bytes zz_bytes 2 h.wb)) (putsW_bytes zz_bytes _ no_bytes)) (putW_bytes no_bytes (rootF_bytes _ _ _))
  · exact h
section
variable {w0 W : World} {F : List HP} {g gr n d : Nat} {las : List Int} {wt : Wt}
theorem sformat_ (h : Sep w0 W (Dsk g las wt :: F)) (hd : Dk n las wt) (hn : n ≤ 160) (log pages : Int) :
    Calls Tryz.prog 27 #[.pointer (some ⟨g, 0, none⟩), .int .i64 log, .int .i64 pages] W fun e w' => e = .returned (.int .i64 (fmtE n log pages)) ∧ Sep w0 w' (Dsk g (fmtS n las wt log pages).1 (fmtS n las wt log pages).2 :: F) := by
  unfold fmtE fmtS
  cases hr : rightR log pages 1 n with
  | false =>
    rw [if_neg (by decide), if_neg (by decide)]
    exact format_bad h hd.len log pages hr
  | true =>
    have h1 := of_decide_eq_true hr
    obtain ⟨a, rfl⟩ := Int.eq_ofNat_of_zero_le (show 0 ≤ log by omega)
    obtain ⟨b, rfl⟩ := Int.eq_ofNat_of_zero_le (show 0 ≤ pages by omega)
    rw [if_pos rfl, if_pos rfl, Int.toNat_natCast, Int.toNat_natCast]
    exact format_ok h hd.len hn hd.wl a b hr
theorem rformat_ (h : Sep w0 W (RT gr n las wt d :: F)) (hk : Dk n las wt) (hn : n ≤ 160) (hd : d ≤ 1000000) (log pages : Int) :
    Calls Tryz.prog 39 #[.pointer (some ⟨gr, 0, none⟩), .int .i64 log, .int .i64 pages] W fun e w' => e = .returned (.int .i64 (fmtE n log pages)) ∧ ∃ d' : Nat, d' ≤ d + 200 ∧ Sep w0 w' (RT gr n (fmtS n las wt log pages).1 (fmtS n las wt log pages).2 d' :: F) := by
  unfold fmtE fmtS
  cases hr : rightR log pages 1 n with
  | false =>
    rw [if_neg (by decide), if_neg (by decide)]
    exact (rformat_bad h log pages hr).mono (by rintro e w' ⟨rfl, hS⟩; exact ⟨rfl, d, by omega, hS⟩)
  | true =>
    have h1 := of_decide_eq_true hr
    obtain ⟨a, rfl⟩ := Int.eq_ofNat_of_zero_le (show 0 ≤ log by omega)
    obtain ⟨b, rfl⟩ := Int.eq_ofNat_of_zero_le (show 0 ≤ pages by omega)
    rw [if_pos rfl, if_pos rfl, Int.toNat_natCast, Int.toNat_natCast]
    exact (rformat_ok h hk.len hn hk.wl hd a b hr).mono (by rintro e w' ⟨rfl, hS⟩; exact ⟨rfl, _, by omega, hS⟩)
end
end Go.Proofs.YtjngnigelkgekaaGreat.RStore
namespace Go.Proofs.YtjngnigelkgekaaGreat.RStore
open Go.RowKit Go.Proofs.YtjngnigelkgekaaGreatW.PrintWords Go.Proofs.YtjngnigelkgekaaGreatW.PrintLast Go.Proofs.YtjngnigelkgekaaGreatW.PrintMore Go.Proofs.YtjngnigelkgekaaGreat.Kit Go.Proofs.YtjngnigelkgekaaGreat.Plain Go.Proofs.YtjngnigelkgekaaGreat.Disk Go.Proofs.YtjngnigelkgekaaGreat.Root
open Go.Proofs.YtjngnigelkgekaaGreat.Delta (Chg KC deltaF rightF)
open Go.Proofs.YtjngnigelkgekaaGreat.Store (KP StB applyF insAll commit_bad commit_full commit_ok fitsF)
open Go.Proofs.YtjngnigelkgekaaGreat.Home (RT RTL)
open Go.Proofs.YtjngnigelkgekaaGreat.Redo (appR sizeF)
open Go.Proofs.YtjngnigelkgekaaGreat.Frame (frameF)
structure Cm where
  pages : List (List Int)
  named : List Int
  nm : List Bool
  used : Nat
  seq : Nat
  wt : Wt
def cmE (a b : Int) (used : Nat) (l : List Chg) : Int := if rightF l b = true then (if fitsF a used l.length = true then 0 else 24) else 1
def cmR (n : Nat) (a b ep : Int) (las : List Int) (c : Cm) (l : List Chg) : Cm :=
  if rightF l b = true then (if fitsF a c.used l.length = true then ⟨applyF c.pages l, insAll c.named l, nmF c.nm l, c.used + (18 + 66 * l.length), c.seq + 1, appR n las c.wt a b ep (c.used : Int) (frameF ep (c.seq : Int) (deltaF l))⟩ else c) else c
section
variable {n a b : Nat} {ep : Int} {las : List Int} {c : Cm}
theorem St.cm {l : List Chg} (h : St n a b ep c.pages c.named c.nm c.used c.seq las c.wt) (hB : ∀ x ∈ l, Bytes x.2) : St n a b ep (cmR n a b ep las c l).pages (cmR n a b ep las c l).named (cmR n a b ep las c l).nm (cmR n a b ep las c l).used (cmR n a b ep las c l).seq las (cmR n a b ep las c l).wt ∧ (cmR n a b ep las c l).seq ≤ c.seq + 1 := by
  unfold cmR
  split
  · rename_i hr
    split
    · rename_i hf
      exact ⟨h.commit hr hf hB, Nat.le_refl _⟩
    · exact ⟨h, Nat.le_succ _⟩
  · exact ⟨h, Nat.le_succ _⟩
end
section
variable {w0 W : World} {F : List HP} {g gr gs gx m n a b : Nat} {ep : Int} {las : List Int} {c : Cm}
theorem scommit_ {A2 : Option Addr} {n2 c2 : Nat} {l : List Chg} (h : Sep w0 W (StB gs g m (a : Int) (b : Int) ep c.pages c.named c.used c.seq :: Dsk g las c.wt :: F)) (hs : St n a b ep c.pages c.named c.nm c.used c.seq las c.wt) (hq : c.seq ≤ 1000) (hC : ∀ W', Sep w0 W' F → KC.C W' A2 n2 l) :
    Calls Tryz.prog 32 #[.pointer (some ⟨gs, 0, none⟩), .slice A2 n2 c2] W fun e w' => e = .returned (.int .i64 (cmE a b c.used l)) ∧ Sep w0 w' (StB gs g m (a : Int) (b : Int) ep (cmR n a b ep las c l).pages (cmR n a b ep las c l).named (cmR n a b ep las c l).used (cmR n a b ep las c l).seq :: Dsk g las (cmR n a b ep las c l).wt :: F) := by
  have hC0 := hC W h.tail.tail
  obtain rfl : l.length = n2 := hC0.1
  have hnu := hs.nums
  unfold cmE cmR
  cases hr : rightF l (b : Int) with
  | false =>
    rw [if_neg (by decide), if_neg (by decide)]
    exact commit_bad h hC0 hr
  | true =>
    rw [if_pos rfl, if_pos rfl]
    cases hf : fitsF (a : Int) c.used l.length with
    | false =>
      rw [if_neg (by decide), if_neg (by decide)]
      exact commit_full h hC0 hr hs.us hf
    | true =>
      rw [if_pos rfl, if_pos rfl]
      exact commit_ok h hs.dk.len hs.n160 hs.dk.wl hC hr hs.us hf ⟨by omega, hs.e32⟩ (by omega) (by rw [hs.pl]; omega) (fun p hp => by have := (hs.p64 p hp).1; omega) (by have := hs.nl; omega)
theorem rcommit_ {d : Nat} {A2 : Option Addr} {n2 c2 : Nat} {l : List Chg} (h : Sep w0 W (RStB gx gr (a : Int) (b : Int) ep c.pages c.nm c.used c.seq :: RT gr n las c.wt d :: F)) (hs : St n a b ep c.pages c.named c.nm c.used c.seq las c.wt) (hq : c.seq ≤ 1000) (hd : d ≤ 900000) (hC : ∀ W', Sep w0 W' F → KC.C W' A2 n2 l) :
    Calls Tryz.prog 43 #[.pointer (some ⟨gx, 0, none⟩), .slice A2 n2 c2] W fun e w' => e = .returned (.int .i64 (cmE a b c.used l)) ∧ ∃ d' : Nat, d' ≤ d + 64 ∧ Sep w0 w' (RStB gx gr (a : Int) (b : Int) ep (cmR n a b ep las c l).pages (cmR n a b ep las c l).nm (cmR n a b ep las c l).used (cmR n a b ep las c l).seq :: RT gr n las (cmR n a b ep las c l).wt d' :: F) := by
  have hC0 := hC W h.tail.tail
  obtain rfl : l.length = n2 := hC0.1
  have hnu := hs.nums
  unfold cmE cmR
  cases hr : rightF l (b : Int) with
  | false =>
    rw [if_neg (by decide), if_neg (by decide)]
    exact (rcommit_bad h hC0 hr).mono (by rintro e w' ⟨rfl, hS⟩; exact ⟨rfl, d, by omega, hS⟩)
  | true =>
    rw [if_pos rfl, if_pos rfl]
    cases hf : fitsF (a : Int) c.used l.length with
    | false =>
      rw [if_neg (by decide), if_neg (by decide)]
      exact (rcommit_full h hC0 hr hs.us hf).mono (by rintro e w' ⟨rfl, hS⟩; exact ⟨rfl, d, by omega, hS⟩)
    | true =>
      rw [if_pos rfl, if_pos rfl]
      exact rcommit_ok h hs.dk.len hs.n160 hd hs.dk.wl hC hr hs.us hf ⟨by omega, hs.e32⟩ (by omega) (by rw [hs.pl])
end
end Go.Proofs.YtjngnigelkgekaaGreat.RStore
namespace Go.Proofs.YtjngnigelkgekaaGreat.Kit
end Go.Proofs.YtjngnigelkgekaaGreat.Kit
namespace Go.Proofs.YtjngnigelkgekaaGreat.Kit
end Go.Proofs.YtjngnigelkgekaaGreat.Kit
namespace Go.Proofs.YtjngnigelkgekaaGreat.RStore
open Go.ChangeShapes Go.WideShapes Go.ChangeAt Go.RowKit Go.Proofs.YtjngnigelkgekaaGreatW.PrintWords Go.Proofs.YtjngnigelkgekaaGreat.Kit Go.Proofs.YtjngnigelkgekaaGreat.Plain
open Go.Proofs.YtjngnigelkgekaaGreat.Delta (Chg KC)
abbrev Ask := Int × Int × List Int × List Chg
abbrev KA : Kd Ask := Kd.pair (Kd.int .i64) (Kd.pair (Kd.int .i64) (Kd.pair (Kd.slice 3 (Kd.int .i64)) (Kd.slice 75 KC)))
theorem askE_ {W : World} {A : Option Addr} {n : Nat} {xs : List Ask} (h : KA.C W A n xs) {i : Nat} (hi : i < n) :
    ∃ (hx : i < xs.length) (a : Addr) (B : Option Addr) (cB : Nat) (C : Option Addr) (cC : Nat), A = some a ∧ W.cell? (a.add (i * 4)) = some (.int .i64 (xs[i]).1) ∧ W.cell? ⟨(a.add (i * 4)).block, (a.add (i * 4)).off + 1, none⟩ = some (.int .i64 (xs[i]).2.1) ∧
      W.cell? ⟨(a.add (i * 4)).block, (a.add (i * 4)).off + 2, none⟩ = some (.slice B (xs[i]).2.2.1.length cB) ∧ W.cell? ⟨(a.add (i * 4)).block, (a.add (i * 4)).off + 3, none⟩ = some (.slice C (xs[i]).2.2.2.length cC) ∧
      (xs[i]).2.2.1.length ≤ cB ∧ (Kd.int .i64).C W B (xs[i]).2.2.1.length (xs[i]).2.2.1 ∧ (xs[i]).2.2.2.length ≤ cC ∧ KC.C W C (xs[i]).2.2.2.length (xs[i]).2.2.2 := by
  obtain ⟨hx, a, cs, e, ⟨c0, r0, e0, h0, c1, r1, e1, h1, c2, c3, e2, ⟨B, cB, h2, b1, b2⟩, C, cC, h3, b3, b4⟩, hc0, hcj⟩ := elem_ h hi
  have h0 : c0 = [.int .i64 (xs[i]).1] := h0
  have h1 : c1 = [.int .i64 (xs[i]).2.1] := h1
  subst h0 h1 h2 h3 e2 e1 e0
  exact ⟨hx, a, B, cB, C, cC, e, hc0 _ rfl, hcj 1 _ (by decide) rfl, hcj 2 _ (by decide) rfl, hcj 3 _ (by decide) rfl, b1, b2, b3, b4⟩
end Go.Proofs.YtjngnigelkgekaaGreat.RStore
namespace Go.Proofs.YtjngnigelkgekaaGreat.RStore
open Go.RowKit Go.Proofs.YtjngnigelkgekaaGreatW.PrintWords Go.Proofs.YtjngnigelkgekaaGreatW.PrintLast Go.Proofs.YtjngnigelkgekaaGreatW.PrintMore Go.Proofs.YtjngnigelkgekaaGreat.Kit Go.Proofs.YtjngnigelkgekaaGreat.Plain Go.Proofs.YtjngnigelkgekaaGreat.Disk Go.Proofs.YtjngnigelkgekaaGreat.Root
open Go.Proofs.YtjngnigelkgekaaGreat.Delta (Chg KC deltaF rightF)
open Go.Proofs.YtjngnigelkgekaaGreat.Store (KP StB check_full sync_)
open Go.Proofs.YtjngnigelkgekaaGreat.Home (RT RTL pair18_ pair18_none)
open Go.Proofs.YtjngnigelkgekaaGreat.Redo (TpX tpx_shut changesX_)
def Two (w wr : World) (g gr gs gx gt n : Nat) (A1 : Option Addr) (n1 c1 : Nat) (i : Nat) : Prop := ∃ (m d a b : Nat) (ep : Int) (las : List Int) (c : Cm), St n a b ep c.pages c.named c.nm c.used c.seq las c.wt ∧ c.seq ≤ i ∧ d ≤ 1000 + 200 * i ∧
  Sep w wr [Dsk g las c.wt, RT gr n las c.wt d, StB gs g m (a : Int) (b : Int) ep c.pages c.named c.used c.seq, RStB gx gr (a : Int) (b : Int) ep c.pages c.nm c.used c.seq, TpX gt A1 n1 c1]
def OutP (w wx : World) (g gr gt n : Nat) (A1 : Option Addr) (n1 c1 : Nat) (i : Nat) (v15 v17 : Value) : Prop :=
  (v15 = .pointer none ∧ ∃ las wt d, Dk n las wt ∧ Sep w wx [Dsk g las wt, RT gr n las wt d]) ∨ ∃ gs gx, v15 = .pointer (some ⟨gs, 0, none⟩) ∧ v17 = .pointer (some ⟨gx, 0, none⟩) ∧ Two w wx g gr gs gx gt n A1 n1 c1 i
theorem rstb_b {w0 W : World} {F : List HP} {gx gr : Nat} {a b ep : Int} {pages : List (List Int)} {nm : List Bool} {used seq : Nat} (h : Sep w0 W (RStB gx gr a b ep pages nm used seq :: F)) : W.cell? ⟨gx, 2, none⟩ = some (.int .i64 b) := by
  obtain ⟨_, gp, cp, gn, cn, hs⟩ := rstb_open h
  exact (hs.cell 2).trans rfl
set_option maxHeartbeats 12800000 in
set_option maxRecDepth 100000 in
theorem play18_ {A0 A1 A2 : Option Addr} {n0 c0 n1 c1 n2 c2 : Nat} {im tp : List Int} {asks : List Ask} {log pages : Int} {fmt : Bool} {w : World} (h0 : U8.C w A0 n0 im) (hc0 : n0 ≤ c0) (hb0 : Bytes im) (h1 : I64.C w A1 n1 tp) (h2 : KA.C w A2 n2 asks) (hB : ∀ x ∈ asks, ∀ c ∈ x.2.2.2, Bytes c.2) :
    Calls Tryz.prog 11 #[.slice A0 n0 c0, .int .i64 log, .int .i64 pages, .bool fmt, .slice A1 n1 c1, .slice A2 n2 c2] w fun e w' => e = .returned (.bool true) ∧ Below w.heap.size w w' := by
  have hn2 : n2 ≤ 9223372036854775807 := h2.2.1
  have H0 := Aside0.mk (And.intro h0 hb0)
  have H1 := Aside0.mk h1
  have H2 := Aside0.mk (And.intro h2 hB)
  by_cases hb : n0 = 0 ∨ n0 % 64 ≠ 0 ∨ 10240 < n0
  case pos =>
    clear h0 h1 h2 hB hb0
    go_enter Tryz.func11, Tryz.ntmps11
    go_wp2_with fail
    refine (pair18_none H0.out.1 hb).mono ?_
    rintro e w1 ⟨rfl, rfl⟩
    go_wp2_with fail
    go_ret
    exact ⟨by first | rfl | (simp; done), Below.refl _ _⟩
  case neg =>
  obtain ⟨n, hn0⟩ : ∃ n, n0 = 64 * n := ⟨n0 / 64, by omega⟩
  have HNU : Aside0 (1 ≤ n ∧ n ≤ 160 ∧ n0 = 64 * n ∧ n0 ≤ c0) := ⟨by omega⟩
  have HDK : Aside0 (Dk n im (fun _ => none)) := ⟨⟨h0.1.trans hn0, Ref.none_len, hb0, Store.no_bytes⟩⟩
  clear h0 h1 h2 hB hb0 hb hn0 hc0
  go_enter Tryz.func11, Tryz.ntmps11
  go_wp2_with fail
  refine (pair18_ H0.out.1 HNU.out.2.2.2 HNU.out.2.2.1 HNU.out.1 HNU.out.2.1).mono ?_
  rintro e w1 ⟨g, gr, rfl, hS1⟩
  have B1 := Aside0.mk hS1
  clear hS1
  go_upto_region 4 with fail
  go_cut [57] from 24 (fun v wx => v = .bool false ∧ ∃ (las : List Int) (wt : Wt) (d : Nat), Dk n las wt ∧ d ≤ 300 ∧ Sep w wx [Dsk g las wt, RT gr n las wt d])
  case first =>
    cases fmt with
    | false =>
      go_wp2_with fail
      refine (Ref.alike18_ B1.out HDK.out.len).mono ?_
      rintro e w4 ⟨rfl, hS4⟩
      have B4 := Aside0.mk hS4
      clear hS4
      go_wp2_with fail
      go_meet
      case rel => exact ⟨rfl, im, _, 0, HDK.out, by omega, B4.out⟩
    | true =>
      go_wp2_with fail
      refine (sformat_ B1.out HDK.out HNU.out.2.1 log pages).mono ?_
      rintro e w2 ⟨rfl, hS2⟩
      obtain ⟨S2, hS2e⟩ : ∃ S, fmtS n im (fun _ => none) log pages = S := ⟨_, rfl⟩
      have HD2 := Aside0.mk (HDK.out.fmt log pages)
      rw [hS2e] at hS2 HD2
      have HSE := Aside0.mk hS2e
      have B2 := Aside0.mk hS2.at2
      obtain ⟨er, her⟩ : ∃ e, fmtE n log pages = e := ⟨_, rfl⟩
      have HER := Aside0.mk her
      rw [her]
      clear hS2 hS2e her
      go_wp2_with fail
      refine (rformat_ B2.out HDK.out HNU.out.2.1 (by decide) log pages).mono ?_
      rintro e w3 ⟨rfl, d, hd, hS3⟩
      rw [HSE.out] at hS3
      rw [HER.out]
      have B3 := Aside0.mk hS3.at2
      have HD := Aside0.mk hd
      clear hS3 hd
      go_wp2_with fail
      refine (Ref.alike18_ B3.out HD2.out.len).mono ?_
      rintro e w4 ⟨rfl, hS4⟩
      have B4 := Aside0.mk hS4
      clear hS4
      go_wp2_with fail
      go_meet
      case rel => exact ⟨rfl, S2.1, S2.2, d, HD2.out, by have := HD.out; omega, B4.out⟩
  case rest =>
  obtain ⟨rfl, las0, wt0, d0, hD0, hd0, hS0⟩ := hcut
  have HD0 := Aside0.mk hD0
  have HDD := Aside0.mk hd0
  have B5 := Aside0.mk hS0
  clear hD0 hd0 hS0 B1 HDK
  rcases open_cases HD0.out HNU.out.2.1 with ⟨er, hno⟩ | ⟨a, b, E, ha, hE⟩
  case inl =>
    have HNO := Aside0.mk hno
    clear hno
    go_wp2_with fail
    refine (sopen_nil B5.out HD0.out HNU.out.2.1 HNO.out).mono ?_
    rintro e w6 ⟨rfl, hS6⟩
    have B6 := Aside0.mk hS6.at2
    clear hS6
    go_wp2_with fail
    refine (ropen_nil B6.out HD0.out HNO.out).mono ?_
    rintro e w7 ⟨rfl, hS7⟩
    have B7 := Aside0.mk hS7.at2
    clear hS7
    go_wp2_with fail
    refine (Ref.alike18_ B7.out HD0.out.len).mono ?_
    rintro e w8 ⟨rfl, hS8⟩
    have B8 := Aside0.mk hS8
    clear hS8
    obtain ⟨gt, hgt⟩ : ∃ q, w8.heap.size = q := ⟨_, rfl⟩
    have B9 := Aside0.mk (B8.out.newBlk 56 #[.slice A1 n1 c1, .int .i64 0])
    rw [hgt] at B9
    go_wp2_with fail
    clear hgt
    go_loopg [15, 20] 1 (fun _ v p wr => v = .pointer none ∧ p = .int .i64 0 ∧ Sep w wr [Blk gt 56 #[.slice A1 n1 c1, .int .i64 0], Dsk g las0 wt0, RT gr n las0 wt0 d0])
    case atStart => exact ⟨rfl, rfl, B9.out⟩
    case round =>
      obtain ⟨rfl, rfl, hS⟩ := hrel
      have AS := Aside0.mk hS
      clear hS
      by_cases hz : 0 < n2
      · have hzi : (0 : Int) < (n2 : Int) := by omega
        go_wp2_with fail
        go_ret
        exact ⟨by first | rfl | (simp; done), AS.out.toBelow⟩
      · have hzi : ¬ (0 : Int) < (n2 : Int) := by omega
        go_wp2_with fail
        go_ret
        exact ⟨by first | rfl | (simp; done), AS.out.toBelow⟩
  case inr =>
  have HA := Aside0.mk ha
  have HE := Aside0.mk hE
  have HST := Aside0.mk (ha.opened hE)
  clear ha hE
  go_wp2_with fail
  refine (sopen_ok B5.out HA.out HE.out).mono ?_
  rintro e w6 ⟨gs, m, rfl, hS6⟩
  have B6 := Aside0.mk (Sep.pull [_, _] hS6)
  clear hS6
  go_wp2_with fail
  refine (ropen_all B6.out HA.out HE.out (by have := HDD.out; omega)).mono ?_
  rintro e w7 ⟨gx, rfl, d7, hd7, hS7⟩
  have HD7 := Aside0.mk hd7
  obtain ⟨ps, hps⟩ : ∃ p, shownG n a b E las0 wt0 = p := ⟨_, rfl⟩
  obtain ⟨L7, hL7⟩ : ∃ p, openG n a b E las0 wt0 = p := ⟨_, rfl⟩
  obtain ⟨nm7, hnm7⟩ : ∃ p, List.replicate b false = p := ⟨_, rfl⟩
  obtain ⟨ep, hep⟩ : ∃ p, E + 1 = p := ⟨_, rfl⟩
  rw [hps, hL7, hnm7, hep] at HST hS7
  have B7 : Aside0 (Sep w w7 [Dsk g L7 (fun _ => none), RT gr n L7 (fun _ => none) d7, StB gs g m (a : Int) (b : Int) ep ps [] 0 0, RStB gx gr (a : Int) (b : Int) ep ps nm7 0 0]) := ⟨Sep.push [_, _] (Sep.pull [_, _, _] (Sep.pull [_, _, _] (Sep.pull [_] hS7)))⟩
  clear hS7 hd7 hps hL7 hnm7 hep
  go_wp2_with fail
  refine (Ref.alike18_ B7.out HST.out.dk.len).mono ?_
  rintro e w8 ⟨rfl, hS8⟩
  have B8 := Aside0.mk hS8
  clear hS8
  obtain ⟨gt, hgt⟩ : ∃ q, w8.heap.size = q := ⟨_, rfl⟩
  have B9 := Aside0.mk (tpx_shut (Int.le_refl 0) (B8.out.newBlk 56 #[.slice A1 n1 c1, .int .i64 0]))
  rw [hgt] at B9
  go_wp2_with fail
  clear hgt
  have C9 : Aside0 (Two w _ g gr gs gx gt n A1 n1 c1 0) := ⟨m, d7, a, b, ep, L7, ⟨ps, [], nm7, 0, 0, fun _ => none⟩, HST.out, Nat.le_refl _, by have := HDD.out; have := HD7.out; omega, Sep.push [_, _, _, _] B9.out⟩
  clear B9 B8 B7 B6 B5 HST HD7 HDD HD0 HA HE
  go_loopg [15, 16, 17, 18, 20] 40 (fun k_ v15 v16 v17 v18 p wr => ∃ (i gs gx : Nat), v15 = .pointer (some ⟨gs, 0, none⟩) ∧ v17 = .pointer (some ⟨gx, 0, none⟩) ∧ p = .int .i64 (i : Int) ∧ i + k_ = 40 ∧ Two w wr g gr gs gx gt n A1 n1 c1 i)
  case atStart => exact ⟨0, gs, gx, rfl, rfl, rfl, by omega, C9.out⟩
  case round =>
    obtain ⟨i, gs, gx, rfl, rfl, rfl, hik, m, d, a, b, ep, las, c, hst, hsq, hd, hS⟩ := hrel
    obtain ⟨w10, rfl⟩ : ∃ x, x = wr := ⟨_, rfl⟩
    have AK := Aside0.mk hik
    have AS := Aside0.mk hS
    have HST := Aside0.mk hst
    have HSQ := Aside0.mk (And.intro hsq hd)
    clear hS hst hsq hd C9
    by_cases hj : i < n2 ∧ i < 40
    case neg =>
      by_cases hj1 : i < n2
      · obtain rfl : i = 40 := by omega
        have hji : ((40 : Nat) : Int) < (n2 : Int) := by omega
        clear hik hj
        go_wp2_with fail
        go_ret
        exact ⟨by first | rfl | (simp; done), AS.out.toBelow⟩
      · have hji : ¬ (i : Int) < (n2 : Int) := by omega
        clear hik hj
        go_wp2_with fail
        go_ret
        exact ⟨by first | rfl | (simp; done), AS.out.toBelow⟩
    case pos =>
    obtain ⟨hj1, hj2⟩ := hj
    have hji : (i : Int) < (n2 : Int) := by omega
    have hj4 : (i : Int) < 40 := by omega
    obtain ⟨hx, ad, B, cB, C, cC, rfl, e0, e1, e2, e3, e4, e5, e6, e7⟩ := askE_ H2.out.1 hj1
    replace e0 := cell_later AS.out.toBelow e0
    replace e1 := cell_later AS.out.toBelow e1
    replace e2 := cell_later AS.out.toBelow e2
    replace e3 := cell_later AS.out.toBelow e3
    have hBy := H2.out.2 _ (List.getElem_mem hx)
    obtain ⟨kk, xx, cu, raw, hxe⟩ : ∃ kk xx cu raw, asks[i] = (kk, xx, cu, raw) := ⟨_, _, _, _, rfl⟩
    rw [hxe] at e0 e1 e2 e3 e4 e5 e6 e7 hBy
    obtain ⟨nB, hnB⟩ : ∃ q, cu.length = q := ⟨_, rfl⟩
    obtain ⟨nC, hnC⟩ : ∃ q, raw.length = q := ⟨_, rfl⟩
    replace e0 : w10.cell? (ad.add (i * 4)) = some (.int .i64 kk) := e0
    replace e1 : w10.cell? ⟨(ad.add (i * 4)).block, (ad.add (i * 4)).off + 1, none⟩ = some (.int .i64 xx) := e1
    replace e2 : w10.cell? ⟨(ad.add (i * 4)).block, (ad.add (i * 4)).off + 2, none⟩ = some (.slice B nB cB) := by rw [← hnB]; exact e2
    replace e3 : w10.cell? ⟨(ad.add (i * 4)).block, (ad.add (i * 4)).off + 3, none⟩ = some (.slice C nC cC) := by rw [← hnC]; exact e3
    have HCU : Aside0 (I64.C w B nB cu) := ⟨by rw [← hnB]; exact e5⟩
    have HRW : Aside0 (KC.C w C nC raw ∧ ∀ c ∈ raw, Bytes c.2) := ⟨by rw [← hnC]; exact ⟨e7, hBy⟩⟩
    clear e4 e5 e6 e7 hxe hBy hnB hnC hx
    obtain ⟨G6, hG6⟩ : ∃ x, w10.heap.size = x := ⟨_, rfl⟩
    have BLK := Aside0.mk (AS.out.newBlk 83 #[.int .i64 kk, .int .i64 xx, .slice B nB cB, .slice C nC cC])
    rw [hG6] at BLK
    have AJ := Aside0.mk hj2
    have hnu := HST.out.nums
    have HNS : Aside0 (b ≤ 64 ∧ c.seq ≤ 1000 ∧ d ≤ 100000) := ⟨by have := HSQ.out; omega⟩
    have z0 := (BLK.out.cell 0).trans rfl
    clear hik hj1 hj2 hnu
    go_upto_block 2 with fail
    obtain ⟨w11, hw11⟩ : ∃ x, w10.alloc (.cells #[.int .i64 kk, .int .i64 xx, .slice B nB cB, .slice C nC cC] 83) = x := ⟨_, rfl⟩
    rw [hw11] at BLK z0 ⊢
    clear e0 e1 e2 e3 hw11 hG6 z0 AS
    go_cut [15, 16, 17, 18] from 87 to 186 (fun v15 v16 v17 v18 wx => OutP w wx g gr gt n A1 n1 c1 (i + 1) v15 v17)
    case first =>
      by_cases k4 : kk = 4
      case pos =>
        subst k4
        go_wp2_with fail
        refine (sync_ (Sep.pull [_, _] BLK.out.tail)).mono ?_
        rintro e w12 ⟨rfl, hS12⟩
        have B12 := Aside0.mk (Sep.pull [_, _] hS12)
        clear hS12
        go_wp2_with fail
        refine (Ref.rflush_ B12.out HST.out.dk.len HST.out.dk.wl (by have := HNS.out; omega)).mono ?_
        rintro e w13 ⟨rfl, hS13⟩
        have B13 := Aside0.mk (Sep.pull [_, _] hS13)
        clear hS13
        go_wp2_with fail
        go_meet
        case rel => exact .inr ⟨gs, gx, rfl, rfl, m, d + 1, a, b, ep, flushed las c.wt, ⟨c.pages, c.named, c.nm, c.used, c.seq, fun _ => none⟩, HST.out.flush, by have := HSQ.out; exact Nat.le_succ_of_le this.1, by have := HSQ.out; omega, B13.out⟩
      case neg =>
      by_cases k5 : kk = 5
      case pos =>
        subst k5
        by_cases he : ep = 4294967295
        case pos =>
          subst he
          go_wp2_with fail
          refine (check_full (Sep.pull [_, _] BLK.out.tail)).mono ?_
          rintro e w12 ⟨rfl, rfl⟩
          go_wp2_with fail
          refine (rcheck_full (Sep.pull [_, _, _] BLK.out.tail)).mono ?_
          rintro e w13 ⟨rfl, rfl⟩
          go_wp2_with fail
          go_meet
          case rel => exact .inr ⟨gs, gx, rfl, rfl, m, d, a, b, _, las, c, HST.out, by have := HSQ.out; omega, by have := HSQ.out; omega, BLK.out.tail⟩
        case neg =>
          have HE : Aside0 (ep < 4294967295) := ⟨by have := HST.out.e32; omega⟩
          clear he
          go_wp2_with fail
          refine (scheck_ (Sep.pull [_, _] BLK.out.tail) HST.out HE.out).mono ?_
          rintro e w12 ⟨rfl, hS12⟩
          have B12 := Aside0.mk (Sep.pull [_, _, _] (Sep.pull [_, _] hS12))
          clear hS12
          go_wp2_with fail
          refine (rcheck_all B12.out HST.out HE.out (by have := HNS.out; omega)).mono ?_
          rintro e w13 ⟨rfl, d13, hd13, hS13⟩
          have HD13 := Aside0.mk hd13
          have B13 := Aside0.mk (Sep.pull [_, _, _] (Sep.pull [_, _] (Sep.pull [_, _] hS13)))
          clear hS13 hd13
          go_wp2_with fail
          go_meet
          case rel => exact .inr ⟨gs, gx, rfl, rfl, m, d13, a, b, ep + 1, _, ⟨c.pages, [], List.replicate b false, 0, 0, fun _ => none⟩, HST.out.check HE.out, Nat.zero_le _, by have := HSQ.out; have := HD13.out; omega, B13.out⟩
      case neg =>
      by_cases k6 : kk = 6
      case pos =>
        subst k6
        have BD := Aside0.mk BLK.out.drew
        have z2 := (BD.out.cell 2).trans rfl
        have HDC := Aside0.mk (HST.out.dk.crash cu)
        obtain ⟨LC, hLC⟩ : ∃ L, crashed las c.wt cu = L := ⟨_, rfl⟩
        have HLC := Aside0.mk hLC
        rw [hLC] at HDC
        clear hLC
        go_upto_region 26 with fail
        refine start_ (n := 9) (S := fun w' => w'.cell? ⟨G6, 2, none⟩ = some (.slice B nB cB)) (ds := [7]) #[Z,Z,Z,Z,Z,Z,Z,Z,Z] (by kernel_rfl) rfl rfl (z2) (fun hHeld => ?_)
        refine pu_ 0 136 ?_ #[J,Z,Z,Z,Z,Z,Z,Z,Z] rfl rfl ?_ ?_ ?_ ?_
        rotate_left
        · intro w'
          go_simp
          with_reducible rfl
        rotate_left
        · simp only [aP]
          rfl
        refine pu_ 1 137 ?_ #[J,J,Z,Z,Z,Z,Z,Z,Z] rfl rfl ?_ ?_ ?_ ?_
        rotate_left
        · intro w'
          go_simp
          with_reducible rfl
        rotate_left
        · simp only [aP]
          rfl
        refine pu_ 4 140 ?_ #[J,J,Z,Z,J,Z,Z,Z,Z] rfl rfl ?_ ?_ ?_ ?_
        rotate_left
        · intro w'
          go_simp
          with_reducible rfl
        rotate_left
        · simp only [aP]
          rfl
        refine pu_ 5 141 ?_ #[J,J,Z,Z,J,J,Z,Z,Z] rfl rfl ?_ ?_ ?_ ?_
        rotate_left
        · intro w'
          go_simp
          with_reducible rfl
        rotate_left
        · simp only [aP]
          rfl
        refine ta_ 2 138 ?_ #[J,J,J,Z,J,J,Z,Z,Z] rfl rfl ?_ hHeld ?_ ?_ ?_
        rotate_left
        · intro w' s0
          go_simp
          with_reducible rfl
        rotate_left
        · simp only [aP]
          rfl
        refine ta_ 6 142 ?_ #[J,J,J,Z,J,J,J,Z,Z] rfl rfl ?_ hHeld ?_ ?_ ?_
        rotate_left
        · intro w' s0
          go_simp
          with_reducible rfl
        rotate_left
        · simp only [aP]
          rfl
        refine one_ (i := 3) (N := some 139) #[J,J,J,J,J,J,J,Z,Z] rfl rfl (by kernel_rfl) (by decide) (fun K hK => ?_)
        refine goes_ Tryz.func18 (by kernel_rfl) rfl #[.pointer (some ⟨g, 0, none⟩), .slice B nB cB] (by rfl) rfl rfl (by simp only [List.map_toArray, List.map_cons, List.map_nil]; rfl) ?_
        with_reducible refine (Disk.crash_ (cuts := cu) BD.out.at2 (fun W' h => Kd.C_below HCU.out h.toBelow)).mono ?_
        rintro e w12 ⟨rfl, hS12⟩
        refine ⟨_, rfl, ?_⟩
        rw [HLC.out] at hS12
        have B12 := Aside0.mk (Sep.pull [_, _] hS12)
        clear hS12
        refine hK.out _ _ ((B12.out.at3.cell 2).trans rfl) (fun hHeld => ?_)
        clear hK K
        refine norm_ (a' := ?_) ?_ ?_
        rotate_left
        · show Act.put _ (some 139) _ = _
          simp only [aP]
          rfl
        refine last_ (i := 7) (N := some 143) #[J,J,J,J,J,J,J,J,Z] rfl rfl (by kernel_rfl) (by decide) (fun K hK => ?_)
        refine goes_ Tryz.func19 (by kernel_rfl) rfl #[.pointer (some ⟨gr, 0, none⟩), .slice B nB cB] (by rfl) rfl rfl (by simp only [List.map_toArray, List.map_cons, List.map_nil]; rfl) ?_
        with_reducible refine (Ref.rcrash_ (cuts := cu) B12.out HST.out.dk.len HST.out.dk.wl (fun W' h => Kd.C_below HCU.out h.toBelow)).mono ?_
        rintro e w13 ⟨rfl, hS13⟩
        refine ⟨_, rfl, ?_⟩
        rw [HLC.out] at hS13
        have B13 : Aside0 (Sep w w13 [Dsk g LC (fun _ => none), RT gr n LC (fun _ => none) d, TpX gt A1 n1 c1]) := ⟨Sep.weakR (L := [_, _, _]) (Sep.push [_, _] (Sep.pull [_, _, _, _, _] (Sep.pull [_] hS13)))⟩
        clear hS13
        refine hK.out _ _ ?_
        clear hK K
        refine norm_ (a' := ?_) ?_ ?_
        rotate_left
        · show Act.put _ (some 143) _ = _
          simp only [aP]
          rfl
        refine pu_ 8 144 ?_ #[J,J,J,J,J,J,J,J,J] rfl rfl ?_ ?_ ?_ ?_
        rotate_left
        · intro w'
          go_simp
          with_reducible rfl
        rotate_left
        · simp only [aP]
          rfl
        refine done_ (by kernel_rfl) ?_
        have HNN := HNU.out.2.1
        rcases open_cases HDC.out HNN with ⟨er, hno⟩ | ⟨a3, b3, E3, ha3, hE3⟩
        case inl =>
          have HNO := Aside0.mk hno
          clear hno HNN z2
          go_wp2_with fail
          refine (sopen_nil B13.out HDC.out HNU.out.2.1 HNO.out).mono ?_
          rintro e w14 ⟨rfl, hS14⟩
          have B14 := Aside0.mk hS14.at2
          clear hS14
          go_wp2_with fail
          refine (ropen_nil B14.out HDC.out HNO.out).mono ?_
          rintro e w15 ⟨rfl, hS15⟩
          have B15 := Aside0.mk hS15.at2
          clear hS15
          go_wp2_with fail
          go_meet
          case rel => exact .inl ⟨rfl, LC, _, d, HDC.out, Sep.weakR (L := [_, _]) B15.out⟩
        case inr =>
          have HA3 := Aside0.mk ha3
          have HE3 := Aside0.mk hE3
          have HS3 := Aside0.mk (ha3.opened hE3)
          clear ha3 hE3 HNN z2
          go_wp2_with fail
          refine (sopen_ok B13.out HA3.out HE3.out).mono ?_
          rintro e w14 ⟨gs3, m3, rfl, hS14⟩
          have B14 := Aside0.mk (Sep.pull [_, _] hS14)
          clear hS14
          go_wp2_with fail
          refine (ropen_all B14.out HA3.out HE3.out (by have := HNS.out; omega)).mono ?_
          rintro e w15 ⟨gx3, rfl, d15, hd15, hS15⟩
          have HD15 := Aside0.mk hd15
          have B15 := Aside0.mk (Sep.push [_, _] (Sep.pull [_, _, _] (Sep.pull [_, _, _] (Sep.pull [_] hS15))))
          clear hS15 hd15
          go_wp2_with fail
          go_meet
          case rel => exact .inr ⟨gs3, gx3, rfl, rfl, m3, d15, a3, b3, E3 + 1, _, ⟨shownG n a3 b3 E3 LC (fun _ => none), [], List.replicate b3 false, 0, 0, fun _ => none⟩, HS3.out, Nat.zero_le _, by have := HSQ.out; have := HD15.out; omega, B15.out⟩
      case neg =>
      by_cases k7 : kk = 7
      case pos =>
        subst k7
        have BD := Aside0.mk (Sep.pull [_, _, _] (Sep.pull [_] BLK.out.drew))
        have z3 := (BD.out.at3.cell 3).trans rfl
        obtain ⟨er, her⟩ : ∃ e, cmE (a : Int) (b : Int) c.used raw = e := ⟨_, rfl⟩
        obtain ⟨cx, hcx⟩ : ∃ e, cmR n (a : Int) (b : Int) ep las c raw = e := ⟨_, rfl⟩
        have HCM := Aside0.mk (HST.out.cm HRW.out.2)
        rw [hcx] at HCM
        have HER := Aside0.mk (And.intro her hcx)
        clear her hcx
        go_upto_region 33 with fail
        refine start_ (n := 9) (S := fun w' => w'.cell? ⟨G6, 3, none⟩ = some (.slice C nC cC)) (ds := [7]) #[Z,Z,Z,Z,Z,Z,Z,Z,Z] (by kernel_rfl) rfl rfl (z3) (fun hHeld => ?_)
        refine pu_ 0 167 ?_ #[J,Z,Z,Z,Z,Z,Z,Z,Z] rfl rfl ?_ ?_ ?_ ?_
        rotate_left
        · intro w'
          go_simp
          with_reducible rfl
        rotate_left
        · simp only [aP]
          rfl
        refine pu_ 1 168 ?_ #[J,J,Z,Z,Z,Z,Z,Z,Z] rfl rfl ?_ ?_ ?_ ?_
        rotate_left
        · intro w'
          go_simp
          with_reducible rfl
        rotate_left
        · simp only [aP]
          rfl
        refine pu_ 4 171 ?_ #[J,J,Z,Z,J,Z,Z,Z,Z] rfl rfl ?_ ?_ ?_ ?_
        rotate_left
        · intro w'
          go_simp
          with_reducible rfl
        rotate_left
        · simp only [aP]
          rfl
        refine pu_ 5 172 ?_ #[J,J,Z,Z,J,J,Z,Z,Z] rfl rfl ?_ ?_ ?_ ?_
        rotate_left
        · intro w'
          go_simp
          with_reducible rfl
        rotate_left
        · simp only [aP]
          rfl
        refine ta_ 2 169 ?_ #[J,J,J,Z,J,J,Z,Z,Z] rfl rfl ?_ hHeld ?_ ?_ ?_
        rotate_left
        · intro w' s0
          go_simp
          with_reducible rfl
        rotate_left
        · simp only [aP]
          rfl
        refine ta_ 6 173 ?_ #[J,J,J,Z,J,J,J,Z,Z] rfl rfl ?_ hHeld ?_ ?_ ?_
        rotate_left
        · intro w' s0
          go_simp
          with_reducible rfl
        rotate_left
        · simp only [aP]
          rfl
        refine one_ (i := 3) (N := some 170) #[J,J,J,J,J,J,J,Z,Z] rfl rfl (by kernel_rfl) (by decide) (fun K hK => ?_)
        refine goes_ Tryz.func32 (by kernel_rfl) rfl #[.pointer (some ⟨gs, 0, none⟩), .slice C nC cC] (by rfl) rfl rfl (by simp only [List.map_toArray, List.map_cons, List.map_nil]; rfl) ?_
        with_reducible refine (scommit_ (c := c) (l := raw) BD.out HST.out HNS.out.2.1 (fun W' hW => Kd.C_below HRW.out.1 hW.toBelow)).mono ?_
        rintro e w12 ⟨rfl, hS12⟩
        refine ⟨_, rfl, ?_⟩
        rw [HER.out.2] at hS12
        rw [HER.out.1]
        have B12 := Aside0.mk (Sep.pull [_, _, _, _] (Sep.pull [_, _, _] hS12))
        clear hS12
        refine hK.out _ _ ((B12.out.at5.cell 3).trans rfl) (fun hHeld => ?_)
        clear hK K
        refine norm_ (a' := ?_) ?_ ?_
        rotate_left
        · show Act.put _ (some 170) _ = _
          simp only [aP]
          rfl
        refine last_ (i := 7) (N := some 174) #[J,J,J,J,J,J,J,J,Z] rfl rfl (by kernel_rfl) (by decide) (fun K hK => ?_)
        refine goes_ Tryz.func43 (by kernel_rfl) rfl #[.pointer (some ⟨gx, 0, none⟩), .slice C nC cC] (by rfl) rfl rfl (by simp only [List.map_toArray, List.map_cons, List.map_nil]; rfl) ?_
        with_reducible refine (rcommit_ (c := c) (l := raw) B12.out HST.out HNS.out.2.1 (by have := HNS.out; omega) (fun W' hW => Kd.C_below HRW.out.1 hW.toBelow)).mono ?_
        rintro e w13 ⟨rfl, d13, hd13, hS13⟩
        refine ⟨_, rfl, ?_⟩
        rw [HER.out.2] at hS13
        rw [HER.out.1]
        have B13 := Aside0.mk (Sep.pull [_, _, _, _] (Sep.pull [_, _, _] (Sep.pull [_, _] (Sep.pull [_, _] hS13)))).tail
        have HD13 := Aside0.mk hd13
        clear hS13 hd13
        refine hK.out _ _ ?_
        clear hK K
        refine norm_ (a' := ?_) ?_ ?_
        rotate_left
        · show Act.put _ (some 174) _ = _
          simp only [aP]
          rfl
        refine pu_ 8 175 ?_ #[J,J,J,J,J,J,J,J,J] rfl rfl ?_ ?_ ?_ ?_
        rotate_left
        · intro w'
          go_simp
          with_reducible rfl
        rotate_left
        · simp only [aP]
          rfl
        refine done_ (by kernel_rfl) ?_
        clear z3
        go_wp2_with fail
        go_meet
        case rel => exact .inr ⟨gs, gx, rfl, rfl, m, d13, a, b, ep, las, cx, HCM.out.1, by have := HSQ.out; have := HCM.out.2; omega, by have := HSQ.out; have := HD13.out; omega, B13.out⟩
      case neg =>
        have zb := rstb_b (Sep.pull [_, _, _] BLK.out.tail)
        go_wp2_with fail
        refine (changesX_ H1.out (Sep.pull [_, _, _, _] BLK.out.tail) b (by have := HNS.out; omega)).mono ?_
        rintro e w12 ⟨v12, l, rfl, hg, hS12⟩
        obtain ⟨n3, hn3⟩ : ∃ n, l.length = n := ⟨_, rfl⟩
        obtain ⟨A12, c12, rfl⟩ := hS12.rowN hn3
        have HCM := Aside0.mk (HST.out.cm hg.2.1)
        have B12 := Aside0.mk (Sep.pull [_, _, _, _] (Sep.pull [_, _] hS12))
        obtain ⟨er, her⟩ : ∃ e, cmE (a : Int) (b : Int) c.used l = e := ⟨_, rfl⟩
        obtain ⟨cx, hcx⟩ : ∃ e, cmR n (a : Int) (b : Int) ep las c l = e := ⟨_, rfl⟩
        rw [hcx] at HCM
        have HER := Aside0.mk (And.intro her hcx)
        clear her hcx hS12 hg zb hn3
        go_wp2_with fail
        refine (scommit_ (c := c) (l := l) B12.out HST.out HNS.out.2.1 (fun W' hW => hW.rowC')).mono ?_
        rintro e w13 ⟨rfl, hS13⟩
        rw [HER.out.2] at hS13
        rw [HER.out.1]
        have B13 := Aside0.mk (Sep.pull [_, _, _, _, _] (Sep.pull [_, _, _, _] (Sep.pull [_, _] hS13)))
        clear hS13
        go_wp2_with fail
        refine (rcommit_ (c := c) (l := l) B13.out HST.out HNS.out.2.1 (by have := HNS.out; omega) (fun W' hW => hW.rowC')).mono ?_
        rintro e w14 ⟨rfl, d14, hd14, hS14⟩
        rw [HER.out.2] at hS14
        rw [HER.out.1]
        have HD14 := Aside0.mk hd14
        have B14 := Aside0.mk (Sep.pull [_, _, _] (Sep.pull [_, _] (Sep.pull [_, _] (Sep.pull [_, _] hS14).tail)))
        clear hS14 hd14
        go_wp2_with fail
        go_meet
        case rel => exact .inr ⟨gs, gx, rfl, rfl, m, d14, a, b, ep, las, cx, HCM.out.1, by have := HSQ.out; have := HCM.out.2; omega, by have := HSQ.out; have := HD14.out; omega, B14.out⟩
    case rest =>
    rcases hcut with ⟨rfl, las2, wt2, d2, hD2, hS2⟩ | ⟨gs2, gx2, rfl, rfl, m2, d2, a2, b2, ep2, las2, cm2, hst2, hsq2, hd2, hS2⟩
    case inl =>
      have HD2 := Aside0.mk hD2
      have B12 := Aside0.mk hS2
      clear hD2 hS2 BLK
      go_wp2_with fail
      refine (Ref.alike18_ B12.out HD2.out.len).mono ?_
      rintro e w13 ⟨rfl, hS13⟩
      have B13 := Aside0.mk hS13
      clear hS13
      go_wp2_with fail
      go_ret
      exact ⟨by first | rfl | (simp; done), B13.out.toBelow⟩
    case inr =>
      have HST2 := Aside0.mk hst2
      have HSQ2 := Aside0.mk (And.intro hsq2 hd2)
      have B12 := Aside0.mk hS2
      clear hst2 hsq2 hd2 hS2 BLK
      go_wp2_with fail
      refine (same18_ B12.out HST2.out.dk.len (by rw [HST2.out.pl]; have := HST2.out.nums; omega) (fun p hp => by have := (HST2.out.p64 p hp).1; omega)).mono ?_
      rintro e w13 ⟨rfl, hS13⟩
      have B13 := Aside0.mk hS13
      clear hS13
      have hi40 : i < 40 := AJ.out
      go_wp2_with fail
      go_roundg (gk - 1)
      case measure => have := AK.out; omega
      case rel => exact ⟨i + 1, gs2, gx2, rfl, rfl, by go_num, by have := AK.out; omega, m2, d2, a2, b2, ep2, las2, cm2, HST2.out, HSQ2.out.1, HSQ2.out.2, B13.out⟩
end Go.Proofs.YtjngnigelkgekaaGreat.RStore
