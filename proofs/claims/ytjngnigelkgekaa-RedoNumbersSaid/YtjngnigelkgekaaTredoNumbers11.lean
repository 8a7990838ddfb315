/- Redo7, Redo9: what RedoNumbers needs. -/
import Derived.Test.YtjngnigelkgekaaTredoNumbers10
namespace Go.Proofs.Ytjngnigelkgekaa.Redo
set_option linter.unusedVariables false
set_option linter.unusedSimpArgs false
open Go.RowKit Go.Proofs.YtjngnigelkgekaaW.PrintWords Go.Proofs.YtjngnigelkgekaaW.PrintLast Go.Proofs.YtjngnigelkgekaaW.PrintMore Go.Proofs.Ytjngnigelkgekaa.Kit Go.Proofs.Ytjngnigelkgekaa.Plain Go.Proofs.Ytjngnigelkgekaa.Disk Go.Proofs.Ytjngnigelkgekaa.Root
open Go.Proofs.Ytjngnigelkgekaa.Home (RT)
section
variable {w0 W : World} {F : List HP} {g n d : Nat} {las : List Int} {wt : Wt}
theorem lg_nums {j Lg : Nat} (h : j ≤ Lg) (hL : Lg ≤ 64) : wrap64 (2 + (Lg : Int)) = 2 + (Lg : Int) ∧ wrap64 ((j : Int) + 1) = (j : Int) + 1 := ⟨IntWalk.wrap64_in _ (by omega), IntWalk.wrap64_in _ (by omega)⟩
set_option maxHeartbeats 1600000 in
set_option maxRecDepth 100000 in
theorem rlog_no (h : Sep w0 W (RT g n las wt d :: F)) (hl : las.length = 64 * n) (hw : ∀ i b, wt i = some b → b.length = 64) (a b c : Int) (hr : rightR a b c n = false) :
    Calls Try.prog 129 #[.pointer (some ⟨g, 0, none⟩), .agg #[.int .i64 a, .int .i64 b, .int .u32 c]] W fun e w' => e = .returned (.slice none 0 0) ∧ Sep w0 w' (RT g n las wt d :: F) := by
  have A0 := Aside0.mk (h.newBlk 26 #[.int .i64 a, .int .i64 b, .int .u32 c]).drew
  have HL := Aside0.mk (And.intro hl hw)
  clear h hl hw
  have HRT := Aside0.mk hr
  clear hr
  go_enter Try.func129, Try.ntmps129
  go_wp2_with fail
  refine start_ (n := 5) (S := fun w' => w'.cell? ⟨W.heap.size, 0, none⟩ = some (.int .i64 a) ∧ w'.cell? ⟨W.heap.size, 1, none⟩ = some (.int .i64 b) ∧ w'.cell? ⟨W.heap.size, 2, none⟩ = some (.int .u32 c)) (ds := [3]) #[false, false, false, false, false] (by kernel_rfl) rfl rfl ⟨(A0.out.cell 0).trans rfl, (A0.out.cell 1).trans rfl, (A0.out.cell 2).trans rfl⟩ (fun hHeld => ?_)
  refine pure_ (i := 1) (N := some 10) (v := ?_) (a' := ?_) #[false, true, false, false, false] rfl rfl (by kernel_rfl) (fun _ _ _ h => h) (Or.inl ⟨by rfl, ?_⟩) ?_ ?_
  rotate_left
  · intro w'
    go_simp
    with_reducible rfl
  rotate_left
  · simp only [Act.put, List.setIfInBounds_toArray, List.set_cons_zero, List.set_cons_succ, i64_w, i32_w]
    rfl
  refine take_ (i := 0) (N := some 9) (v := ?_) (a' := ?_) #[true, true, false, false, false] rfl rfl (by kernel_rfl) (fun _ _ _ h => h) (Or.inl ⟨by rfl, ?_⟩) hHeld ?_ ?_
  rotate_left
  · rintro w' ⟨s0, s1, s2⟩
    go_simp
    with_reducible rfl
  rotate_left
  · simp only [Act.put, List.setIfInBounds_toArray, List.set_cons_zero, List.set_cons_succ, i64_w, i32_w]
    rfl
  refine one_ (i := 2) (N := some 11) #[true, true, true, false, false] rfl rfl (by kernel_rfl) (by decide) (fun K hK => ?_)
  refine goes_ Try.func103 (by kernel_rfl) rfl #[.pointer (some ⟨g, 0, none⟩)] (by rfl) rfl rfl (by simp only [List.map_toArray, List.map_cons, List.map_nil]; rfl) ?_
  with_reducible refine (Ref.len_ A0.out.at2).mono ?_
  rintro e w4 ⟨rfl, rfl⟩
  refine ⟨_, rfl, ?_⟩
  refine hK.out _ _ ⟨(A0.out.cell 0).trans rfl, (A0.out.cell 1).trans rfl, (A0.out.cell 2).trans rfl⟩ (fun hHeld => ?_)
  clear hK K
  refine norm_ (a' := ?_) ?_ ?_
  rotate_left
  · show Act.put _ (some 11) _ = _
    simp only [Act.put, List.setIfInBounds_toArray, List.set_cons_zero, List.set_cons_succ, i64_w, i32_w]
    rfl
  refine last_ (i := 3) (N := some 12) #[true, true, true, true, false] rfl rfl (by kernel_rfl) (by decide) (fun K hK => ?_)
  refine goes_ Try.func81 (by kernel_rfl) rfl #[.agg #[.int .i64 a, .int .i64 b, .int .u32 c], .int .i64 (n : Int)] (by rfl) rfl rfl (by simp only [List.map_toArray, List.map_cons, List.map_nil]; rfl) ?_
  with_reducible refine (rright_ a b c (n : Int) _).mono ?_
  rintro e w5 ⟨rfl, hb5⟩
  refine ⟨_, rfl, ?_⟩
  rw [HRT.out]
  have A5 := Aside0.mk (A0.out.below hb5)
  clear hb5
  refine hK.out _ _ ?_
  clear hK K
  refine norm_ (a' := ?_) ?_ ?_
  rotate_left
  · show Act.put _ (some 12) _ = _
    simp only [Act.put, List.setIfInBounds_toArray, List.set_cons_zero, List.set_cons_succ, i64_w, i32_w]
    rfl
  refine pure_ (i := 4) (N := some 13) (v := ?_) (a' := ?_) #[true, true, true, true, true] rfl rfl (by kernel_rfl) (fun _ _ _ h => h) (Or.inl ⟨by rfl, ?_⟩) ?_ ?_
  rotate_left
  · intro w'
    go_simp
    with_reducible rfl
  rotate_left
  · simp only [Act.put, List.setIfInBounds_toArray, List.set_cons_zero, List.set_cons_succ, i64_w, i32_w]
    rfl
  refine done_ (by kernel_rfl) ?_
  go_wp2_with fail
  go_ret
  exact ⟨by first | rfl | (simp; done), A5.out.tail⟩
set_option maxHeartbeats 1600000 in
set_option maxRecDepth 100000 in
theorem rlog_yes (h : Sep w0 W (RT g n las wt d :: F)) (hl : las.length = 64 * n) (hw : ∀ i b, wt i = some b → b.length = 64) (a b c : Int) (hr : rightR a b c n = true) :
    Calls Try.prog 129 #[.pointer (some ⟨g, 0, none⟩), .agg #[.int .i64 a, .int .i64 b, .int .u32 c]] W fun e w' => ∃ v, e = .returned v ∧ Sep w0 w' (Row U8 5 v (logF n las wt a b c) :: RT g n las wt d :: F) := by
  have A0 := Aside0.mk (h.newBlk 26 #[.int .i64 a, .int .i64 b, .int .u32 c]).drew
  have HL := Aside0.mk (And.intro hl hw)
  clear h hl hw
  have HRT := Aside0.mk hr
  have h1 := of_decide_eq_true hr
  obtain ⟨Lg, rfl⟩ := Int.eq_ofNat_of_zero_le (show 0 ≤ a by omega)
  have HP : Aside0 (logF n las wt (Lg : Int) b c = secs Lg (fun i => secF n las wt (2 + i))) := ⟨by unfold logF; rw [if_pos hr, Int.toNat_natCast]⟩
  have hK : Lg ≤ 64 := by omega
  have HK := Aside0.mk hK
  have HKN : Aside0 (2 + Lg ≤ n) := ⟨by omega⟩
  clear hr h1
  go_enter Try.func129, Try.ntmps129
  go_wp2_with fail
  refine start_ (n := 5) (S := fun w' => w'.cell? ⟨W.heap.size, 0, none⟩ = some (.int .i64 (Lg : Int)) ∧ w'.cell? ⟨W.heap.size, 1, none⟩ = some (.int .i64 b) ∧ w'.cell? ⟨W.heap.size, 2, none⟩ = some (.int .u32 c)) (ds := [3]) #[false, false, false, false, false] (by kernel_rfl) rfl rfl ⟨(A0.out.cell 0).trans rfl, (A0.out.cell 1).trans rfl, (A0.out.cell 2).trans rfl⟩ (fun hHeld => ?_)
  refine pure_ (i := 1) (N := some 10) (v := ?_) (a' := ?_) #[false, true, false, false, false] rfl rfl (by kernel_rfl) (fun _ _ _ h => h) (Or.inl ⟨by rfl, ?_⟩) ?_ ?_
  rotate_left
  · intro w'
    go_simp
    with_reducible rfl
  rotate_left
  · simp only [Act.put, List.setIfInBounds_toArray, List.set_cons_zero, List.set_cons_succ, i64_w, i32_w]
    rfl
  refine take_ (i := 0) (N := some 9) (v := ?_) (a' := ?_) #[true, true, false, false, false] rfl rfl (by kernel_rfl) (fun _ _ _ h => h) (Or.inl ⟨by rfl, ?_⟩) hHeld ?_ ?_
  rotate_left
  · rintro w' ⟨s0, s1, s2⟩
    go_simp
    with_reducible rfl
  rotate_left
  · simp only [Act.put, List.setIfInBounds_toArray, List.set_cons_zero, List.set_cons_succ, i64_w, i32_w]
    rfl
  refine one_ (i := 2) (N := some 11) #[true, true, true, false, false] rfl rfl (by kernel_rfl) (by decide) (fun K hK => ?_)
  refine goes_ Try.func103 (by kernel_rfl) rfl #[.pointer (some ⟨g, 0, none⟩)] (by rfl) rfl rfl (by simp only [List.map_toArray, List.map_cons, List.map_nil]; rfl) ?_
  with_reducible refine (Ref.len_ A0.out.at2).mono ?_
  rintro e w4 ⟨rfl, rfl⟩
  refine ⟨_, rfl, ?_⟩
  refine hK.out _ _ ⟨(A0.out.cell 0).trans rfl, (A0.out.cell 1).trans rfl, (A0.out.cell 2).trans rfl⟩ (fun hHeld => ?_)
  clear hK K
  refine norm_ (a' := ?_) ?_ ?_
  rotate_left
  · show Act.put _ (some 11) _ = _
    simp only [Act.put, List.setIfInBounds_toArray, List.set_cons_zero, List.set_cons_succ, i64_w, i32_w]
    rfl
  refine last_ (i := 3) (N := some 12) #[true, true, true, true, false] rfl rfl (by kernel_rfl) (by decide) (fun K hK => ?_)
  refine goes_ Try.func81 (by kernel_rfl) rfl #[.agg #[.int .i64 (Lg : Int), .int .i64 b, .int .u32 c], .int .i64 (n : Int)] (by rfl) rfl rfl (by simp only [List.map_toArray, List.map_cons, List.map_nil]; rfl) ?_
  with_reducible refine (rright_ (Lg : Int) b c (n : Int) _).mono ?_
  rintro e w5 ⟨rfl, hb5⟩
  refine ⟨_, rfl, ?_⟩
  rw [HRT.out]
  have A5 := Aside0.mk (A0.out.below hb5)
  clear hb5
  refine hK.out _ _ ?_
  clear hK K
  refine norm_ (a' := ?_) ?_ ?_
  rotate_left
  · show Act.put _ (some 12) _ = _
    simp only [Act.put, List.setIfInBounds_toArray, List.set_cons_zero, List.set_cons_succ, i64_w, i32_w]
    rfl
  refine pure_ (i := 4) (N := some 13) (v := ?_) (a' := ?_) #[true, true, true, true, true] rfl rfl (by kernel_rfl) (fun _ _ _ h => h) (Or.inl ⟨by rfl, ?_⟩) ?_ ?_
  rotate_left
  · intro w'
    go_simp
    with_reducible rfl
  rotate_left
  · simp only [Act.put, List.setIfInBounds_toArray, List.set_cons_zero, List.set_cons_succ, i64_w, i32_w]
    rfl
  refine done_ (by kernel_rfl) ?_
  have A6 := Aside0.mk (A5.out.nilRow U8 5)
  go_wp2_with fail
  go_loopg [5, 6] Lg (fun m v p wr => ∃ j i : Nat, p = .int .i64 (i : Int) ∧ i = 2 + j ∧ j + m = Lg ∧ Sep w0 wr (Row U8 5 v (secs j (fun i => secF n las wt (2 + i))) :: Blk W.heap.size 26 #[.int .i64 (Lg : Int), .int .i64 b, .int .u32 c] :: RT g n las wt d :: F))
  case atStart => exact ⟨0, 2, rfl, rfl, by omega, A6.out⟩
  case round =>
    obtain ⟨j, i, rfl, hij, hjm, hS⟩ := hrel
    have AK := Aside0.mk (And.intro hjm hij)
    have AS := Aside0.mk hS
    have HSL : Aside0 (j ≤ Lg → (secs j (fun i => secF n las wt (2 + i))).length = 64 * j) := ⟨fun h => secs_len (fun i hi => by rw [secF_len HL.out.1 HL.out.2, if_pos (by have := HKN.out; omega)])⟩
    clear hS
    have z0 := (AS.out.at2.cell 0).trans rfl
    have z1 := (AS.out.at2.cell 1).trans rfl
    have z2 := (AS.out.at2.cell 2).trans rfl
    obtain ⟨A3, c3, rfl⟩ := AS.out.rowN (n := 64 * j) (HSL.out (by omega))
    have hwL := (lg_nums (j := j) (by omega) HK.out).1
    by_cases hj : j < Lg
    · have hjl : (i : Int) < 2 + (Lg : Int) := by omega
      have hjld : decide ((i : Int) < 2 + (Lg : Int)) = true := decide_eq_true hjl
      have HSN : Aside0 (secs (j + 1) (fun i => secF n las wt (2 + i)) = secs j (fun i => secF n las wt (2 + i)) ++ secF n las wt i) := ⟨by rw [hij]; exact secs_succ _ _⟩
      have HIN : Aside0 (i < n) := ⟨by have := HKN.out; omega⟩
      have HXL : Aside0 ((secF n las wt i).length = 64) := ⟨by rw [secF_len HL.out.1 HL.out.2, if_pos HIN.out]⟩
      have hw1 : wrap64 ((i : Int) + 1) = (i : Int) + 1 := IntWalk.wrap64_in _ (by omega)
      clear hjm hij
      go_wp2_with fail
      refine (Ref.rread_ AS.out.at3 HL.out.1 HL.out.2 i HIN.out).mono ?_
      rintro e w3 ⟨v3, rfl, hS3⟩
      have hsf : (wt i).getD (sec las i) = secF n las wt i := by unfold secF; rw [if_pos HIN.out]
      rw [hsf] at hS3
      obtain ⟨A4, c4, rfl⟩ := hS3.rowN (n := 64) HXL.out
      have L3 : Aside0 (Sep w0 w3 (Row U8 5 (.slice A3 (64 * j) c3) (secs j (fun i => secF n las wt (2 + i))) :: Row U8 5 (.slice A4 64 c4) (secF n las wt i) :: Blk W.heap.size 26 #[.int .i64 (Lg : Int), .int .i64 b, .int .u32 c] :: RT g n las wt d :: F)) := ⟨hS3.at3.perm (.cons _ (.cons _ (.swap _ _ _)))⟩
      clear hS3 hsf z0 z1 z2
      go_wp2_with (first | (refine gate_builtin (b := .append) (xs := #[.tmp 27, .tmp 28]) rfl ?_; go_loud (refine L3.out.appendRow rfl (.tmp 27) (.tmp 28) 30 (.int .u8 0) 1 rfl Try.underlying30 Base.infoB rfl (by decide) A4 64 c4 rfl rfl L3.out.at2.rowC' (by rw [HSL.out (by omega), HXL.out]; omega) ?_; intro v6 w6 hS6; have B6 := Aside0.mk hS6; clear hS6)))
      go_roundg (gk - 1)
      case measure => have := AK.out; omega
      case rel => exact ⟨j + 1, i + 1, by go_num, by have := AK.out; omega, by have := AK.out; omega, by rw [HSN.out]; exact B6.out.drop2⟩
    · obtain rfl : j = Lg := by omega
      have hjl : ¬ (i : Int) < 2 + (j : Int) := by omega
      have hjld : decide ((i : Int) < 2 + (j : Int)) = false := decide_eq_false hjl
      clear hjm hij
      go_wp2_with fail
      go_ret
      exact ⟨_, by first | rfl | (simp; done), by rw [HP.out]; exact AS.out.drop2⟩
theorem rlog_ (h : Sep w0 W (RT g n las wt d :: F)) (hl : las.length = 64 * n) (hw : ∀ i b, wt i = some b → b.length = 64) (a b c : Int) :
    Calls Try.prog 129 #[.pointer (some ⟨g, 0, none⟩), .agg #[.int .i64 a, .int .i64 b, .int .u32 c]] W fun e w' => ∃ v, e = .returned v ∧ Sep w0 w' (Row U8 5 v (logF n las wt a b c) :: RT g n las wt d :: F) := by
  cases hr : rightR a b c n with
  | false =>
    refine (rlog_no h hl hw a b c hr).mono ?_
    rintro e w' ⟨rfl, hS⟩
    exact ⟨_, rfl, by rw [show logF n las wt a b c = [] by unfold logF; rw [hr]; rfl]; exact hS.nilRow _ _⟩
  | true => exact rlog_yes h hl hw a b c hr
end
end Go.Proofs.Ytjngnigelkgekaa.Redo
namespace Go.Proofs.Ytjngnigelkgekaa.Redo
set_option linter.unusedVariables false
set_option linter.unusedSimpArgs false
open Go.RowKit Go.Proofs.YtjngnigelkgekaaW.PrintWords Go.Proofs.YtjngnigelkgekaaW.PrintLast Go.Proofs.YtjngnigelkgekaaW.PrintMore Go.Proofs.Ytjngnigelkgekaa.Kit Go.Proofs.Ytjngnigelkgekaa.Plain Go.Proofs.Ytjngnigelkgekaa.Disk Go.Proofs.Ytjngnigelkgekaa.Root Go.Proofs.Ytjngnigelkgekaa.Frame
open Go.Proofs.Ytjngnigelkgekaa.Home (K2 RT)
open Go.Proofs.Ytjngnigelkgekaa.Delta (Chg KC undeltaF)
theorem runde_none {A : Option Addr} {n c : Nat} {b : List Int} {w : World} {pages : Int} (hu : undeltaF b pages = none) (hr : (Kd.int .u8).C w A n b) (hc : n ≤ c) (hb : Bytes b) (hl : n ≤ 1000000) :
    Calls Try.prog 139 #[.slice A n c, .int .i64 pages] w fun e w' => ∃ v, e = .returned (.tuple #[v, .bool false]) ∧ Below w.heap.size w w' := by
  refine (Delta.rundelta_ hr hc hb hl pages).mono ?_
  rintro e w' ⟨v, rfl, hS⟩
  rw [hu]
  exact ⟨v, rfl, hS.toBelow⟩
theorem runde_some {A : Option Addr} {n c : Nat} {b : List Int} {w : World} {pages : Int} {x : List Chg} (hu : undeltaF b pages = some x) (hr : (Kd.int .u8).C w A n b) (hc : n ≤ c) (hb : Bytes b) (hl : n ≤ 1000000) :
    Calls Try.prog 139 #[.slice A n c, .int .i64 pages] w fun e w' => ∃ v, e = .returned (.tuple #[v, .bool true]) ∧ Sep w w' [Row KC 106 v x] := by
  refine (Delta.rundelta_ hr hc hb hl pages).mono ?_
  rintro e w' ⟨v, rfl, hS⟩
  rw [hu] at hS ⊢
  exact ⟨v, rfl, hS⟩
section
variable {w0 W : World} {F : List HP} {g n d : Nat} {las : List Int} {wt : Wt}
set_option maxHeartbeats 1600000 in
set_option maxRecDepth 100000 in
theorem rrecords_ (h : Sep w0 W (RT g n las wt d :: F)) (hl : las.length = 64 * n) (hn : n ≤ 160) (hw : ∀ i b, wt i = some b → b.length = 64) (a b c : Int) (hb : Bytes (logF n las wt a b c)) :
    Calls Try.prog 130 #[.pointer (some ⟨g, 0, none⟩), .agg #[.int .i64 a, .int .i64 b, .int .u32 c]] W fun e w' => ∃ v, e = .returned (.tuple #[v, .int .i64 ((recR n las wt a b c).2 : Int)]) ∧ Sep w0 w' (Row K3 47 v (recR n las wt a b c).1 :: RT g n las wt d :: F) := by
  have A0 := Aside0.mk (h.newBlk 26 #[.int .i64 a, .int .i64 b, .int .u32 c]).drew
  have HL := Aside0.mk (And.intro hl (And.intro hw (And.intro (log_len hl hn hw a b c) hb)))
  clear h hl hw hb hn
  go_enter Try.func130, Try.ntmps130
  go_wp2_with fail
  refine start_ (n := 11) (S := fun w' => w'.cell? ⟨W.heap.size, 0, none⟩ = some (.int .i64 a) ∧ w'.cell? ⟨W.heap.size, 1, none⟩ = some (.int .i64 b) ∧ w'.cell? ⟨W.heap.size, 2, none⟩ = some (.int .u32 c)) (ds := []) #[false, false, false, false, false, false, false, false, false, false, false] (by kernel_rfl) rfl rfl ⟨(A0.out.cell 0).trans rfl, (A0.out.cell 1).trans rfl, (A0.out.cell 2).trans rfl⟩ (fun hHeld => ?_)
  refine pure_ (i := 0) (N := some 15) (v := ?_) (a' := ?_) #[true, false, false, false, false, false, false, false, false, false, false] rfl rfl (by kernel_rfl) (fun _ _ _ h => h) (Or.inl ⟨by rfl, ?_⟩) ?_ ?_
  rotate_left
  · intro w'
    go_simp
    with_reducible rfl
  rotate_left
  · simp only [Act.put, List.setIfInBounds_toArray, List.set_cons_zero, List.set_cons_succ, i64_w, i32_w]
    rfl
  refine pure_ (i := 3) (N := some 18) (v := ?_) (a' := ?_) #[true, false, false, true, false, false, false, false, false, false, false] rfl rfl (by kernel_rfl) (fun _ _ _ h => h) (Or.inl ⟨by rfl, ?_⟩) ?_ ?_
  rotate_left
  · intro w'
    go_simp
    with_reducible rfl
  rotate_left
  · simp only [Act.put, List.setIfInBounds_toArray, List.set_cons_zero, List.set_cons_succ, i64_w, i32_w]
    rfl
  refine take_ (i := 1) (N := some 16) (v := ?_) (a' := ?_) #[true, true, false, true, false, false, false, false, false, false, false] rfl rfl (by kernel_rfl) (fun _ _ _ h => h) (Or.inl ⟨by rfl, ?_⟩) hHeld ?_ ?_
  rotate_left
  · rintro w' ⟨s0, s1, s2⟩
    go_simp
    with_reducible rfl
  rotate_left
  · simp only [Act.put, List.setIfInBounds_toArray, List.set_cons_zero, List.set_cons_succ, i64_w, i32_w]
    rfl
  refine take_ (i := 4) (N := some 19) (v := ?_) (a' := ?_) #[true, true, false, true, true, false, false, false, false, false, false] rfl rfl (by kernel_rfl) (fun _ _ _ h => h) (Or.inl ⟨by rfl, ?_⟩) hHeld ?_ ?_
  rotate_left
  · rintro w' ⟨s0, s1, s2⟩
    go_simp
    with_reducible rfl
  rotate_left
  · simp only [Act.put, List.setIfInBounds_toArray, List.set_cons_zero, List.set_cons_succ, i64_w, i32_w]
    rfl
  refine one_ (i := 2) (N := some 17) #[true, true, true, true, true, false, false, false, false, false, false] rfl rfl (by kernel_rfl) (by decide) (fun K hK => ?_)
  refine goes_ Try.func129 (by kernel_rfl) rfl #[.pointer (some ⟨g, 0, none⟩), .agg #[.int .i64 a, .int .i64 b, .int .u32 c]] (by rfl) rfl rfl (by simp only [List.map_toArray, List.map_cons, List.map_nil]; rfl) ?_
  with_reducible refine (rlog_ A0.out.at2 HL.out.1 HL.out.2.1 a b c).mono ?_
  rintro e w3 ⟨v3, rfl, hS3⟩
  refine ⟨_, rfl, ?_⟩
  obtain ⟨A3, c3, rfl⟩ := hS3.rowV
  have B3 := Aside0.mk hS3
  clear hS3
  refine hK.out _ _ ⟨(B3.out.at3.cell 0).trans rfl, (B3.out.at3.cell 1).trans rfl, (B3.out.at3.cell 2).trans rfl⟩ (fun hHeld => ?_)
  clear hK K
  refine norm_ (a' := ?_) ?_ ?_
  rotate_left
  · show Act.put _ (some 17) _ = _
    simp only [Act.put, List.setIfInBounds_toArray, List.set_cons_zero, List.set_cons_succ, i64_w, i32_w]
    rfl
  refine one_ (i := 5) (N := some 20) #[true, true, true, true, true, true, false, false, false, false, false] rfl rfl (by kernel_rfl) (by decide) (fun K hK => ?_)
  refine goes_ Try.func138 (by kernel_rfl) rfl #[.slice A3 (logF n las wt a b c).length c3, .int .u32 c] (by rfl) rfl rfl (by simp only [List.map_toArray, List.map_cons, List.map_nil]; rfl) ?_
  with_reducible refine (rscan_ B3.out.rowC' B3.out.rowC.2.1 HL.out.2.2.2 (by have := HL.out.2.2.1; omega) c).mono ?_
  rintro e w4 ⟨v4, rfl, hS4⟩
  refine ⟨_, rfl, ?_⟩
  have B4 := Aside0.mk (B3.out.lift1 hS4)
  clear hS4
  refine hK.out _ _ ⟨(B4.out.at4.cell 0).trans rfl, (B4.out.at4.cell 1).trans rfl, (B4.out.at4.cell 2).trans rfl⟩ (fun hHeld => ?_)
  clear hK K
  refine norm_ (a' := ?_) ?_ ?_
  rotate_left
  · show Act.put _ (some 20) _ = _
    simp only [Act.put, List.setIfInBounds_toArray, List.set_cons_zero, List.set_cons_succ, i64_w, i32_w]
    rfl
  refine pure_ (i := 6) (N := some 14) (v := ?_) (a' := ?_) #[true, true, true, true, true, true, true, false, false, false, false] rfl rfl (by kernel_rfl) (fun _ _ _ h => h) (Or.inl ⟨by rfl, ?_⟩) ?_ ?_
  rotate_left
  · intro w'
    go_simp
    with_reducible rfl
  rotate_left
  · simp only [Act.put, List.setIfInBounds_toArray, List.set_cons_zero, List.set_cons_succ, i64_w, i32_w]
    rfl
  refine pure_ (i := 7) (N := some 21) (v := ?_) (a' := ?_) #[true, true, true, true, true, true, true, true, false, false, false] rfl rfl (by kernel_rfl) (fun _ _ _ h => h) (Or.inl ⟨by rfl, ?_⟩) ?_ ?_
  rotate_left
  · intro w'
    go_simp
    with_reducible rfl
  rotate_left
  · simp only [Act.put, List.setIfInBounds_toArray, List.set_cons_zero, List.set_cons_succ, i64_w, i32_w]
    rfl
  refine pure_ (i := 8) (N := some 22) (v := ?_) (a' := ?_) #[true, true, true, true, true, true, true, true, true, false, false] rfl rfl (by kernel_rfl) (fun _ _ _ h => h) (Or.inl ⟨by rfl, ?_⟩) ?_ ?_
  rotate_left
  · intro w'
    go_simp
    with_reducible rfl
  rotate_left
  · simp only [Act.put, List.setIfInBounds_toArray, List.set_cons_zero, List.set_cons_succ, i64_w, i32_w]
    rfl
  refine pure_ (i := 9) (N := some 6) (v := ?_) (a' := ?_) #[true, true, true, true, true, true, true, true, true, true, false] rfl rfl (by kernel_rfl) (fun _ _ _ h => h) (Or.inl ⟨by rfl, ?_⟩) ?_ ?_
  rotate_left
  · intro w'
    go_simp
    with_reducible rfl
  rotate_left
  · simp only [Act.put, List.setIfInBounds_toArray, List.set_cons_zero, List.set_cons_succ, i64_w, i32_w]
    rfl
  refine pure_ (i := 10) (N := some 7) (v := ?_) (a' := ?_) #[true, true, true, true, true, true, true, true, true, true, true] rfl rfl (by kernel_rfl) (fun _ _ _ h => h) (Or.inl ⟨by rfl, ?_⟩) ?_ ?_
  rotate_left
  · intro w'
    go_simp
    with_reducible rfl
  rotate_left
  · simp only [Act.put, List.setIfInBounds_toArray, List.set_cons_zero, List.set_cons_succ, i64_w, i32_w]
    rfl
  refine done_ (by kernel_rfl) ?_
  have HSF := Aside0.mk (scan_facts HL.out.2.2.2 c)
  obtain ⟨rows, hrows⟩ : ∃ r, (scanR (logF n las wt a b c) c).1 = r := ⟨_, rfl⟩
  have HR : Aside0 (recR n las wt a b c = recsF b rows) := ⟨by unfold recR; rw [hrows]⟩
  have HLG : Aside0 (longs rows ≤ 10240) := ⟨by rw [← hrows, HSF.out.2.1]; exact Nat.le_trans HSF.out.2.2 HL.out.2.2.1⟩
  have HBR : Aside0 (∀ x ∈ rows, Bytes x) := ⟨by rw [← hrows]; exact HSF.out.1⟩
  rw [hrows] at B4
  obtain ⟨N, hN⟩ : ∃ N, rows.length = N := ⟨_, rfl⟩
  have HN := Aside0.mk hN
  obtain ⟨A4, c4, rfl⟩ := B4.out.rowN (n := N) hN
  have B5 := Aside0.mk (B4.out.nilRow K3 47)
  have hN2 : N ≤ 10240 := by have := longs_len rows; have := HLG.out; omega
  clear hrows hN
  go_wp2_with fail
  go_loopg [8, 9, 25] N (fun k_ v s p wr => ∃ (out : List (List Chg)) (tot j : Nat), s = .int .i64 (tot : Int) ∧ p = .int .i64 (j : Int) ∧ j + k_ = N ∧ RecAt b rows out tot j ∧ Sep w0 wr (Row K3 47 v out :: Row K2 30 (.slice A4 N c4) rows :: Row U8 5 (.slice A3 (logF n las wt a b c).length c3) (logF n las wt a b c) :: RT g n las wt d :: Blk W.heap.size 26 #[.int .i64 a, .int .i64 b, .int .u32 c] :: F))
  case atStart => exact ⟨[], 0, 0, rfl, rfl, by omega, rec_start b rows, B5.out⟩
  case round =>
    obtain ⟨out, tot, j, rfl, rfl, hjm, hra, hS⟩ := hrel
    have AK := Aside0.mk hjm
    have AS := Aside0.mk hS
    have HRA := Aside0.mk hra
    obtain ⟨A6, c6, rfl⟩ := hS.rowN (n := j) hra.num
    clear hS hra
    by_cases cj : j < N
    case neg =>
      obtain rfl : j = N := by omega
      have hjl : ¬ (j : Int) < (j : Int) := by omega
      have HV : Aside0 (recR n las wt a b c = (out, tot)) := ⟨HR.out.trans (rec_end HRA.out (by rw [HN.out]; exact Nat.le_refl _))⟩
      clear hjm cj
      go_wp2_with fail
      go_ret2
      exact ⟨_, by rw [HV.out]; first | rfl | (simp; done), by rw [HV.out]; exact AS.out.drop2.drop2.at3.tail⟩
    case pos =>
    have hjl : (j : Int) < (N : Int) := by omega
    obtain ⟨hx, ad, B, cB, rfl, hcell, hlc, hCB⟩ := slice_at AS.out.at2.rowC' cj
    have z0 := (AS.out.at5.cell 0).trans rfl
    have z1 := (AS.out.at5.cell 1).trans rfl
    have z2 := (AS.out.at5.cell 2).trans rfl
    obtain ⟨XL, hXL⟩ : ∃ L, rows[j].length = L := ⟨_, rfl⟩
    rw [hXL] at hcell hlc hCB
    have hbx := HBR.out _ (List.getElem_mem hx)
    have hla := long_at hx
    rw [hXL] at hla
    have HX := Aside0.mk (And.intro hlc (And.intro hCB (And.intro hbx (show XL ≤ 1000000 by have := HLG.out; omega))))
    cases hu : undeltaF rows[j] b with
    | none =>
      have HU := Aside0.mk hu
      have HV : Aside0 (recR n las wt a b c = (out, tot)) := ⟨HR.out.trans (rec_none HRA.out hx hu)⟩
      clear hjm hu hla hXL hlc hCB hbx
      go_wp2_with fail
      refine (runde_none HU.out HX.out.2.1 HX.out.1 HX.out.2.2.1 HX.out.2.2.2).mono ?_
      rintro e w6 ⟨v6, rfl, hb6⟩
      have B6 := Aside0.mk (AS.out.below hb6)
      clear hb6
      go_wp2_with fail
      go_ret2
      exact ⟨_, by rw [HV.out]; first | rfl | (simp; done), by rw [HV.out]; exact B6.out.drop2.drop2.at3.tail⟩
    | some x =>
      have HU := Aside0.mk hu
      have hra2 := rec_some HRA.out hx hu
      have hrt := rec_tot hra2
      rw [hXL] at hra2 hrt
      obtain ⟨T2, hT2⟩ : ∃ T, tot + (16 + XL) = T := ⟨_, rfl⟩
      obtain ⟨y1, y2, X16, y3, y4⟩ := rc_nums (t := tot) (x := XL) (n := 10240) (Nat.le_trans hrt HLG.out) (by decide) hT2
      rw [hT2] at hra2
      have HR2 := Aside0.mk hra2
      have hj2 : (j + 1) * 24 ≤ 140737488355328 := by omega
      have HJ2 := Aside0.mk hj2
      clear hjm hu hla hXL hlc hCB hbx hra2 hrt hj2 hT2
      go_wp2_with fail
      refine (runde_some HU.out HX.out.2.1 HX.out.1 HX.out.2.2.1 HX.out.2.2.2).mono ?_
      rintro e w6 ⟨v6, rfl, hS6⟩
      have L6 := Aside0.mk ((AS.out.lift1 hS6).elSlice.at2)
      obtain ⟨A7, c7, rfl⟩ := hS6.rowV
      clear hS6
      go_wp2_with (first | (refine gate_builtin (b := .append) (xs := #[.tmp 38, .tmp 40]) rfl ?_; go_loud (refine L6.out.appendDeep rfl (.tmp 38) (.tmp 40) 133 _ 24 rfl Try.underlying133 infoK rfl (by decide) (by decide) rfl rfl (by rw [HRA.out.num]; exact HJ2.out) ?_; intro v8 w8 hs8 hS8; have B8 := Aside0.mk hS8; clear hS8)))
      go_roundg (gk - 1)
      case measure => have := AK.out; omega
      case rel => exact ⟨out ++ [x], T2, j + 1, by go_num, by go_num, by have := AK.out; omega, HR2.out, B8.out⟩
end
end Go.Proofs.Ytjngnigelkgekaa.Redo
