/- StRef2, StOpen2, Heal1: what HealCounts needs. -/
import Derived.Test.YtjngnigelkgekaaGreatThealCounts25
set_option linter.unusedVariables false
set_option linter.unusedSimpArgs false
namespace Go.Proofs.YtjngnigelkgekaaGreat.RStore
open Go.RowKit Go.Proofs.YtjngnigelkgekaaGreatW.PrintWords Go.Proofs.YtjngnigelkgekaaGreatW.PrintLast Go.Proofs.YtjngnigelkgekaaGreatW.PrintMore Go.Proofs.YtjngnigelkgekaaGreat.Kit Go.Proofs.YtjngnigelkgekaaGreat.Plain Go.Proofs.YtjngnigelkgekaaGreat.Disk Go.Proofs.YtjngnigelkgekaaGreat.Root
open Go.Proofs.YtjngnigelkgekaaGreat.Delta (Chg KC deltaF rightF okF rchanges_ rdelta_ needF)
open Go.Proofs.YtjngnigelkgekaaGreat.Store (KP applyF applyF_len fitsF fits_in rfits_ right_all)
open Go.Proofs.YtjngnigelkgekaaGreat.Frame (frameF frameF_len frameF_bytes rframe_)
open Go.Proofs.YtjngnigelkgekaaGreat.Redo (appR okA sizeF rappend_)
open Go.Proofs.YtjngnigelkgekaaGreat.Home (RT)
theorem rc2_nums {u k sq : Nat} (h : u + k ≤ 4096) (hs : sq ≤ 1000000) : wrap64 ((u : Int) + (k : Int)) = ((u + k : Nat) : Int) ∧ IntKind.u32.wrap ((sq : Int) + 1) = ((sq + 1 : Nat) : Int) := ⟨by rw [IntWalk.wrap64_in _ (by omega)]; omega, by rw [IntKind.wrap_u32]; omega⟩
section
variable {w0 W : World} {F : List HP} {gx gr n : Nat} {a b ep : Int} {pages : List (List Int)} {nm : List Bool} {used seq : Nat} {las : List Int} {wt : Wt}
set_option maxHeartbeats 1600000 in
set_option maxRecDepth 100000 in
theorem rcommit_bad (h : Sep w0 W (RStB gx gr a b ep pages nm used seq :: F)) {A2 : Option Addr} {n2 c2 : Nat} {l : List Chg} (hC : KC.C W A2 n2 l) (hr : rightF l b = false) :
    Calls Tryz.prog 43 #[.pointer (some ⟨gx, 0, none⟩), .slice A2 n2 c2] W fun e w' => e = .returned (.int .i64 1) ∧ Sep w0 w' (RStB gx gr a b ep pages nm used seq :: F) := by
  obtain ⟨hp, gp, cp, gn, cn, hs⟩ := rstb_open h
  have H0 := Aside0.mk h
  have HC := Aside0.mk hC
  have HR := Aside0.mk hr
  have z2 := (hs.cell 2).trans rfl
  clear h hs hC hr hp
  go_enter Tryz.func43, Tryz.ntmps43
  go_wp2_with fail
  refine (rchanges_ HC.out b).mono ?_
  rintro e w1 ⟨rfl, hb1⟩
  rw [HR.out]
  have B1 := Aside0.mk (H0.out.below hb1)
  clear hb1
  go_wp2_with fail
  go_ret
  exact ⟨by first | rfl | (simp; done), B1.out⟩
set_option maxHeartbeats 1600000 in
set_option maxRecDepth 100000 in
theorem rcommit_full (h : Sep w0 W (RStB gx gr a b ep pages nm used seq :: F)) {A2 : Option Addr} {n2 c2 : Nat} {l : List Chg} (hC : KC.C W A2 n2 l) (hr : rightF l b = true) (hu : (used : Int) ≤ sizeF a) (hf : fitsF a used n2 = false) :
    Calls Tryz.prog 43 #[.pointer (some ⟨gx, 0, none⟩), .slice A2 n2 c2] W fun e w' => e = .returned (.int .i64 24) ∧ Sep w0 w' (RStB gx gr a b ep pages nm used seq :: F) := by
  obtain ⟨hp, gp, cp, gn, cn, hs⟩ := rstb_open h
  have HS := Aside0.mk hs
  have HPP := Aside0.mk hp
  have HC := Aside0.mk hC
  have HR := Aside0.mk hr
  have HU := Aside0.mk hu
  have HF := Aside0.mk hf
  have hm2 : n2 ≤ 9223372036854775807 := hC.2.1
  have z2 := (hs.cell 2).trans rfl
  clear h hs hC hr hu hf hp
  go_enter Tryz.func43, Tryz.ntmps43
  go_wp2_with fail
  refine (rchanges_ HC.out b).mono ?_
  rintro e w1 ⟨rfl, hb1⟩
  rw [HR.out]
  have B1 := Aside0.mk (HS.out.below hb1).drew
  clear hb1 z2
  go_wp2_with fail
  refine start_ (n := 12) (S := fun w' => w'.cell? ⟨gx, 1, none⟩ = some (.int .i64 a) ∧ w'.cell? ⟨gx, 2, none⟩ = some (.int .i64 b) ∧ w'.cell? ⟨gx, 3, none⟩ = some (.int .u32 ep) ∧ w'.cell? ⟨gx, 6, none⟩ = some (.int .i64 (used : Int))) (ds := [10]) #[false, false, false, false, false, false, false, false, false, false, false, false] (by kernel_rfl) rfl rfl ⟨(B1.out.cell 1).trans rfl, (B1.out.cell 2).trans rfl, (B1.out.cell 3).trans rfl, (B1.out.cell 6).trans rfl⟩ (fun hHeld => ?_)
  refine pure_ (i := 0) (N := some 14) (v := ?_) (a' := ?_) #[true, false, false, false, false, false, false, false, false, false, false, false] rfl rfl (by kernel_rfl) (fun _ _ _ h => h) (Or.inl ⟨by rfl, ?_⟩) ?_ ?_
  rotate_left
  · intro w'
    go_simp
    with_reducible rfl
  rotate_left
  · simp only [Act.put, sIB, sCz, sCs, i64_w, i32_w]
    rfl
  refine pure_ (i := 1) (N := some 15) (v := ?_) (a' := ?_) #[true, true, false, false, false, false, false, false, false, false, false, false] rfl rfl (by kernel_rfl) (fun _ _ _ h => h) (Or.inl ⟨by rfl, ?_⟩) ?_ ?_
  rotate_left
  · intro w'
    go_simp
    with_reducible rfl
  rotate_left
  · simp only [Act.put, sIB, sCz, sCs, i64_w, i32_w]
    rfl
  refine pure_ (i := 2) (N := some 16) (v := ?_) (a' := ?_) #[true, true, true, false, false, false, false, false, false, false, false, false] rfl rfl (by kernel_rfl) (fun _ _ _ h => h) (Or.inl ⟨by rfl, ?_⟩) ?_ ?_
  rotate_left
  · intro w'
    go_simp
    with_reducible rfl
  rotate_left
  · simp only [Act.put, sIB, sCz, sCs, i64_w, i32_w]
    rfl
  refine pure_ (i := 4) (N := some 18) (v := ?_) (a' := ?_) #[true, true, true, false, true, false, false, false, false, false, false, false] rfl rfl (by kernel_rfl) (fun _ _ _ h => h) (Or.inl ⟨by rfl, ?_⟩) ?_ ?_
  rotate_left
  · intro w'
    go_simp
    with_reducible rfl
  rotate_left
  · simp only [Act.put, sIB, sCz, sCs, i64_w, i32_w]
    rfl
  refine pure_ (i := 5) (N := some 19) (v := ?_) (a' := ?_) #[true, true, true, false, true, true, false, false, false, false, false, false] rfl rfl (by kernel_rfl) (fun _ _ _ h => h) (Or.inl ⟨by rfl, ?_⟩) ?_ ?_
  rotate_left
  · intro w'
    go_simp
    with_reducible rfl
  rotate_left
  · simp only [Act.put, sIB, sCz, sCs, i64_w, i32_w]
    rfl
  refine pure_ (i := 6) (N := some 20) (v := ?_) (a' := ?_) #[true, true, true, false, true, true, true, false, false, false, false, false] rfl rfl (by kernel_rfl) (fun _ _ _ h => h) (Or.inl ⟨by rfl, ?_⟩) ?_ ?_
  rotate_left
  · intro w'
    go_simp
    with_reducible rfl
  rotate_left
  · simp only [Act.put, sIB, sCz, sCs, i64_w, i32_w]
    rfl
  refine pure_ (i := 8) (N := some 22) (v := ?_) (a' := ?_) #[true, true, true, false, true, true, true, false, true, false, false, false] rfl rfl (by kernel_rfl) (fun _ _ _ h => h) (Or.inl ⟨by rfl, ?_⟩) ?_ ?_
  rotate_left
  · intro w'
    go_simp
    with_reducible rfl
  rotate_left
  · simp only [Act.put, sIB, sCz, sCs, i64_w, i32_w]
    rfl
  refine pure_ (i := 9) (N := some 23) (v := ?_) (a' := ?_) #[true, true, true, false, true, true, true, false, true, true, false, false] rfl rfl (by kernel_rfl) (fun _ _ _ h => h) (Or.inl ⟨by rfl, ?_⟩) ?_ ?_
  rotate_left
  · intro w'
    go_simp
    with_reducible rfl
  rotate_left
  · simp only [Act.put, sIB, sCz, sCs, i64_w, i32_w]
    rfl
  refine take_ (i := 3) (N := some 17) (v := ?_) (a' := ?_) #[true, true, true, true, true, true, true, false, true, true, false, false] rfl rfl (by kernel_rfl) (fun _ _ _ h => h) (Or.inl ⟨by rfl, ?_⟩) hHeld ?_ ?_
  rotate_left
  · rintro w' ⟨s0, s1, s2, s3⟩
    go_simp
    with_reducible rfl
  rotate_left
  · simp only [Act.put, sIB, sCz, sCs, i64_w, i32_w]
    rfl
  refine take_ (i := 7) (N := some 21) (v := ?_) (a' := ?_) #[true, true, true, true, true, true, true, true, true, true, false, false] rfl rfl (by kernel_rfl) (fun _ _ _ h => h) (Or.inl ⟨by rfl, ?_⟩) hHeld ?_ ?_
  rotate_left
  · rintro w' ⟨s0, s1, s2, s3⟩
    go_simp
    with_reducible rfl
  rotate_left
  · simp only [Act.put, sIB, sCz, sCs, i64_w, i32_w]
    rfl
  refine last_ (i := 10) (N := some 24) #[true, true, true, true, true, true, true, true, true, true, true, false] rfl rfl (by kernel_rfl) (by decide) (fun K hK => ?_)
  refine goes_ Tryz.func84 (by kernel_rfl) rfl #[.agg #[.int .i64 a, .int .i64 b, .int .u32 ep], .int .i64 (used : Int), .int .i64 (n2 : Int)] (by rfl) rfl rfl (by simp only [List.map_toArray, List.map_cons, List.map_nil]; rfl) ?_
  with_reducible refine (rfits_ a b ep used n2 HU.out _).mono ?_
  rintro e w3 ⟨rfl, hb3⟩
  refine ⟨_, rfl, ?_⟩
  rw [HF.out]
  have B3 := Aside0.mk (B1.out.below hb3)
  clear hb3
  refine hK.out _ _ ?_
  clear hK K
  refine norm_ (a' := ?_) ?_ ?_
  rotate_left
  · show Act.put _ (some 24) _ = _
    simp only [Act.put, sIB, sCz, sCs, i64_w, i32_w]
    rfl
  refine pure_ (i := 11) (N := some 25) (v := ?_) (a' := ?_) #[true, true, true, true, true, true, true, true, true, true, true, true] rfl rfl (by kernel_rfl) (fun _ _ _ h => h) (Or.inl ⟨by rfl, ?_⟩) ?_ ?_
  rotate_left
  · intro w'
    go_simp
    with_reducible rfl
  rotate_left
  · simp only [Act.put, sIB, sCz, sCs, i64_w, i32_w]
    rfl
  refine done_ (by kernel_rfl) ?_
  go_wp2_with fail
  go_ret
  exact ⟨by first | rfl | (simp; done), rstb_shut HPP.out B3.out⟩
set_option maxHeartbeats 3200000 in
set_option maxRecDepth 100000 in
theorem rcommit_ok {d : Nat} (h : Sep w0 W (RStB gx gr a b ep pages nm used seq :: RT gr n las wt d :: F)) (hl : las.length = 64 * n) (hn : n ≤ 160) (hd : d ≤ 900000) (hw : ∀ i b, wt i = some b → b.length = 64) {A2 : Option Addr} {n2 c2 : Nat} {l : List Chg} (hC : ∀ W', Sep w0 W' F → KC.C W' A2 n2 l) (hr : rightF l b = true) (hu : (used : Int) ≤ sizeF a) (hf : fitsF a used n2 = true)
    (hep : 0 ≤ ep ∧ ep ≤ 4294967295) (hsq : seq ≤ 1000000) (hbp : (pages.length : Int) = b) :
    Calls Tryz.prog 43 #[.pointer (some ⟨gx, 0, none⟩), .slice A2 n2 c2] W fun e w' => e = .returned (.int .i64 0) ∧ ∃ d' : Nat, d' ≤ d + 64 ∧ Sep w0 w' (RStB gx gr a b ep (applyF pages l) (nmF nm l) (used + (18 + 66 * n2)) (seq + 1) :: RT gr n las (appR n las wt a b ep (used : Int) (frameF ep (seq : Int) (deltaF l))) d' :: F) := by
  have hC0 := hC W h.tail.tail
  have hln := hC0.1
  obtain ⟨hp, gp, cp, gn, cn, hs⟩ := rstb_open h
  have HPP := Aside0.mk hp
  obtain ⟨N, hN⟩ : ∃ N, pages.length = N := ⟨_, rfl⟩
  rw [hN] at hs hbp
  have hs1 := Redo.sizeF_in a
  have hfi := fits_in hf
  have hok : okF b (-1) l = true := by
    have h2 := hr
    unfold rightF at h2
    rw [Bool.and_eq_true] at h2
    exact h2.2
  have hall := right_all hok (by decide)
  have hdl : (deltaF l).length = 2 + 66 * n2 := by
    unfold deltaF
    rw [List.length_append, Redo.okF_len hok, hln]; rfl
  have HFL : Aside0 ((frameF ep (seq : Int) (deltaF l)).length = 18 + 66 * n2) := ⟨by rw [frameF_len, hdl]; omega⟩
  have HS := Aside0.mk hs
  have HC := Aside0.mk hC
  have HR := Aside0.mk hr
  have HU := Aside0.mk hu
  have HF := Aside0.mk hf
  have HL := Aside0.mk (And.intro hl (And.intro hn (And.intro hw hd)))
  have HDL := Aside0.mk hdl
  have HN2 := Aside0.mk hfi.1
  have HN := Aside0.mk hN
  have HEP := Aside0.mk hep
  have HSQ := Aside0.mk hsq
  have HAL : Aside0 (∀ c ∈ l, 0 ≤ c.1 ∧ c.1 < (pages.length : Int) ∧ c.2.length ≤ 1000000) := ⟨fun x hx => by
    have h1 := hall x hx
    omega⟩
  obtain ⟨e1, e2⟩ := rc2_nums (u := used) (k := 18 + 66 * n2) (sq := seq) (by have := hfi.2; have := hs1.2; omega) hsq
  obtain ⟨KF, hK_⟩ : ∃ K, 18 + 66 * n2 = K := ⟨_, rfl⟩
  rw [hK_] at e1 HFL
  have HKK := Aside0.mk hK_
  obtain ⟨U2, hU2⟩ : ∃ u, used + KF = u := ⟨_, rfl⟩
  obtain ⟨S2, hS2⟩ : ∃ u, seq + 1 = u := ⟨_, rfl⟩
  rw [hU2] at e1
  rw [hS2] at e2
  have HU2 := Aside0.mk hU2
  have HS2 := Aside0.mk hS2
  have hn64 : n2 ≤ 64 := hfi.1
  have z2 := (hs.cell 2).trans rfl
  clear h hs hC hC0 hr hu hf hl hn hw hd hln hN hs1 hfi hok hall hdl hK_ hU2 hS2 hp hbp hep hsq
  go_enter Tryz.func43, Tryz.ntmps43
  go_wp2_with fail
  refine (rchanges_ (HC.out _ HS.out.tail.tail.tail.tail) b).mono ?_
  rintro e w1 ⟨rfl, hb1⟩
  rw [HR.out]
  have B1 := Aside0.mk (HS.out.below hb1).drew
  clear hb1 z2
  go_wp2_with fail
  refine start_ (n := 12) (S := fun w' => w'.cell? ⟨gx, 1, none⟩ = some (.int .i64 a) ∧ w'.cell? ⟨gx, 2, none⟩ = some (.int .i64 b) ∧ w'.cell? ⟨gx, 3, none⟩ = some (.int .u32 ep) ∧ w'.cell? ⟨gx, 6, none⟩ = some (.int .i64 (used : Int))) (ds := [10]) #[false, false, false, false, false, false, false, false, false, false, false, false] (by kernel_rfl) rfl rfl ⟨(B1.out.cell 1).trans rfl, (B1.out.cell 2).trans rfl, (B1.out.cell 3).trans rfl, (B1.out.cell 6).trans rfl⟩ (fun hHeld => ?_)
  refine pure_ (i := 0) (N := some 14) (v := ?_) (a' := ?_) #[true, false, false, false, false, false, false, false, false, false, false, false] rfl rfl (by kernel_rfl) (fun _ _ _ h => h) (Or.inl ⟨by rfl, ?_⟩) ?_ ?_
  rotate_left
  · intro w'
    go_simp
    with_reducible rfl
  rotate_left
  · simp only [Act.put, sIB, sCz, sCs, i64_w, i32_w]
    rfl
  refine pure_ (i := 1) (N := some 15) (v := ?_) (a' := ?_) #[true, true, false, false, false, false, false, false, false, false, false, false] rfl rfl (by kernel_rfl) (fun _ _ _ h => h) (Or.inl ⟨by rfl, ?_⟩) ?_ ?_
  rotate_left
  · intro w'
    go_simp
    with_reducible rfl
  rotate_left
  · simp only [Act.put, sIB, sCz, sCs, i64_w, i32_w]
    rfl
  refine pure_ (i := 2) (N := some 16) (v := ?_) (a' := ?_) #[true, true, true, false, false, false, false, false, false, false, false, false] rfl rfl (by kernel_rfl) (fun _ _ _ h => h) (Or.inl ⟨by rfl, ?_⟩) ?_ ?_
  rotate_left
  · intro w'
    go_simp
    with_reducible rfl
  rotate_left
  · simp only [Act.put, sIB, sCz, sCs, i64_w, i32_w]
    rfl
  refine pure_ (i := 4) (N := some 18) (v := ?_) (a' := ?_) #[true, true, true, false, true, false, false, false, false, false, false, false] rfl rfl (by kernel_rfl) (fun _ _ _ h => h) (Or.inl ⟨by rfl, ?_⟩) ?_ ?_
  rotate_left
  · intro w'
    go_simp
    with_reducible rfl
  rotate_left
  · simp only [Act.put, sIB, sCz, sCs, i64_w, i32_w]
    rfl
  refine pure_ (i := 5) (N := some 19) (v := ?_) (a' := ?_) #[true, true, true, false, true, true, false, false, false, false, false, false] rfl rfl (by kernel_rfl) (fun _ _ _ h => h) (Or.inl ⟨by rfl, ?_⟩) ?_ ?_
  rotate_left
  · intro w'
    go_simp
    with_reducible rfl
  rotate_left
  · simp only [Act.put, sIB, sCz, sCs, i64_w, i32_w]
    rfl
  refine pure_ (i := 6) (N := some 20) (v := ?_) (a' := ?_) #[true, true, true, false, true, true, true, false, false, false, false, false] rfl rfl (by kernel_rfl) (fun _ _ _ h => h) (Or.inl ⟨by rfl, ?_⟩) ?_ ?_
  rotate_left
  · intro w'
    go_simp
    with_reducible rfl
  rotate_left
  · simp only [Act.put, sIB, sCz, sCs, i64_w, i32_w]
    rfl
  refine pure_ (i := 8) (N := some 22) (v := ?_) (a' := ?_) #[true, true, true, false, true, true, true, false, true, false, false, false] rfl rfl (by kernel_rfl) (fun _ _ _ h => h) (Or.inl ⟨by rfl, ?_⟩) ?_ ?_
  rotate_left
  · intro w'
    go_simp
    with_reducible rfl
  rotate_left
  · simp only [Act.put, sIB, sCz, sCs, i64_w, i32_w]
    rfl
  refine pure_ (i := 9) (N := some 23) (v := ?_) (a' := ?_) #[true, true, true, false, true, true, true, false, true, true, false, false] rfl rfl (by kernel_rfl) (fun _ _ _ h => h) (Or.inl ⟨by rfl, ?_⟩) ?_ ?_
  rotate_left
  · intro w'
    go_simp
    with_reducible rfl
  rotate_left
  · simp only [Act.put, sIB, sCz, sCs, i64_w, i32_w]
    rfl
  refine take_ (i := 3) (N := some 17) (v := ?_) (a' := ?_) #[true, true, true, true, true, true, true, false, true, true, false, false] rfl rfl (by kernel_rfl) (fun _ _ _ h => h) (Or.inl ⟨by rfl, ?_⟩) hHeld ?_ ?_
  rotate_left
  · rintro w' ⟨s0, s1, s2, s3⟩
    go_simp
    with_reducible rfl
  rotate_left
  · simp only [Act.put, sIB, sCz, sCs, i64_w, i32_w]
    rfl
  refine take_ (i := 7) (N := some 21) (v := ?_) (a' := ?_) #[true, true, true, true, true, true, true, true, true, true, false, false] rfl rfl (by kernel_rfl) (fun _ _ _ h => h) (Or.inl ⟨by rfl, ?_⟩) hHeld ?_ ?_
  rotate_left
  · rintro w' ⟨s0, s1, s2, s3⟩
    go_simp
    with_reducible rfl
  rotate_left
  · simp only [Act.put, sIB, sCz, sCs, i64_w, i32_w]
    rfl
  refine last_ (i := 10) (N := some 24) #[true, true, true, true, true, true, true, true, true, true, true, false] rfl rfl (by kernel_rfl) (by decide) (fun K hK => ?_)
  refine goes_ Tryz.func84 (by kernel_rfl) rfl #[.agg #[.int .i64 a, .int .i64 b, .int .u32 ep], .int .i64 (used : Int), .int .i64 (n2 : Int)] (by rfl) rfl rfl (by simp only [List.map_toArray, List.map_cons, List.map_nil]; rfl) ?_
  with_reducible refine (rfits_ a b ep used n2 HU.out _).mono ?_
  rintro e w3 ⟨rfl, hb3⟩
  refine ⟨_, rfl, ?_⟩
  rw [HF.out]
  have B3 := Aside0.mk (B1.out.below hb3).drew
  clear hb3
  refine hK.out _ _ ?_
  clear hK K
  refine norm_ (a' := ?_) ?_ ?_
  rotate_left
  · show Act.put _ (some 24) _ = _
    simp only [Act.put, sIB, sCz, sCs, i64_w, i32_w]
    rfl
  refine pure_ (i := 11) (N := some 25) (v := ?_) (a' := ?_) #[true, true, true, true, true, true, true, true, true, true, true, true] rfl rfl (by kernel_rfl) (fun _ _ _ h => h) (Or.inl ⟨by rfl, ?_⟩) ?_ ?_
  rotate_left
  · intro w'
    go_simp
    with_reducible rfl
  rotate_left
  · simp only [Act.put, sIB, sCz, sCs, i64_w, i32_w]
    rfl
  refine done_ (by kernel_rfl) ?_
  go_wp2_with fail
  refine start_ (n := 13) (S := fun w' => w'.cell? ⟨gx, 3, none⟩ = some (.int .u32 ep) ∧ w'.cell? ⟨gx, 7, none⟩ = some (.int .u32 (seq : Int))) (ds := [11]) #[false, false, false, false, false, false, false, false, false, false, false, false, false] (by kernel_rfl) rfl rfl ⟨(B3.out.cell 3).trans rfl, (B3.out.cell 7).trans rfl⟩ (fun hHeld => ?_)
  refine pure_ (i := 0) (N := some 26) (v := ?_) (a' := ?_) #[true, false, false, false, false, false, false, false, false, false, false, false, false] rfl rfl (by kernel_rfl) (fun _ _ _ h => h) (Or.inl ⟨by rfl, ?_⟩) ?_ ?_
  rotate_left
  · intro w'
    go_simp
    with_reducible rfl
  rotate_left
  · simp only [Act.put, sIB, sCz, sCs, i64_w, i32_w]
    rfl
  refine pure_ (i := 1) (N := some 27) (v := ?_) (a' := ?_) #[true, true, false, false, false, false, false, false, false, false, false, false, false] rfl rfl (by kernel_rfl) (fun _ _ _ h => h) (Or.inl ⟨by rfl, ?_⟩) ?_ ?_
  rotate_left
  · intro w'
    go_simp
    with_reducible rfl
  rotate_left
  · simp only [Act.put, sIB, sCz, sCs, i64_w, i32_w]
    rfl
  refine pure_ (i := 2) (N := some 28) (v := ?_) (a' := ?_) #[true, true, true, false, false, false, false, false, false, false, false, false, false] rfl rfl (by kernel_rfl) (fun _ _ _ h => h) (Or.inl ⟨by rfl, ?_⟩) ?_ ?_
  rotate_left
  · intro w'
    go_simp
    with_reducible rfl
  rotate_left
  · simp only [Act.put, sIB, sCz, sCs, i64_w, i32_w]
    rfl
  refine pure_ (i := 3) (N := some 29) (v := ?_) (a' := ?_) #[true, true, true, true, false, false, false, false, false, false, false, false, false] rfl rfl (by kernel_rfl) (fun _ _ _ h => h) (Or.inl ⟨by rfl, ?_⟩) ?_ ?_
  rotate_left
  · intro w'
    go_simp
    with_reducible rfl
  rotate_left
  · simp only [Act.put, sIB, sCz, sCs, i64_w, i32_w]
    rfl
  refine pure_ (i := 5) (N := some 31) (v := ?_) (a' := ?_) #[true, true, true, true, false, true, false, false, false, false, false, false, false] rfl rfl (by kernel_rfl) (fun _ _ _ h => h) (Or.inl ⟨by rfl, ?_⟩) ?_ ?_
  rotate_left
  · intro w'
    go_simp
    with_reducible rfl
  rotate_left
  · simp only [Act.put, sIB, sCz, sCs, i64_w, i32_w]
    rfl
  refine pure_ (i := 6) (N := some 32) (v := ?_) (a' := ?_) #[true, true, true, true, false, true, true, false, false, false, false, false, false] rfl rfl (by kernel_rfl) (fun _ _ _ h => h) (Or.inl ⟨by rfl, ?_⟩) ?_ ?_
  rotate_left
  · intro w'
    go_simp
    with_reducible rfl
  rotate_left
  · simp only [Act.put, sIB, sCz, sCs, i64_w, i32_w]
    rfl
  refine pure_ (i := 7) (N := some 33) (v := ?_) (a' := ?_) #[true, true, true, true, false, true, true, true, false, false, false, false, false] rfl rfl (by kernel_rfl) (fun _ _ _ h => h) (Or.inl ⟨by rfl, ?_⟩) ?_ ?_
  rotate_left
  · intro w'
    go_simp
    with_reducible rfl
  rotate_left
  · simp only [Act.put, sIB, sCz, sCs, i64_w, i32_w]
    rfl
  refine pure_ (i := 9) (N := some 35) (v := ?_) (a' := ?_) #[true, true, true, true, false, true, true, true, false, true, false, false, false] rfl rfl (by kernel_rfl) (fun _ _ _ h => h) (Or.inl ⟨by rfl, ?_⟩) ?_ ?_
  rotate_left
  · intro w'
    go_simp
    with_reducible rfl
  rotate_left
  · simp only [Act.put, sIB, sCz, sCs, i64_w, i32_w]
    rfl
  refine take_ (i := 4) (N := some 30) (v := ?_) (a' := ?_) #[true, true, true, true, true, true, true, true, false, true, false, false, false] rfl rfl (by kernel_rfl) (fun _ _ _ h => h) (Or.inl ⟨by rfl, ?_⟩) hHeld ?_ ?_
  rotate_left
  · rintro w' ⟨s0, s1⟩
    go_simp
    with_reducible rfl
  rotate_left
  · simp only [Act.put, sIB, sCz, sCs, i64_w, i32_w]
    rfl
  refine take_ (i := 8) (N := some 34) (v := ?_) (a' := ?_) #[true, true, true, true, true, true, true, true, true, true, false, false, false] rfl rfl (by kernel_rfl) (fun _ _ _ h => h) (Or.inl ⟨by rfl, ?_⟩) hHeld ?_ ?_
  rotate_left
  · rintro w' ⟨s0, s1⟩
    go_simp
    with_reducible rfl
  rotate_left
  · simp only [Act.put, sIB, sCz, sCs, i64_w, i32_w]
    rfl
  refine one_ (i := 10) (N := some 36) #[true, true, true, true, true, true, true, true, true, true, true, false, false] rfl rfl (by kernel_rfl) (by decide) (fun K hK => ?_)
  refine goes_ Tryz.func34 (by kernel_rfl) rfl #[.slice A2 n2 c2] (by rfl) rfl rfl (by simp only [List.map_toArray, List.map_cons, List.map_nil]; rfl) ?_
  with_reducible refine (rdelta_ (HC.out _ B3.out.tail.tail.tail.tail) (by rw [HDL.out]; have := HN2.out; omega)).mono ?_
  rintro e w4 ⟨v4, rfl, hS4⟩
  refine ⟨_, rfl, ?_⟩
  obtain ⟨A4, c4, rfl⟩ := hS4.rowN HDL.out
  have B4 := Aside0.mk (B3.out.lift1 hS4)
  clear hS4
  refine hK.out _ _ ⟨(B4.out.at2.cell 3).trans rfl, (B4.out.at2.cell 7).trans rfl⟩ (fun hHeld => ?_)
  clear hK K
  refine norm_ (a' := ?_) ?_ ?_
  rotate_left
  · show Act.put _ (some 36) _ = _
    simp only [Act.put, sIB, sCz, sCs, i64_w, i32_w]
    rfl
  refine last_ (i := 11) (N := some 37) #[true, true, true, true, true, true, true, true, true, true, true, true, false] rfl rfl (by kernel_rfl) (by decide) (fun K hK => ?_)
  refine goes_ Tryz.func85 (by kernel_rfl) rfl #[.int .u32 ep, .int .u32 (seq : Int), .slice A4 (2 + 66 * n2) c4] (by rfl) rfl rfl (by simp only [List.map_toArray, List.map_cons, List.map_nil]; rfl) ?_
  with_reducible refine (rframe_ B4.out.rowC' (by have := HN2.out; omega) HEP.out (by have := HSQ.out; omega)).mono ?_
  rintro e w5 ⟨v5, rfl, hS5⟩
  refine ⟨_, rfl, ?_⟩
  obtain ⟨fr, hfr⟩ : ∃ f, frameF ep (seq : Int) (deltaF l) = f := ⟨_, rfl⟩
  have HFR := Aside0.mk hfr
  have HFE : Aside0 (fr.length = KF) := ⟨by rw [← hfr]; exact HFL.out⟩
  rw [hfr] at hS5
  obtain ⟨A5, c5, rfl⟩ := hS5.rowN HFE.out
  have hc5 := hS5.rowC.2.1
  have B5 := Aside0.mk (B4.out.tail.lift1 hS5).drew
  clear hS5 hfr
  refine hK.out _ _ ?_
  clear hK K
  refine norm_ (a' := ?_) ?_ ?_
  rotate_left
  · show Act.put _ (some 37) _ = _
    simp only [Act.put, sIB, sCz, sCs, i64_w, i32_w]
    rfl
  refine pure_ (i := 12) (N := some 5) (v := ?_) (a' := ?_) #[true, true, true, true, true, true, true, true, true, true, true, true, true] rfl rfl (by kernel_rfl) (fun _ _ _ h => h) (Or.inl ⟨by rfl, ?_⟩) ?_ ?_
  rotate_left
  · intro w'
    go_simp
    with_reducible rfl
  rotate_left
  · simp only [Act.put, sIB, sCz, sCs, i64_w, i32_w]
    rfl
  refine done_ (by kernel_rfl) ?_
  have HC5 := Aside0.mk hc5
  clear hc5
  go_wp2_with fail
  refine start_ (n := 14) (S := fun w' => w'.cell? ⟨gx, 0, none⟩ = some (.pointer (some ⟨gr, 0, none⟩)) ∧ w'.cell? ⟨gx, 1, none⟩ = some (.int .i64 a) ∧ w'.cell? ⟨gx, 2, none⟩ = some (.int .i64 b) ∧ w'.cell? ⟨gx, 3, none⟩ = some (.int .u32 ep) ∧ w'.cell? ⟨gx, 6, none⟩ = some (.int .i64 (used : Int))) (ds := [13]) #[false, false, false, false, false, false, false, false, false, false, false, false, false, false] (by kernel_rfl) rfl rfl ⟨(B5.out.at2.cell 0).trans rfl, (B5.out.at2.cell 1).trans rfl, (B5.out.at2.cell 2).trans rfl, (B5.out.at2.cell 3).trans rfl, (B5.out.at2.cell 6).trans rfl⟩ (fun hHeld => ?_)
  refine pure_ (i := 0) (N := some 38) (v := ?_) (a' := ?_) #[true, false, false, false, false, false, false, false, false, false, false, false, false, false] rfl rfl (by kernel_rfl) (fun _ _ _ h => h) (Or.inl ⟨by rfl, ?_⟩) ?_ ?_
  rotate_left
  · intro w'
    go_simp
    with_reducible rfl
  rotate_left
  · simp only [Act.put, sIB, sCz, sCs, i64_w, i32_w]
    rfl
  refine pure_ (i := 1) (N := some 39) (v := ?_) (a' := ?_) #[true, true, false, false, false, false, false, false, false, false, false, false, false, false] rfl rfl (by kernel_rfl) (fun _ _ _ h => h) (Or.inl ⟨by rfl, ?_⟩) ?_ ?_
  rotate_left
  · intro w'
    go_simp
    with_reducible rfl
  rotate_left
  · simp only [Act.put, sIB, sCz, sCs, i64_w, i32_w]
    rfl
  refine pure_ (i := 2) (N := some 40) (v := ?_) (a' := ?_) #[true, true, true, false, false, false, false, false, false, false, false, false, false, false] rfl rfl (by kernel_rfl) (fun _ _ _ h => h) (Or.inl ⟨by rfl, ?_⟩) ?_ ?_
  rotate_left
  · intro w'
    go_simp
    with_reducible rfl
  rotate_left
  · simp only [Act.put, sIB, sCz, sCs, i64_w, i32_w]
    rfl
  refine pure_ (i := 4) (N := some 42) (v := ?_) (a' := ?_) #[true, true, true, false, true, false, false, false, false, false, false, false, false, false] rfl rfl (by kernel_rfl) (fun _ _ _ h => h) (Or.inl ⟨by rfl, ?_⟩) ?_ ?_
  rotate_left
  · intro w'
    go_simp
    with_reducible rfl
  rotate_left
  · simp only [Act.put, sIB, sCz, sCs, i64_w, i32_w]
    rfl
  refine pure_ (i := 5) (N := some 43) (v := ?_) (a' := ?_) #[true, true, true, false, true, true, false, false, false, false, false, false, false, false] rfl rfl (by kernel_rfl) (fun _ _ _ h => h) (Or.inl ⟨by rfl, ?_⟩) ?_ ?_
  rotate_left
  · intro w'
    go_simp
    with_reducible rfl
  rotate_left
  · simp only [Act.put, sIB, sCz, sCs, i64_w, i32_w]
    rfl
  refine pure_ (i := 6) (N := some 44) (v := ?_) (a' := ?_) #[true, true, true, false, true, true, true, false, false, false, false, false, false, false] rfl rfl (by kernel_rfl) (fun _ _ _ h => h) (Or.inl ⟨by rfl, ?_⟩) ?_ ?_
  rotate_left
  · intro w'
    go_simp
    with_reducible rfl
  rotate_left
  · simp only [Act.put, sIB, sCz, sCs, i64_w, i32_w]
    rfl
  refine pure_ (i := 8) (N := some 46) (v := ?_) (a' := ?_) #[true, true, true, false, true, true, true, false, true, false, false, false, false, false] rfl rfl (by kernel_rfl) (fun _ _ _ h => h) (Or.inl ⟨by rfl, ?_⟩) ?_ ?_
  rotate_left
  · intro w'
    go_simp
    with_reducible rfl
  rotate_left
  · simp only [Act.put, sIB, sCz, sCs, i64_w, i32_w]
    rfl
  refine pure_ (i := 9) (N := some 47) (v := ?_) (a' := ?_) #[true, true, true, false, true, true, true, false, true, true, false, false, false, false] rfl rfl (by kernel_rfl) (fun _ _ _ h => h) (Or.inl ⟨by rfl, ?_⟩) ?_ ?_
  rotate_left
  · intro w'
    go_simp
    with_reducible rfl
  rotate_left
  · simp only [Act.put, sIB, sCz, sCs, i64_w, i32_w]
    rfl
  refine pure_ (i := 10) (N := some 48) (v := ?_) (a' := ?_) #[true, true, true, false, true, true, true, false, true, true, true, false, false, false] rfl rfl (by kernel_rfl) (fun _ _ _ h => h) (Or.inl ⟨by rfl, ?_⟩) ?_ ?_
  rotate_left
  · intro w'
    go_simp
    with_reducible rfl
  rotate_left
  · simp only [Act.put, sIB, sCz, sCs, i64_w, i32_w]
    rfl
  refine pure_ (i := 12) (N := some 50) (v := ?_) (a' := ?_) #[true, true, true, false, true, true, true, false, true, true, true, false, true, false] rfl rfl (by kernel_rfl) (fun _ _ _ h => h) (Or.inl ⟨by rfl, ?_⟩) ?_ ?_
  rotate_left
  · intro w'
    go_simp
    with_reducible rfl
  rotate_left
  · simp only [Act.put, sIB, sCz, sCs, i64_w, i32_w]
    rfl
  refine take_ (i := 3) (N := some 41) (v := ?_) (a' := ?_) #[true, true, true, true, true, true, true, false, true, true, true, false, true, false] rfl rfl (by kernel_rfl) (fun _ _ _ h => h) (Or.inl ⟨by rfl, ?_⟩) hHeld ?_ ?_
  rotate_left
  · rintro w' ⟨s0, s1, s2, s3, s4⟩
    go_simp
    with_reducible rfl
  rotate_left
  · simp only [Act.put, sIB, sCz, sCs, i64_w, i32_w]
    rfl
  refine take_ (i := 7) (N := some 45) (v := ?_) (a' := ?_) #[true, true, true, true, true, true, true, true, true, true, true, false, true, false] rfl rfl (by kernel_rfl) (fun _ _ _ h => h) (Or.inl ⟨by rfl, ?_⟩) hHeld ?_ ?_
  rotate_left
  · rintro w' ⟨s0, s1, s2, s3, s4⟩
    go_simp
    with_reducible rfl
  rotate_left
  · simp only [Act.put, sIB, sCz, sCs, i64_w, i32_w]
    rfl
  refine take_ (i := 11) (N := some 49) (v := ?_) (a' := ?_) #[true, true, true, true, true, true, true, true, true, true, true, true, true, false] rfl rfl (by kernel_rfl) (fun _ _ _ h => h) (Or.inl ⟨by rfl, ?_⟩) hHeld ?_ ?_
  rotate_left
  · rintro w' ⟨s0, s1, s2, s3, s4⟩
    go_simp
    with_reducible rfl
  rotate_left
  · simp only [Act.put, sIB, sCz, sCs, i64_w, i32_w]
    rfl
  refine last_ (i := 13) (N := some 51) #[true, true, true, true, true, true, true, true, true, true, true, true, true, true] rfl rfl (by kernel_rfl) (by decide) (fun K hK => ?_)
  refine goes_ Tryz.func86 (by kernel_rfl) rfl #[.pointer (some ⟨gr, 0, none⟩), .agg #[.int .i64 a, .int .i64 b, .int .u32 ep], .int .i64 (used : Int), .slice A5 KF c5] (by rfl) rfl rfl (by simp only [List.map_toArray, List.map_cons, List.map_nil]; rfl) ?_
  with_reducible refine (rappend_ (xs := fr) B5.out.at5 HL.out.1 HL.out.2.1 HL.out.2.2.2 HL.out.2.2.1 a b ep (used : Int) (by have := HU.out; have := (Redo.sizeF_in a).2; omega) (fun W' hW => hW.rowC') HC5.out).mono ?_
  rintro e w6 ⟨rfl, d6, hd6, hS6⟩
  refine ⟨_, rfl, ?_⟩
  obtain ⟨wt2, hwt2⟩ : ∃ t, appR n las wt a b ep (used : Int) fr = t := ⟨_, rfl⟩
  have HWT := Aside0.mk hwt2
  have HD6 := Aside0.mk hd6
  rw [hwt2] at hS6
  have B6 := Aside0.mk hS6.at2.tail
  clear hS6 hwt2 hd6
  refine hK.out _ _ ?_
  clear hK K
  refine norm_ (a' := ?_) ?_ ?_
  rotate_left
  · show Act.put _ (some 51) _ = _
    simp only [Act.put, sIB, sCz, sCs, i64_w, i32_w]
    rfl
  refine done_ (by kernel_rfl) ?_
  have B6' := Aside0.mk (rstb_shut HPP.out B6.out.to4)
  go_wp2_with fail
  refine (rapply_ B6'.out (fun W' hW => HC.out W' hW.tail) HAL.out).mono ?_
  rintro e w7 ⟨rfl, hS7⟩
  obtain ⟨hp7, gp7, cp7, gn7, cn7, hs7⟩ := rstb_open hS7
  have HP7 := Aside0.mk hp7
  have B7 := Aside0.mk hs7
  clear hS7 hs7 hp7
  have z6 := (B7.out.cell 6).trans rfl
  have f6 := B7.out.frozen 6
  have B8 := Aside0.mk (B7.out.setBlk 6 (.int .i64 (U2 : Int)))
  have z7 := (B8.out.cell 7).trans rfl
  have f7 := B8.out.frozen 7
  have B9 := Aside0.mk (B8.out.setBlk 7 (.int .u32 (S2 : Int)))
  go_wp2_with fail
  go_ret
  refine ⟨by first | rfl | (simp; done), d6, HD6.out, ?_⟩
  rw [HKK.out, HU2.out, HS2.out, HFR.out, HWT.out]
  exact rstb_shut HP7.out B9.out
end
end Go.Proofs.YtjngnigelkgekaaGreat.RStore
namespace Go.Proofs.YtjngnigelkgekaaGreat.RStore
open Go.RowKit Go.Proofs.YtjngnigelkgekaaGreatW.PrintWords Go.Proofs.YtjngnigelkgekaaGreatW.PrintLast Go.Proofs.YtjngnigelkgekaaGreatW.PrintMore Go.Proofs.YtjngnigelkgekaaGreat.Kit Go.Proofs.YtjngnigelkgekaaGreat.Plain Go.Proofs.YtjngnigelkgekaaGreat.Disk Go.Proofs.YtjngnigelkgekaaGreat.Root
open Go.Proofs.YtjngnigelkgekaaGreat.Delta (Chg KC deltaF rightF)
open Go.Proofs.YtjngnigelkgekaaGreat.Store (KP StB applyF pgAll pgAll_len openN insAll chkL open_ok open_none open_full check_ check_full commit_ok fitsF)
open Go.Proofs.YtjngnigelkgekaaGreat.Home (RT RTL pagesF)
open Go.Proofs.YtjngnigelkgekaaGreat.Redo (appR sizeF recR)
open Go.Proofs.YtjngnigelkgekaaGreat.Frame (frameF)
open Go.Proofs.YtjngnigelkgekaaGreat.Deed
def NoOpen (n : Nat) (las : List Int) (wt : Wt) (er : Int) : Prop := (er = 22 ∧ decide (0 < (bestTo n (secF n las wt) 2).2.2) = false) ∨ (er = 24 ∧ (bestTo n (secF n las wt) 2).2.2 = 4294967295)
theorem NoOpen.ne {n : Nat} {las : List Int} {wt : Wt} {er : Int} (h : NoOpen n las wt er) : 22 ≤ er ∧ er ≤ 24 := by rcases h with ⟨rfl, _⟩ | ⟨rfl, _⟩ <;> omega
theorem open_cases {n : Nat} {las : List Int} {wt : Wt} (h : Dk n las wt) (hn : n ≤ 160) : (∃ er, NoOpen n las wt er) ∨ ∃ (a b : Nat) (E : Int), Any n las wt a b E ∧ E < 4294967295 := by
  by_cases h0 : 0 < (bestTo (n : Int) (secF n las wt) 2).2.2
  · by_cases h1 : (bestTo (n : Int) (secF n las wt) 2).2.2 = 4294967295
    · exact .inl ⟨24, .inr ⟨rfl, h1⟩⟩
    · obtain ⟨a, b, E, ha⟩ := any_of h hn h0
      have h2 := ha.best
      have h3 := ha.e32
      rw [h2] at h1
      have h4 : ¬ E = 4294967295 := h1
      exact .inr ⟨a, b, E, ha, by omega⟩
  · exact .inl ⟨22, .inl ⟨rfl, decide_eq_false h0⟩⟩
section
variable {w0 W : World} {F : List HP} {g gr n : Nat} {las : List Int} {wt : Wt}
theorem sopen_nil {er : Int} (h : Sep w0 W (Dsk g las wt :: F)) (hd : Dk n las wt) (hn : n ≤ 160) (hno : NoOpen n las wt er) :
    Calls Tryz.prog 24 #[.pointer (some ⟨g, 0, none⟩)] W fun e w' => e = .returned (.tuple #[.pointer none, .int .i64 er]) ∧ Sep w0 w' (Dsk g las wt :: F) := by
  rcases hno with ⟨rfl, h0⟩ | ⟨rfl, h0⟩
  · exact open_none h hd.len hn hd.wl hd.secB h0
  · exact open_full h hd.len hn hd.wl hd.secB h0
theorem ropen_nil {er k : Int} {d : Nat} (h : Sep w0 W (RTL gr n las wt k (d : Int) :: F)) (hd : Dk n las wt) (hno : NoOpen n las wt er) :
    Calls Tryz.prog 40 #[.pointer (some ⟨gr, 0, none⟩)] W fun e w' => e = .returned (.tuple #[.pointer none, .int .i64 er]) ∧ Sep w0 w' (RTL gr n las wt k (d : Int) :: F) := by
  rcases hno with ⟨rfl, h0⟩ | ⟨rfl, h0⟩
  · exact ropen_none h hd h0
  · exact ropen_full h hd h0
theorem sopen_ok {a b : Nat} {E : Int} (h : Sep w0 W (Dsk g las wt :: F)) (ha : Any n las wt a b E) (he : E < 4294967295) :
    Calls Tryz.prog 24 #[.pointer (some ⟨g, 0, none⟩)] W fun e w' => ∃ gs m, e = .returned (.tuple #[.pointer (some ⟨gs, 0, none⟩), .int .i64 0]) ∧ Sep w0 w' (StB gs g m (a : Int) (b : Int) (E + 1) (shownG n a b E las wt) [] 0 0 :: Dsk g (openG n a b E las wt) (fun _ => none) :: F) := by
  have hp := ha.pages
  have hr := ha.rows
  have hn := ha.nums
  exact open_ok h ha.dk.len ha.n160 ha.dk.wl ha.dk.secB (a : Int) (b : Int) E ha.best (by omega) he ha.logB (by rw [hp.1]; omega) (by rw [hp.1]) (fun p hq => by have := (hp.2 p hq).1; omega) hr.1 (fun x hx => (hr.2 x hx).1)
theorem ropen_all {a b d : Nat} {E : Int} (h : Sep w0 W (RT gr n las wt d :: F)) (ha : Any n las wt a b E) (he : E < 4294967295) (hd : d ≤ 1000000) :
    Calls Tryz.prog 40 #[.pointer (some ⟨gr, 0, none⟩)] W fun e w' => ∃ gx, e = .returned (.tuple #[.pointer (some ⟨gx, 0, none⟩), .int .i64 0]) ∧ ∃ d' : Nat, d' ≤ d + 68 ∧ Sep w0 w' (RStB gx gr (a : Int) (b : Int) (E + 1) (shownG n a b E las wt) (List.replicate b false) 0 0 :: RT gr n (openG n a b E las wt) (fun _ => none) d' :: F) := by
  refine (ropen_ok h ha he (by decide) hd).mono ?_
  rintro e w' ⟨gx, rfl, hS⟩
  have hn := ha.nums
  have h1 := rq_all hS.at2
  have h2 : runD (las, wt) (chkD a b E (shownG n a b E las wt) (nmL (nmAllB (List.replicate b false) (rowsG n a b E las wt)) b)) = (openG n a b E las wt, fun _ => none) := ha.st.deeds
  rw [h2] at h1
  refine ⟨gx, rfl, _, ?_, h1.at2⟩
  · rw [chkD_len]
    have := nmL_len (nmAllB (List.replicate b false) (rowsG n a b E las wt)) b
    omega
end
end Go.Proofs.YtjngnigelkgekaaGreat.RStore
namespace Go.Proofs.YtjngnigelkgekaaGreat.Kit.Sep
open Go.RowKit Go.Proofs.YtjngnigelkgekaaGreatW.PrintWords Go.Proofs.YtjngnigelkgekaaGreatW.PrintLast Go.Proofs.YtjngnigelkgekaaGreatW.PrintMore Go.Proofs.YtjngnigelkgekaaGreat.Kit
theorem fxBlk {w0 W : World} {F : List HP} {g : Nat} {t : TypeId} {cs : Array Value} (h : Sep w0 W (Blk g t cs :: F)) : Sep w0 W (Fx (fun W => ∀ i, W.cell? ⟨g, i, none⟩ = cs[i]?) :: F) :=
  h.imp (fun ok hp => ⟨fun W' hm i => cell_of_row W' g i cs t (0, 0) ((hm _ ((hp.1 _).2 rfl)).trans hp.2), fun k hk => by rw [(hp.1 k).1 hk]; exact blk_lt hp.2⟩)
end Go.Proofs.YtjngnigelkgekaaGreat.Kit.Sep
namespace Go.Proofs.YtjngnigelkgekaaGreat.Heal
open Go.RowKit Go.Proofs.YtjngnigelkgekaaGreatW.PrintWords Go.Proofs.YtjngnigelkgekaaGreatW.PrintLast Go.Proofs.YtjngnigelkgekaaGreatW.PrintMore Go.Proofs.YtjngnigelkgekaaGreat.Kit Go.Proofs.YtjngnigelkgekaaGreat.Plain Go.Proofs.YtjngnigelkgekaaGreat.Disk Go.Proofs.YtjngnigelkgekaaGreat.Root
open Go.Proofs.YtjngnigelkgekaaGreat.Store (KP elemP ov_at ov_C)
open Go.Proofs.YtjngnigelkgekaaGreat.Home (putP put_ mayF atF)
open Go.Proofs.YtjngnigelkgekaaGreat.RStore
open Go.Proofs.YtjngnigelkgekaaGreat.Deed
structure HF (g gb gR gP gN : Nat) (js : List Nat) (ks : List Int) (a b : Nat) (E : Int) (Ap : Option Addr) (cp : Nat) (pages : List (List Int)) (cs : List OV) (W : World) : Prop where
  bx : ∀ i, W.cell? ⟨gb, i, none⟩ = #[Value.pointer (some ⟨g, 0, none⟩)][i]?
  rt : ∀ i, W.cell? ⟨gR, i, none⟩ = #[Value.int .i64 (a : Int), Value.int .i64 (b : Int), Value.int .u32 E][i]?
  pg : ∀ i, W.cell? ⟨gP, i, none⟩ = #[Value.slice Ap pages.length cp][i]?
  pc : KV.C W Ap pages.length cs
  pe : EachV KP pages cs W
  nx : ∀ i, W.cell? ⟨gN, i, none⟩ = #[Value.int .i64 (a : Int), Value.int .i64 (b : Int), Value.int .u32 (E + 1)][i]?
  kk : js.length = ks.length ∧ ∀ (j : Nat) q k, js[j]? = some q → ks[j]? = some k → W.cell? ⟨q, 0, none⟩ = some (.int .i64 k)
section
variable {w0 W : World} {F : List HP} {g n gb gR gP gN : Nat} {js : List Nat} {ks : List Int} {a b : Nat} {E : Int} {Ap : Option Addr} {cp : Nat} {pages : List (List Int)} {cs : List OV} {las : List Int} {wt : Wt}
set_option maxHeartbeats 1600000 in
set_option maxRecDepth 100000 in
theorem put97_ (h : Sep w0 W (Dsk g las wt :: Fx (HF g gb gR gP gN js ks a b E Ap cp pages cs) :: F)) (hl : las.length = 64 * n) (hn : n ≤ 160) {j q : Nat} {k : Int} (hq : js[j]? = some q) (hk : ks[j]? = some k) (hkb : 0 ≤ k ∧ k < (pages.length : Int)) (hpb : pages.length ≤ 64) :
    Calls Tryz.prog 97 #[.pointer (some ⟨gb, 0, none⟩), .pointer (some ⟨gR, 0, none⟩), .pointer (some ⟨q, 0, none⟩), .pointer (some ⟨gP, 0, none⟩)] W fun e w' => e = .returned (.tuple #[]) ∧ Sep w0 w' (Dsk g las (putP n wt (a : Int) (b : Int) E k (pages.getD k.toNat [])) :: Fx (HF g gb gR gP gN js ks a b E Ap cp pages cs) :: F) := by
  have B0 := Aside0.mk h.drew
  have hf := B0.out.at2.fx
  obtain ⟨kn, rfl⟩ := Int.eq_ofNat_of_zero_le hkb.1
  have hkn : kn < pages.length := by omega
  obtain ⟨hc', B, cB, hov, hlc⟩ := ov_at hf.pe hkn
  have HX : Aside0 (pages.getD ((kn : Nat) : Int).toNat [] = pages[kn]) := ⟨by rw [Int.toNat_natCast, List.getD_eq_getElem?_getD, List.getElem?_eq_getElem hkn]; rfl⟩
  have HCX : Aside0 (∀ W', Sep w0 W' (Fx (HF g gb gR gP gN js ks a b E Ap cp pages cs) :: F) → (Kd.int .u8).C W' B (pages[kn]).length pages[kn]) := ⟨fun W' hW => ov_C hW.fx.pe hkn hc' hov⟩
  obtain ⟨_, ap, cs1, hAp, hK1, hc0, _⟩ := elem_ (d := KV) hf.pc hkn
  have hK2 : cs1 = [(cs[kn]).1] := hK1
  subst hK2
  have hcell := hc0 _ rfl
  rw [show kn * KV.sz = kn from Nat.mul_one kn, hov] at hcell
  obtain ⟨XL, hXL⟩ : ∃ L, (pages[kn]).length = L := ⟨_, rfl⟩
  obtain ⟨x, hx⟩ : ∃ x, pages[kn] = x := ⟨_, rfl⟩
  rw [hXL] at hcell hlc HCX
  rw [hx] at HCX HX
  have HLC := Aside0.mk hlc
  obtain ⟨N, hN⟩ : ∃ N, pages.length = N := ⟨_, rfl⟩
  have z0 := (hf.bx 0).trans rfl
  have z1 := (hf.rt 0).trans rfl
  have z2 := (hf.rt 1).trans rfl
  have z3 := (hf.rt 2).trans rfl
  have z4 := hf.kk.2 j q _ hq hk
  have z5 := (hf.pg 0).trans rfl
  rw [hN] at z5
  have Z := Aside0.mk (And.intro z0 (And.intro z1 (And.intro z2 (And.intro z3 (And.intro z4 (And.intro z5 hcell))))))
  have HL := Aside0.mk (And.intro hl hn)
  have hkl : (kn : Int) < (N : Int) := by omega
  subst hAp
  clear h hl hn hq hk hkb hpb hf hkn hov hlc hx hXL hc0 hcell hK1 z0 z1 z2 z3 z4 z5 hN hc'
  go_enter Tryz.func97, Tryz.ntmps97
  go_wp2_with fail
  refine start_ (n := 8) (S := fun w' => w'.cell? ⟨gb, 0, none⟩ = some (.pointer (some ⟨g, 0, none⟩)) ∧ w'.cell? ⟨gR, 0, none⟩ = some (.int .i64 (a : Int)) ∧ w'.cell? ⟨gR, 1, none⟩ = some (.int .i64 (b : Int)) ∧ w'.cell? ⟨gR, 2, none⟩ = some (.int .u32 E) ∧ w'.cell? ⟨q, 0, none⟩ = some (.int .i64 (kn : Int)) ∧ w'.cell? ⟨gP, 0, none⟩ = some (.slice (some ap) N cp) ∧ w'.cell? (ap.add kn) = some (.slice B XL cB)) (ds := [7]) #[false, false, false, false, false, false, false, false] (by kernel_rfl) rfl rfl ⟨Z.out.1, Z.out.2.1, Z.out.2.2.1, Z.out.2.2.2.1, Z.out.2.2.2.2.1, Z.out.2.2.2.2.2.1, Z.out.2.2.2.2.2.2⟩ (fun hHeld => ?_)
  refine take_ (i := 0) (N := some 4) (v := ?_) (a' := ?_) #[true, false, false, false, false, false, false, false] rfl rfl (by kernel_rfl) (fun _ _ _ h => h) (Or.inl ⟨by rfl, ?_⟩) hHeld ?_ ?_
  rotate_left
  · rintro w' ⟨s0, s1, s2, s3, s4, s5, s6⟩
    go_simp
    with_reducible rfl
  rotate_left
  · simp only [Act.put, sIB, sCz, sCs, i64_w, i32_w]
    rfl
  refine take_ (i := 1) (N := some 5) (v := ?_) (a' := ?_) #[true, true, false, false, false, false, false, false] rfl rfl (by kernel_rfl) (fun _ _ _ h => h) (Or.inl ⟨by rfl, ?_⟩) hHeld ?_ ?_
  rotate_left
  · rintro w' ⟨s0, s1, s2, s3, s4, s5, s6⟩
    go_simp
    with_reducible rfl
  rotate_left
  · simp only [Act.put, sIB, sCz, sCs, i64_w, i32_w]
    rfl
  refine take_ (i := 2) (N := some 6) (v := ?_) (a' := ?_) #[true, true, true, false, false, false, false, false] rfl rfl (by kernel_rfl) (fun _ _ _ h => h) (Or.inl ⟨by rfl, ?_⟩) hHeld ?_ ?_
  rotate_left
  · rintro w' ⟨s0, s1, s2, s3, s4, s5, s6⟩
    go_simp
    with_reducible rfl
  rotate_left
  · simp only [Act.put, sIB, sCz, sCs, i64_w, i32_w]
    rfl
  refine take_ (i := 3) (N := some 7) (v := ?_) (a' := ?_) #[true, true, true, true, false, false, false, false] rfl rfl (by kernel_rfl) (fun _ _ _ h => h) (Or.inl ⟨by rfl, ?_⟩) hHeld ?_ ?_
  rotate_left
  · rintro w' ⟨s0, s1, s2, s3, s4, s5, s6⟩
    go_simp
    with_reducible rfl
  rotate_left
  · simp only [Act.put, sIB, sCz, sCs, i64_w, i32_w]
    rfl
  refine take_ (i := 4) (N := some 8) (v := ?_) (a' := ?_) #[true, true, true, true, true, false, false, false] rfl rfl (by kernel_rfl) (fun _ _ _ h => h) (Or.inl ⟨by rfl, ?_⟩) hHeld ?_ ?_
  rotate_left
  · rintro w' ⟨s0, s1, s2, s3, s4, s5, s6⟩
    go_simp
    with_reducible rfl
  rotate_left
  · simp only [Act.put, sIB, sCz, sCs, i64_w, i32_w]
    rfl
  refine pure_ (i := 5) (N := some 9) (v := ?_) (a' := ?_) #[true, true, true, true, true, true, false, false] rfl rfl (by kernel_rfl) (fun _ _ _ h => h) (Or.inl ⟨by rfl, ?_⟩) ?_ ?_
  rotate_left
  · intro w'
    go_simp
    with_reducible rfl
  rotate_left
  · simp only [Act.put, sIB, sCz, sCs, i64_w, i32_w]
    rfl
  refine take_ (i := 6) (N := some 10) (v := ?_) (a' := ?_) #[true, true, true, true, true, true, true, false] rfl rfl (by kernel_rfl) (fun _ _ _ h => h) (Or.inl ⟨by rfl, ?_⟩) hHeld ?_ ?_
  rotate_left
  · rintro w' ⟨s0, s1, s2, s3, s4, s5, s6⟩
    go_simp
    with_reducible rfl
  rotate_left
  · simp only [Act.put, sIB, sCz, sCs, i64_w, i32_w]
    rfl
  refine last_ (i := 7) (N := some 11) #[true, true, true, true, true, true, true, true] rfl rfl (by kernel_rfl) (by decide) (fun K hK => ?_)
  refine goes_ Tryz.func94 (by kernel_rfl) rfl #[.pointer (some ⟨g, 0, none⟩), .agg #[.int .i64 (a : Int), .int .i64 (b : Int), .int .u32 E], .int .i64 (kn : Int), .slice B XL cB] (by rfl) rfl rfl (by simp only [List.map_toArray, List.map_cons, List.map_nil]; rfl) ?_
  with_reducible refine (put_ B0.out HL.out.1 HL.out.2 (a : Int) (b : Int) E (kn : Int) HCX.out HLC.out).mono ?_
  rintro e w6 ⟨rfl, hS6⟩
  refine ⟨_, rfl, ?_⟩
  rw [← HX.out] at hS6
  have B6 := Aside0.mk hS6
  clear hS6
  refine hK.out _ _ ?_
  clear hK K
  refine norm_ (a' := ?_) ?_ ?_
  rotate_left
  · show Act.put _ (some 11) _ = _
    simp only [Act.put, sIB, sCz, sCs, i64_w, i32_w]
    rfl
  refine done_ (by kernel_rfl) ?_
  go_wp2_with fail
  go_end0
  exact ⟨rfl, B6.out⟩
set_option maxHeartbeats 1600000 in
set_option maxRecDepth 100000 in
theorem root98_ (h : Sep w0 W (Dsk g las wt :: Fx (HF g gb gR gP gN js ks a b E Ap cp pages cs) :: F)) (hl : las.length = 64 * n) (hn : n ≤ 160) (hE : 0 ≤ E ∧ E < 4294967295) :
    Calls Tryz.prog 98 #[.pointer (some ⟨gb, 0, none⟩), .pointer (some ⟨gN, 0, none⟩)] W fun e w' => e = .returned (.tuple #[]) ∧ Sep w0 w' (Dsk g las (putW n wt ((E + 1) % 2).toNat (rootF (m32 (a : Int)) (m32 (b : Int)) (E + 1))) :: Fx (HF g gb gR gP gN js ks a b E Ap cp pages cs) :: F) := by
  have B0 := Aside0.mk h.drew
  have hf := B0.out.at2.fx
  obtain ⟨E1, hE1⟩ : ∃ x, E + 1 = x := ⟨_, rfl⟩
  have z0 := (hf.bx 0).trans rfl
  have z1 := (hf.nx 0).trans rfl
  have z2 := (hf.nx 1).trans rfl
  have z3 := (hf.nx 2).trans rfl
  have HQ : Aside0 (∀ W', HF g gb gR gP gN js ks a b E Ap cp pages cs W' → W'.cell? ⟨gb, 0, none⟩ = some (.pointer (some ⟨g, 0, none⟩)) ∧ W'.cell? ⟨gN, 0, none⟩ = some (.int .i64 (a : Int)) ∧ W'.cell? ⟨gN, 1, none⟩ = some (.int .i64 (b : Int)) ∧ W'.cell? ⟨gN, 2, none⟩ = some (.int .u32 E1)) := ⟨fun W' hf => ⟨(hf.bx 0).trans rfl, (hf.nx 0).trans rfl, (hf.nx 1).trans rfl, by rw [← hE1]; exact (hf.nx 2).trans rfl⟩⟩
  have HE1 := Aside0.mk hE1
  have HEB : Aside0 (0 ≤ E1 ∧ E1 ≤ 4294967295) := ⟨by omega⟩
  have HL := Aside0.mk (And.intro hl hn)
  obtain ⟨jj, hjj⟩ := Int.eq_ofNat_of_zero_le (show 0 ≤ E1 % 2 by omega)
  have HJJ : Aside0 (((E + 1) % 2).toNat = jj) := ⟨by rw [hE1, hjj, Int.toNat_natCast]⟩
  have hjt : E1.tmod 2 = (jj : Int) := by rw [Int.tmod_eq_emod_of_nonneg HEB.out.1]; exact hjj
  have hjw : IntKind.i64.wrap (jj : Int) = (jj : Int) := by rw [IntKind.wrap_i64]; omega
  have hjw2 : IntKind.u32.wrap (jj : Int) = (jj : Int) := by rw [IntKind.wrap_u32]; omega
  clear h hl hn hE hf z0 z1 z2 z3 hE1 hjj
  go_enter Tryz.func98, Tryz.ntmps98
  go_wp2_with fail
  refine start_ (n := 8) (S := fun w' => w'.cell? ⟨gb, 0, none⟩ = some (.pointer (some ⟨g, 0, none⟩)) ∧ w'.cell? ⟨gN, 0, none⟩ = some (.int .i64 (a : Int)) ∧ w'.cell? ⟨gN, 1, none⟩ = some (.int .i64 (b : Int)) ∧ w'.cell? ⟨gN, 2, none⟩ = some (.int .u32 E1)) (ds := [7]) #[false, false, false, false, false, false, false, false] (by kernel_rfl) rfl rfl ⟨(HQ.out _ B0.out.at2.fx).1, (HQ.out _ B0.out.at2.fx).2.1, (HQ.out _ B0.out.at2.fx).2.2.1, (HQ.out _ B0.out.at2.fx).2.2.2⟩ (fun hHeld => ?_)
  refine pure_ (i := 1) (N := some 3) (v := ?_) (a' := ?_) #[false, true, false, false, false, false, false, false] rfl rfl (by kernel_rfl) (fun _ _ _ h => h) (Or.inl ⟨by rfl, ?_⟩) ?_ ?_
  rotate_left
  · intro w'
    go_simp
    with_reducible rfl
  rotate_left
  · simp only [Act.put, sIB, sCz, sCs, i64_w, i32_w]
    rfl
  refine take_ (i := 0) (N := some 2) (v := ?_) (a' := ?_) #[true, true, false, false, false, false, false, false] rfl rfl (by kernel_rfl) (fun _ _ _ h => h) (Or.inl ⟨by rfl, ?_⟩) hHeld ?_ ?_
  rotate_left
  · rintro w' ⟨s0, s1, s2, s3⟩
    go_simp
    with_reducible rfl
  rotate_left
  · simp only [Act.put, sIB, sCz, sCs, i64_w, i32_w]
    rfl
  refine take_ (i := 2) (N := some 4) (v := ?_) (a' := ?_) #[true, true, true, false, false, false, false, false] rfl rfl (by kernel_rfl) (fun _ _ _ h => h) (Or.inl ⟨by rfl, ?_⟩) hHeld ?_ ?_
  rotate_left
  · rintro w' ⟨s0, s1, s2, s3⟩
    go_simp
    with_reducible rfl
  rotate_left
  · simp only [Act.put, sIB, sCz, sCs, i64_w, i32_w]
    rfl
  refine pure_ (i := 3) (N := some 5) (v := ?_) (a' := ?_) #[true, true, true, true, false, false, false, false] rfl rfl (by kernel_rfl) (fun _ _ _ h => h) (Or.inl ⟨by rfl, ?_⟩) ?_ ?_
  rotate_left
  · intro w'
    go_simp
    with_reducible rfl
  rotate_left
  · simp only [Act.put, sIB, sCz, sCs, i64_w, i32_w]
    rfl
  refine pure_ (i := 4) (N := some 6) (v := ?_) (a' := ?_) #[true, true, true, true, true, false, false, false] rfl rfl (by kernel_rfl) (fun _ _ _ h => h) (Or.inl ⟨by rfl, ?_⟩) ?_ ?_
  rotate_left
  · intro w'
    go_simp
    with_reducible rfl
  rotate_left
  · simp only [Act.put, sIB, sCz, sCs, i64_w, i32_w]
    rfl
  refine take_ (i := 5) (N := some 7) (v := ?_) (a' := ?_) #[true, true, true, true, true, true, false, false] rfl rfl (by kernel_rfl) (fun _ _ _ h => h) (Or.inl ⟨by rfl, ?_⟩) hHeld ?_ ?_
  rotate_left
  · rintro w' ⟨s0, s1, s2, s3⟩
    go_simp
    with_reducible rfl
  rotate_left
  · simp only [Act.put, sIB, sCz, sCs, i64_w, i32_w]
    rfl
  refine one_ (i := 6) (N := some 8) #[true, true, true, true, true, true, true, false] rfl rfl (by kernel_rfl) (by decide) (fun K hK => ?_)
  refine goes_ Tryz.func68 (by kernel_rfl) rfl #[.agg #[.int .i64 (a : Int), .int .i64 (b : Int), .int .u32 E1]] (by rfl) rfl rfl (by simp only [List.map_toArray, List.map_cons, List.map_nil]; rfl) ?_
  with_reducible refine (Root.bytes_ (a : Int) (b : Int) E1 HEB.out _).mono ?_
  rintro e w6 ⟨v6, rfl, hS6⟩
  refine ⟨_, rfl, ?_⟩
  obtain ⟨R6, hR6⟩ : ∃ R, rootF (m32 (a : Int)) (m32 (b : Int)) E1 = R := ⟨_, rfl⟩
  have HR6 := Aside0.mk hR6
  rw [hR6] at hS6
  obtain ⟨n6, hn6⟩ : ∃ n, R6.length = n := ⟨_, rfl⟩
  obtain ⟨A6, c6, rfl⟩ := hS6.rowN hn6
  have B7 := Aside0.mk (B0.out.lift1 hS6).at2
  clear hS6 hR6 hn6
  refine hK.out _ _ ⟨(HQ.out _ B7.out.at3.fx).1, (HQ.out _ B7.out.at3.fx).2.1, (HQ.out _ B7.out.at3.fx).2.2.1, (HQ.out _ B7.out.at3.fx).2.2.2⟩ (fun hHeld => ?_)
  clear hK K
  refine norm_ (a' := ?_) ?_ ?_
  rotate_left
  · show Act.put _ (some 8) _ = _
    simp only [Act.put, sIB, sCz, sCs, i64_w, i32_w]
    rfl
  refine last_ (i := 7) (N := some 9) #[true, true, true, true, true, true, true, true] rfl rfl (by kernel_rfl) (by decide) (fun K hK => ?_)
  refine goes_ Tryz.func66 (by kernel_rfl) rfl #[.pointer (some ⟨g, 0, none⟩), .int .i64 (jj : Int), .slice A6 n6 c6] (by rfl) rfl rfl (by simp only [List.map_toArray, List.map_cons, List.map_nil]; rfl) ?_
  with_reducible refine (dwrite_ B7.out HL.out.1 HL.out.2 jj B7.out.at2.rowC' B7.out.at2.rowC.2.1).mono ?_
  rintro e w7 ⟨rfl, hS7⟩
  refine ⟨_, rfl, ?_⟩
  rw [← HR6.out, ← HJJ.out, ← HE1.out] at hS7
  have B8 := Aside0.mk hS7.drop2
  clear hS7
  refine hK.out _ _ ?_
  clear hK K
  refine norm_ (a' := ?_) ?_ ?_
  rotate_left
  · show Act.put _ (some 9) _ = _
    simp only [Act.put, sIB, sCz, sCs, i64_w, i32_w]
    rfl
  refine done_ (by kernel_rfl) ?_
  go_wp2_with fail
  go_end0
  exact ⟨rfl, B8.out⟩
end
end Go.Proofs.YtjngnigelkgekaaGreat.Heal
