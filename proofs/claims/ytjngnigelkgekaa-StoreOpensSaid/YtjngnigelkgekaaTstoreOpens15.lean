/- StMore, StCommit2, StKnown, StLaw: what StoreOpens needs. -/
import Derived.Test.YtjngnigelkgekaaTstoreOpens14
namespace Go.Proofs.Ytjngnigelkgekaa.Store
set_option linter.unusedVariables false
set_option linter.unusedSimpArgs false
open Go.RowKit Go.Proofs.YtjngnigelkgekaaW.PrintWords Go.Proofs.YtjngnigelkgekaaW.PrintLast Go.Proofs.YtjngnigelkgekaaW.PrintMore Go.Proofs.Ytjngnigelkgekaa.Kit Go.Proofs.Ytjngnigelkgekaa.Plain Go.Proofs.Ytjngnigelkgekaa.Disk Go.Proofs.Ytjngnigelkgekaa.Root
def joinF (l : List (List Int)) : ByteArray := l.foldl (fun s x => s ++ strOfNums x) ⟨#[]⟩
theorem joinF_snoc (l : List (List Int)) (x : List Int) : joinF (l ++ [x]) = joinF l ++ strOfNums x := by unfold joinF; rw [List.foldl_append]; rfl
theorem strOf_size (x : List Int) : (strOfNums x).size = x.length := by simp [strOfNums, ByteArray.size]
theorem joinF_size' (M : Nat) : ∀ (l : List (List Int)) (s : ByteArray), (∀ x ∈ l, x.length ≤ M) → (l.foldl (fun s x => s ++ strOfNums x) s).size ≤ s.size + M * l.length
  | [], s, _ => by simp
  | x :: t, s, h => by
    have h1 := joinF_size' M t (s ++ strOfNums x) (fun y hy => h y (List.mem_cons_of_mem _ hy))
    have h2 := h x (List.mem_cons_self ..)
    rw [ByteArray.size_append, strOf_size] at h1
    rw [List.foldl_cons, List.length_cons, Nat.mul_succ]
    omega
theorem joinF_size (M : Nat) (l : List (List Int)) (h : ∀ x ∈ l, x.length ≤ M) : (joinF l).size ≤ M * l.length := by
  have h1 := joinF_size' M l ⟨#[]⟩ h
  rw [show (ByteArray.mk #[]).size = 0 from rfl, Nat.zero_add] at h1
  exact h1
set_option maxHeartbeats 800000 in
set_option maxRecDepth 100000 in
theorem join_ {A : Option Addr} {n c : Nat} {l : List (List Int)} {w : World} (hr : KP.C w A n l) (hn : n ≤ 1000) (hp : ∀ x ∈ l, x.length ≤ 1000000) :
    Calls Try.prog 29 #[.slice A n c] w fun e w' => e = .returned (.string (joinF l)) ∧ w = w' := by
  have HR := Aside0.mk hr
  have HP := Aside0.mk hp
  have HL := Aside0.mk hr.1
  have HN := Aside0.mk hn
  clear hr hp
  go_enter Try.func29, Try.ntmps29
  go_wp2_with fail
  go_loopg [3, 7] n (fun k_ s p wr => ∃ (j : Nat), p = .int .i64 (j : Int) ∧ j + k_ = n ∧ s = .string (joinF (l.take j)) ∧ w = wr)
  case atStart => exact ⟨0, rfl, by omega, rfl, rfl⟩
  case round =>
    obtain ⟨j, rfl, hjk, rfl, rfl⟩ := hrel
    have AK := Aside0.mk hjk
    by_cases cj : j < n
    case pos =>
      have hjl : (j : Int) < (n : Int) := by omega
      obtain ⟨hx, ad, B, cB, rfl, hc, hlc, hC⟩ := elemP HR.out cj
      have HT : Aside0 (joinF (l.take (j + 1)) = joinF (l.take j) ++ strOfNums l[j]) := ⟨by rw [take_one hx, joinF_snoc]⟩
      have hs := Str.strC (c := cB) hC
      have hz1 := joinF_size 1000000 (l.take j) (fun x hx => HP.out x (List.mem_of_mem_take hx))
      have hz2 := strOf_size l[j]
      have hz3 := HP.out _ (List.getElem_mem hx)
      have hz4 : (l.take j).length ≤ n := by rw [List.length_take, HL.out]; omega
      generalize joinF (l.take j) = s1 at *
      generalize strOfNums l[j] = s2 at *
      generalize (l[j]).length = XL at *
      have hsz : s1.size + s2.size ≤ 140737488355328 := by have := HN.out; omega
      clear hjk cj hC hlc hz1 hz2 hz3 hz4 hx
      go_wp2_with fail
      go_roundg (gk - 1)
      case measure => have := AK.out; omega
      case rel => exact ⟨j + 1, by go_num, by have := AK.out; omega, by rw [HT.out], rfl⟩
    case neg =>
    obtain rfl : j = n := by omega
    have hjl : ¬ (j : Int) < (j : Int) := by omega
    have HTK : Aside0 (l.take j = l) := ⟨List.take_of_length_le (by rw [HL.out]; exact Nat.le_refl _)⟩
    clear hjk cj
    go_wp2_with fail
    go_ret
    exact ⟨by rw [HTK.out]; first | rfl | (simp; done), rfl⟩
section
variable {w0 W : World} {F : List HP} {gs g m n : Nat} {a b ep : Int} {pages : List (List Int)} {named : List Int} {used seq : Nat} {las : List Int} {wt : Wt}
set_option maxHeartbeats 800000 in
set_option maxRecDepth 100000 in
theorem page_in (h : Sep w0 W (StB gs g m a b ep pages named used seq :: F)) (i : Nat) (hi : i < pages.length) (hp : (pages[i]).length ≤ 1000000) (hn : pages.length ≤ 100000) : Calls Try.prog 80 #[.pointer (some ⟨gs, 0, none⟩), .int .i64 (i : Int)] W fun e w' => ∃ v, e = .returned v ∧ Sep w0 w' (Row (Kd.int .u8) 5 v pages[i] :: StB gs g m a b ep pages named used seq :: F) := by
  obtain ⟨A, c, hs⟩ := stb_open h
  have H0 := Aside0.mk h
  obtain ⟨hx, ad, B, cB, rfl, hc, hlc, hC⟩ := elemP (Sep.rowVC rfl hs.at2).2.2 hi
  obtain ⟨x, hxe⟩ : ∃ x, pages[i] = x := ⟨_, rfl⟩
  rw [hxe] at hc hlc hC hp
  have HX := Aside0.mk hxe
  obtain ⟨XL, hXL⟩ : ∃ L, x.length = L := ⟨_, rfl⟩
  rw [hXL] at hc hlc hC hp
  have HC := Aside0.mk (And.intro hC (And.intro hlc hp))
  obtain ⟨N, hN⟩ : ∃ N, pages.length = N := ⟨_, rfl⟩
  have z4 := (hs.cell 4).trans rfl
  rw [hN] at z4 hi hn
  have hil : (i : Int) < (N : Int) := by omega
  have hil2 : ¬ (N : Int) ≤ (i : Int) := by omega
  have hild : decide ((N : Int) ≤ (i : Int)) = false := decide_eq_false hil2
  clear h hs hC hlc hp hxe hXL hN
  go_enter Try.func80, Try.ntmps80
  go_wp2_with fail
  refine (Base.clone_ HC.out.1 HC.out.2.1 (by have := HC.out.2.2; omega)).mono ?_
  rintro e w1 ⟨v1, rfl, hS1⟩
  have B1 := Aside0.mk (H0.out.lift1 hS1)
  clear hS1
  go_wp2_with fail
  go_ret
  exact ⟨_, by first | rfl | (simp; done), by rw [HX.out]; exact B1.out⟩
set_option maxHeartbeats 800000 in
set_option maxRecDepth 100000 in
theorem page_out (h : Sep w0 W (StB gs g m a b ep pages named used seq :: F)) (i : Nat) (hi : pages.length ≤ i) : Calls Try.prog 80 #[.pointer (some ⟨gs, 0, none⟩), .int .i64 (i : Int)] W fun e w' => e = .returned (.slice none 0 0) ∧ W = w' := by
  obtain ⟨A, c, hs⟩ := stb_open h
  obtain ⟨N, hN⟩ : ∃ N, pages.length = N := ⟨_, rfl⟩
  have z4 := (hs.cell 4).trans rfl
  rw [hN] at z4 hi
  have hil2 : (N : Int) ≤ (i : Int) := by omega
  have hild : decide ((N : Int) ≤ (i : Int)) = true := decide_eq_true hil2
  clear h hs hN
  go_enter Try.func80, Try.ntmps80
  go_wp2_with fail
  go_ret
  exact ⟨by first | rfl | (simp; done), rfl⟩
set_option maxHeartbeats 800000 in
theorem sync_ (h : Sep w0 W (StB gs g m a b ep pages named used seq :: Dsk g las wt :: F)) : Calls Try.prog 65 #[.pointer (some ⟨gs, 0, none⟩)] W fun e w' => e = .returned (.tuple #[]) ∧ Sep w0 w' (StB gs g m a b ep pages named used seq :: Dsk g (flushed las wt) (fun _ => none) :: F) := by
  obtain ⟨A, c, hs⟩ := stb_open h
  have H0 := Aside0.mk h
  have z0 := (hs.cell 0).trans rfl
  clear h hs
  go_enter Try.func65, Try.ntmps65
  go_wp2_with fail
  refine (flush_ H0.out.at2).mono ?_
  rintro e w1 ⟨rfl, hS1⟩
  have B1 := Aside0.mk hS1.at2
  clear hS1
  go_wp2_with fail
  go_end0
  exact ⟨rfl, B1.out⟩
end
def sectF (x : Int) : List Int := x :: List.replicate 63 0
set_option maxHeartbeats 400000 in
theorem sector_ (x : Int) (w : World) : Calls Try.prog 79 #[.int .u8 x] w fun e w' => ∃ v, e = .returned v ∧ Sep w w' [Row U8 5 v (sectF x)] := by
  have hmk : ∀ W : World, (Instr.makeSlice 30 (.int .i64 64) (.int .i64 64)).run Try.prog W = .ok (.slice (some ⟨W.heap.size, 0, none⟩) 64 64) (W.alloc (.cells (madeCells #[.int .u8 0] 64) 5)) := make_ (m := 64) (by omega)
  have A0 := Aside0.mk (madeB 64 (Sep.start w) (by omega))
  obtain ⟨e1, e2⟩ := A0.out.rowCell (enc := Value.int .u8) 0 0 (by decide)
  have hL := A0.out.putRow (enc := Value.int .u8) 0 x
  rw [show (w.alloc (.cells (madeCells #[.int .u8 0] 64) 5)).setCell ⟨w.heap.size, 0, none⟩ (.int .u8 x) = w.alloc (.cells ((madeCells #[.int .u8 0] 64).setIfInBounds 0 (.int .u8 x)) 5) by simp only [go_sem]] at hL
  have A1 := Aside0.mk hL
  clear hL
  go_enter Try.func79, Try.ntmps79
  go_wp2_with fail
  go_ret
  exact ⟨_, by first | rfl | (simp; done), A1.out⟩
end Go.Proofs.Ytjngnigelkgekaa.Store
namespace Go.Proofs.Ytjngnigelkgekaa.Store
set_option linter.unusedVariables false
set_option linter.unusedSimpArgs false
open Go.RowKit Go.Proofs.YtjngnigelkgekaaW.PrintWords Go.Proofs.YtjngnigelkgekaaW.PrintLast Go.Proofs.YtjngnigelkgekaaW.PrintMore Go.Proofs.Ytjngnigelkgekaa.Kit Go.Proofs.Ytjngnigelkgekaa.Plain Go.Proofs.Ytjngnigelkgekaa.Disk Go.Proofs.Ytjngnigelkgekaa.Root
open Go.Proofs.Ytjngnigelkgekaa.Delta (Chg KC deltaF rightF okF right_ needF)
open Go.Proofs.Ytjngnigelkgekaa.Frame (frameF frameF_len frameF_bytes fbytes_)
open Go.Proofs.Ytjngnigelkgekaa.Redo (appR okA append_ sizeF)
theorem cm_nums {u k sq : Nat} (h : u + k ≤ 4096) (hs : sq ≤ 1000000) : wrap64 ((u : Int) + (k : Int)) = ((u + k : Nat) : Int) ∧ IntKind.u32.wrap ((sq : Int) + 1) = ((sq + 1 : Nat) : Int) := ⟨by rw [IntWalk.wrap64_in _ (by omega)]; omega, by rw [IntKind.wrap_u32]; omega⟩
section
variable {w0 W : World} {F : List HP} {gs g m n : Nat} {a b ep : Int} {pages : List (List Int)} {named : List Int} {used seq : Nat} {las : List Int} {wt : Wt}
set_option maxHeartbeats 3200000 in
set_option maxRecDepth 100000 in
theorem commit_ok (h : Sep w0 W (StB gs g m a b ep pages named used seq :: Dsk g las wt :: F)) (hl : las.length = 64 * n) (hn : n ≤ 160) (hw : ∀ i b, wt i = some b → b.length = 64) {A2 : Option Addr} {n2 c2 : Nat} {l : List Chg} (hC : ∀ W', Sep w0 W' F → KC.C W' A2 n2 l) (hr : rightF l b = true) (hu : (used : Int) ≤ sizeF a) (hf : fitsF a used n2 = true)
    (hep : 0 ≤ ep ∧ ep ≤ 4294967295) (hsq : seq ≤ 1000000) (hpn : pages.length ≤ 100000) (hp : ∀ p ∈ pages, p.length ≤ 1000000) (hnl : named.length ≤ 100000) :
    Calls Try.prog 33 #[.pointer (some ⟨gs, 0, none⟩), .slice A2 n2 c2] W fun e w' => e = .returned (.int .i64 0) ∧ Sep w0 w' (StB gs g m a b ep (applyF pages l) (insAll named l) (used + (18 + 66 * n2)) (seq + 1) :: Dsk g las (appR n las wt a b ep (used : Int) (frameF ep (seq : Int) (deltaF l))) :: F) := by
  have hC0 := hC W h.tail.tail
  have hln := hC0.1
  obtain ⟨A, c, hs⟩ := stb_open h
  obtain ⟨N, hN⟩ : ∃ N, pages.length = N := ⟨_, rfl⟩
  rw [hN] at hs hpn
  have hs1 := Redo.sizeF_in a
  have hfi := fits_in hf
  have hok : okF b (-1) l = true := by
    have h2 := hr
    unfold rightF at h2
    rw [Bool.and_eq_true] at h2
    exact h2.2
  have hall := right_all hok (by decide)
  have hdl : (deltaF l).length = 2 + 66 * n2 := by
    unfold deltaF
    rw [List.length_append, Redo.okF_len hok, hln]; rfl
  have HFL : Aside0 ((frameF ep (seq : Int) (deltaF l)).length = 18 + 66 * n2) := ⟨by rw [frameF_len, hdl]; omega⟩
  have HS := Aside0.mk hs
  have HC := Aside0.mk hC
  have HR := Aside0.mk hr
  have HU := Aside0.mk hu
  have HF := Aside0.mk hf
  have HL := Aside0.mk (And.intro hl (And.intro hn hw))
  have HDL := Aside0.mk hdl
  have HN2 := Aside0.mk hfi.1
  have HN := Aside0.mk hN
  have HP := Aside0.mk (And.intro hpn hp)
  have HEP := Aside0.mk hep
  have HSQ := Aside0.mk hsq
  have HLN := Aside0.mk hln
  have HAL : Aside0 (∀ x ∈ l, x.2.length ≤ 1000000 ∧ -9223372036854775808 ≤ x.1 ∧ x.1 ≤ 9223372036854775807) := ⟨fun x hx => by
    have h1 := hall x hx
    have hb64 : b ≤ 64 := by
      have h2 := hr
      unfold rightF at h2
      rw [Bool.and_eq_true, decide_eq_true_eq] at h2
      exact h2.1
    exact ⟨by omega, by omega, by omega⟩⟩
  have HNL := Aside0.mk hnl
  obtain ⟨e1, e2⟩ := cm_nums (u := used) (k := 18 + 66 * n2) (sq := seq) (by have := hfi.2; have := hs1.2; omega) hsq
  obtain ⟨KF, hK_⟩ : ∃ K, 18 + 66 * n2 = K := ⟨_, rfl⟩
  rw [hK_] at e1 HFL
  have HKK := Aside0.mk hK_
  obtain ⟨U2, hU2⟩ : ∃ u, used + KF = u := ⟨_, rfl⟩
  obtain ⟨S2, hS2⟩ : ∃ u, seq + 1 = u := ⟨_, rfl⟩
  rw [hU2] at e1
  rw [hS2] at e2
  have HU2 := Aside0.mk hU2
  have HS2 := Aside0.mk hS2
  have hn64 : n2 ≤ 64 := hfi.1
  have z2 := (hs.cell 2).trans rfl
  clear h hs hC hC0 hr hu hf hl hn hw hln hN hs1 hfi hok hall hdl hK_ hU2 hS2 hpn hp hnl hep hsq
  go_enter Try.func33, Try.ntmps33
  go_wp2_with fail
  refine (right_ (HC.out _ HS.out.tail.tail.tail.tail) b).mono ?_
  rintro e w1 ⟨rfl, hb1⟩
  rw [HR.out]
  have B1 := Aside0.mk (HS.out.below hb1).drew
  clear hb1 z2
  go_wp2_with fail
  refine start_ (n := 13) (S := fun w' => w'.cell? ⟨gs, 1, none⟩ = some (.int .i64 a) ∧ w'.cell? ⟨gs, 2, none⟩ = some (.int .i64 b) ∧ w'.cell? ⟨gs, 3, none⟩ = some (.int .u32 ep) ∧ w'.cell? ⟨gs, 6, none⟩ = some (.int .i64 (used : Int))) (ds := [10]) #[false, false, false, false, false, false, false, false, false, false, false, false, false] (by kernel_rfl) rfl rfl ⟨(B1.out.cell 1).trans rfl, (B1.out.cell 2).trans rfl, (B1.out.cell 3).trans rfl, (B1.out.cell 6).trans rfl⟩ (fun hHeld => ?_)
  refine pure_ (i := 0) (N := some 18) (v := ?_) (a' := ?_) #[true, false, false, false, false, false, false, false, false, false, false, false, false] rfl rfl (by kernel_rfl) (fun _ _ _ h => h) (Or.inl ⟨by rfl, ?_⟩) ?_ ?_
  rotate_left
  · intro w'
    go_simp
    with_reducible rfl
  rotate_left
  · simp only [Act.put, List.setIfInBounds_toArray, List.set_cons_zero, List.set_cons_succ, i64_w, i32_w]
    rfl
  refine pure_ (i := 1) (N := some 19) (v := ?_) (a' := ?_) #[true, true, false, false, false, false, false, false, false, false, false, false, false] rfl rfl (by kernel_rfl) (fun _ _ _ h => h) (Or.inl ⟨by rfl, ?_⟩) ?_ ?_
  rotate_left
  · intro w'
    go_simp
    with_reducible rfl
  rotate_left
  · simp only [Act.put, List.setIfInBounds_toArray, List.set_cons_zero, List.set_cons_succ, i64_w, i32_w]
    rfl
  refine pure_ (i := 2) (N := some 20) (v := ?_) (a' := ?_) #[true, true, true, false, false, false, false, false, false, false, false, false, false] rfl rfl (by kernel_rfl) (fun _ _ _ h => h) (Or.inl ⟨by rfl, ?_⟩) ?_ ?_
  rotate_left
  · intro w'
    go_simp
    with_reducible rfl
  rotate_left
  · simp only [Act.put, List.setIfInBounds_toArray, List.set_cons_zero, List.set_cons_succ, i64_w, i32_w]
    rfl
  refine pure_ (i := 4) (N := some 22) (v := ?_) (a' := ?_) #[true, true, true, false, true, false, false, false, false, false, false, false, false] rfl rfl (by kernel_rfl) (fun _ _ _ h => h) (Or.inl ⟨by rfl, ?_⟩) ?_ ?_
  rotate_left
  · intro w'
    go_simp
    with_reducible rfl
  rotate_left
  · simp only [Act.put, List.setIfInBounds_toArray, List.set_cons_zero, List.set_cons_succ, i64_w, i32_w]
    rfl
  refine pure_ (i := 5) (N := some 23) (v := ?_) (a' := ?_) #[true, true, true, false, true, true, false, false, false, false, false, false, false] rfl rfl (by kernel_rfl) (fun _ _ _ h => h) (Or.inl ⟨by rfl, ?_⟩) ?_ ?_
  rotate_left
  · intro w'
    go_simp
    with_reducible rfl
  rotate_left
  · simp only [Act.put, List.setIfInBounds_toArray, List.set_cons_zero, List.set_cons_succ, i64_w, i32_w]
    rfl
  refine pure_ (i := 6) (N := some 24) (v := ?_) (a' := ?_) #[true, true, true, false, true, true, true, false, false, false, false, false, false] rfl rfl (by kernel_rfl) (fun _ _ _ h => h) (Or.inl ⟨by rfl, ?_⟩) ?_ ?_
  rotate_left
  · intro w'
    go_simp
    with_reducible rfl
  rotate_left
  · simp only [Act.put, List.setIfInBounds_toArray, List.set_cons_zero, List.set_cons_succ, i64_w, i32_w]
    rfl
  refine pure_ (i := 8) (N := some 26) (v := ?_) (a' := ?_) #[true, true, true, false, true, true, true, false, true, false, false, false, false] rfl rfl (by kernel_rfl) (fun _ _ _ h => h) (Or.inl ⟨by rfl, ?_⟩) ?_ ?_
  rotate_left
  · intro w'
    go_simp
    with_reducible rfl
  rotate_left
  · simp only [Act.put, List.setIfInBounds_toArray, List.set_cons_zero, List.set_cons_succ, i64_w, i32_w]
    rfl
  refine pure_ (i := 9) (N := some 27) (v := ?_) (a' := ?_) #[true, true, true, false, true, true, true, false, true, true, false, false, false] rfl rfl (by kernel_rfl) (fun _ _ _ h => h) (Or.inl ⟨by rfl, ?_⟩) ?_ ?_
  rotate_left
  · intro w'
    go_simp
    with_reducible rfl
  rotate_left
  · simp only [Act.put, List.setIfInBounds_toArray, List.set_cons_zero, List.set_cons_succ, i64_w, i32_w]
    rfl
  refine take_ (i := 3) (N := some 21) (v := ?_) (a' := ?_) #[true, true, true, true, true, true, true, false, true, true, false, false, false] rfl rfl (by kernel_rfl) (fun _ _ _ h => h) (Or.inl ⟨by rfl, ?_⟩) hHeld ?_ ?_
  rotate_left
  · rintro w' ⟨s0, s1, s2, s3⟩
    go_simp
    with_reducible rfl
  rotate_left
  · simp only [Act.put, List.setIfInBounds_toArray, List.set_cons_zero, List.set_cons_succ, i64_w, i32_w]
    rfl
  refine take_ (i := 7) (N := some 25) (v := ?_) (a' := ?_) #[true, true, true, true, true, true, true, true, true, true, false, false, false] rfl rfl (by kernel_rfl) (fun _ _ _ h => h) (Or.inl ⟨by rfl, ?_⟩) hHeld ?_ ?_
  rotate_left
  · rintro w' ⟨s0, s1, s2, s3⟩
    go_simp
    with_reducible rfl
  rotate_left
  · simp only [Act.put, List.setIfInBounds_toArray, List.set_cons_zero, List.set_cons_succ, i64_w, i32_w]
    rfl
  refine last_ (i := 10) (N := some 28) #[true, true, true, true, true, true, true, true, true, true, true, false, false] rfl rfl (by kernel_rfl) (by decide) (fun K hK => ?_)
  refine goes_ Try.func73 (by kernel_rfl) rfl #[.agg #[.int .i64 a, .int .i64 b, .int .u32 ep], .int .i64 (used : Int), .int .i64 (n2 : Int)] (by rfl) rfl rfl (by simp only [List.map_toArray, List.map_cons, List.map_nil]; rfl) ?_
  with_reducible refine (fits_ a b ep used n2 HU.out _).mono ?_
  rintro e w3 ⟨rfl, hb3⟩
  refine ⟨_, rfl, ?_⟩
  rw [HF.out]
  have B3 := Aside0.mk (B1.out.below hb3).drew
  clear hb3
  refine hK.out _ _ ?_
  clear hK K
  refine norm_ (a' := ?_) ?_ ?_
  rotate_left
  · show Act.put _ (some 28) _ = _
    simp only [Act.put, List.setIfInBounds_toArray, List.set_cons_zero, List.set_cons_succ, i64_w, i32_w]
    rfl
  refine pure_ (i := 11) (N := some 29) (v := ?_) (a' := ?_) #[true, true, true, true, true, true, true, true, true, true, true, true, false] rfl rfl (by kernel_rfl) (fun _ _ _ h => h) (Or.inl ⟨by rfl, ?_⟩) ?_ ?_
  rotate_left
  · intro w'
    go_simp
    with_reducible rfl
  rotate_left
  · simp only [Act.put, List.setIfInBounds_toArray, List.set_cons_zero, List.set_cons_succ, i64_w, i32_w]
    rfl
  refine pure_ (i := 12) (N := some 17) (v := ?_) (a' := ?_) #[true, true, true, true, true, true, true, true, true, true, true, true, true] rfl rfl (by kernel_rfl) (fun _ _ _ h => h) (Or.inl ⟨by rfl, ?_⟩) ?_ ?_
  rotate_left
  · intro w'
    go_simp
    with_reducible rfl
  rotate_left
  · simp only [Act.put, List.setIfInBounds_toArray, List.set_cons_zero, List.set_cons_succ, i64_w, i32_w]
    rfl
  refine done_ (by kernel_rfl) ?_
  go_wp2_with fail
  refine start_ (n := 13) (S := fun w' => w'.cell? ⟨gs, 3, none⟩ = some (.int .u32 ep) ∧ w'.cell? ⟨gs, 7, none⟩ = some (.int .u32 (seq : Int))) (ds := [11]) #[false, false, false, false, false, false, false, false, false, false, false, false, false] (by kernel_rfl) rfl rfl ⟨(B3.out.cell 3).trans rfl, (B3.out.cell 7).trans rfl⟩ (fun hHeld => ?_)
  refine pure_ (i := 0) (N := some 30) (v := ?_) (a' := ?_) #[true, false, false, false, false, false, false, false, false, false, false, false, false] rfl rfl (by kernel_rfl) (fun _ _ _ h => h) (Or.inl ⟨by rfl, ?_⟩) ?_ ?_
  rotate_left
  · intro w'
    go_simp
    with_reducible rfl
  rotate_left
  · simp only [Act.put, List.setIfInBounds_toArray, List.set_cons_zero, List.set_cons_succ, i64_w, i32_w]
    rfl
  refine pure_ (i := 1) (N := some 31) (v := ?_) (a' := ?_) #[true, true, false, false, false, false, false, false, false, false, false, false, false] rfl rfl (by kernel_rfl) (fun _ _ _ h => h) (Or.inl ⟨by rfl, ?_⟩) ?_ ?_
  rotate_left
  · intro w'
    go_simp
    with_reducible rfl
  rotate_left
  · simp only [Act.put, List.setIfInBounds_toArray, List.set_cons_zero, List.set_cons_succ, i64_w, i32_w]
    rfl
  refine pure_ (i := 2) (N := some 32) (v := ?_) (a' := ?_) #[true, true, true, false, false, false, false, false, false, false, false, false, false] rfl rfl (by kernel_rfl) (fun _ _ _ h => h) (Or.inl ⟨by rfl, ?_⟩) ?_ ?_
  rotate_left
  · intro w'
    go_simp
    with_reducible rfl
  rotate_left
  · simp only [Act.put, List.setIfInBounds_toArray, List.set_cons_zero, List.set_cons_succ, i64_w, i32_w]
    rfl
  refine pure_ (i := 3) (N := some 33) (v := ?_) (a' := ?_) #[true, true, true, true, false, false, false, false, false, false, false, false, false] rfl rfl (by kernel_rfl) (fun _ _ _ h => h) (Or.inl ⟨by rfl, ?_⟩) ?_ ?_
  rotate_left
  · intro w'
    go_simp
    with_reducible rfl
  rotate_left
  · simp only [Act.put, List.setIfInBounds_toArray, List.set_cons_zero, List.set_cons_succ, i64_w, i32_w]
    rfl
  refine pure_ (i := 5) (N := some 35) (v := ?_) (a' := ?_) #[true, true, true, true, false, true, false, false, false, false, false, false, false] rfl rfl (by kernel_rfl) (fun _ _ _ h => h) (Or.inl ⟨by rfl, ?_⟩) ?_ ?_
  rotate_left
  · intro w'
    go_simp
    with_reducible rfl
  rotate_left
  · simp only [Act.put, List.setIfInBounds_toArray, List.set_cons_zero, List.set_cons_succ, i64_w, i32_w]
    rfl
  refine pure_ (i := 6) (N := some 36) (v := ?_) (a' := ?_) #[true, true, true, true, false, true, true, false, false, false, false, false, false] rfl rfl (by kernel_rfl) (fun _ _ _ h => h) (Or.inl ⟨by rfl, ?_⟩) ?_ ?_
  rotate_left
  · intro w'
    go_simp
    with_reducible rfl
  rotate_left
  · simp only [Act.put, List.setIfInBounds_toArray, List.set_cons_zero, List.set_cons_succ, i64_w, i32_w]
    rfl
  refine pure_ (i := 7) (N := some 37) (v := ?_) (a' := ?_) #[true, true, true, true, false, true, true, true, false, false, false, false, false] rfl rfl (by kernel_rfl) (fun _ _ _ h => h) (Or.inl ⟨by rfl, ?_⟩) ?_ ?_
  rotate_left
  · intro w'
    go_simp
    with_reducible rfl
  rotate_left
  · simp only [Act.put, List.setIfInBounds_toArray, List.set_cons_zero, List.set_cons_succ, i64_w, i32_w]
    rfl
  refine pure_ (i := 9) (N := some 39) (v := ?_) (a' := ?_) #[true, true, true, true, false, true, true, true, false, true, false, false, false] rfl rfl (by kernel_rfl) (fun _ _ _ h => h) (Or.inl ⟨by rfl, ?_⟩) ?_ ?_
  rotate_left
  · intro w'
    go_simp
    with_reducible rfl
  rotate_left
  · simp only [Act.put, List.setIfInBounds_toArray, List.set_cons_zero, List.set_cons_succ, i64_w, i32_w]
    rfl
  refine take_ (i := 4) (N := some 34) (v := ?_) (a' := ?_) #[true, true, true, true, true, true, true, true, false, true, false, false, false] rfl rfl (by kernel_rfl) (fun _ _ _ h => h) (Or.inl ⟨by rfl, ?_⟩) hHeld ?_ ?_
  rotate_left
  · rintro w' ⟨s0, s1⟩
    go_simp
    with_reducible rfl
  rotate_left
  · simp only [Act.put, List.setIfInBounds_toArray, List.set_cons_zero, List.set_cons_succ, i64_w, i32_w]
    rfl
  refine take_ (i := 8) (N := some 38) (v := ?_) (a' := ?_) #[true, true, true, true, true, true, true, true, true, true, false, false, false] rfl rfl (by kernel_rfl) (fun _ _ _ h => h) (Or.inl ⟨by rfl, ?_⟩) hHeld ?_ ?_
  rotate_left
  · rintro w' ⟨s0, s1⟩
    go_simp
    with_reducible rfl
  rotate_left
  · simp only [Act.put, List.setIfInBounds_toArray, List.set_cons_zero, List.set_cons_succ, i64_w, i32_w]
    rfl
  refine one_ (i := 10) (N := some 40) #[true, true, true, true, true, true, true, true, true, true, true, false, false] rfl rfl (by kernel_rfl) (by decide) (fun K hK => ?_)
  refine goes_ Try.func75 (by kernel_rfl) rfl #[.slice A2 n2 c2] (by rfl) rfl rfl (by simp only [List.map_toArray, List.map_cons, List.map_nil]; rfl) ?_
  with_reducible refine (Delta.bytes_ (HC.out _ B3.out.tail.tail.tail.tail) (by rw [HDL.out]; have := HN2.out; omega)).mono ?_
  rintro e w4 ⟨v4, rfl, hS4⟩
  refine ⟨_, rfl, ?_⟩
  obtain ⟨A4, c4, rfl⟩ := hS4.rowN HDL.out
  have B4 := Aside0.mk (B3.out.lift1 hS4)
  clear hS4
  refine hK.out _ _ ⟨(B4.out.at2.cell 3).trans rfl, (B4.out.at2.cell 7).trans rfl⟩ (fun hHeld => ?_)
  clear hK K
  refine norm_ (a' := ?_) ?_ ?_
  rotate_left
  · show Act.put _ (some 40) _ = _
    simp only [Act.put, List.setIfInBounds_toArray, List.set_cons_zero, List.set_cons_succ, i64_w, i32_w]
    rfl
  refine last_ (i := 11) (N := some 41) #[true, true, true, true, true, true, true, true, true, true, true, true, false] rfl rfl (by kernel_rfl) (by decide) (fun K hK => ?_)
  refine goes_ Try.func74 (by kernel_rfl) rfl #[.int .u32 ep, .int .u32 (seq : Int), .slice A4 (2 + 66 * n2) c4] (by rfl) rfl rfl (by simp only [List.map_toArray, List.map_cons, List.map_nil]; rfl) ?_
  with_reducible refine (fbytes_ B4.out.rowC' (by have := HN2.out; omega) HEP.out (by have := HSQ.out; omega)).mono ?_
  rintro e w5 ⟨v5, rfl, hS5⟩
  refine ⟨_, rfl, ?_⟩
  obtain ⟨fr, hfr⟩ : ∃ f, frameF ep (seq : Int) (deltaF l) = f := ⟨_, rfl⟩
  have HFR := Aside0.mk hfr
  have HFE : Aside0 (fr.length = KF) := ⟨by rw [← hfr]; exact HFL.out⟩
  rw [hfr] at hS5
  obtain ⟨A5, c5, rfl⟩ := hS5.rowN HFE.out
  have hc5 := hS5.rowC.2.1
  have B5 := Aside0.mk (B4.out.tail.lift1 hS5).drew
  clear hS5 hfr
  refine hK.out _ _ ?_
  clear hK K
  refine norm_ (a' := ?_) ?_ ?_
  rotate_left
  · show Act.put _ (some 41) _ = _
    simp only [Act.put, List.setIfInBounds_toArray, List.set_cons_zero, List.set_cons_succ, i64_w, i32_w]
    rfl
  refine pure_ (i := 12) (N := some 5) (v := ?_) (a' := ?_) #[true, true, true, true, true, true, true, true, true, true, true, true, true] rfl rfl (by kernel_rfl) (fun _ _ _ h => h) (Or.inl ⟨by rfl, ?_⟩) ?_ ?_
  rotate_left
  · intro w'
    go_simp
    with_reducible rfl
  rotate_left
  · simp only [Act.put, List.setIfInBounds_toArray, List.set_cons_zero, List.set_cons_succ, i64_w, i32_w]
    rfl
  refine done_ (by kernel_rfl) ?_
  have HC5 := Aside0.mk hc5
  clear hc5
  go_wp2_with fail
  refine start_ (n := 14) (S := fun w' => w'.cell? ⟨gs, 0, none⟩ = some (.pointer (some ⟨g, 0, none⟩)) ∧ w'.cell? ⟨gs, 1, none⟩ = some (.int .i64 a) ∧ w'.cell? ⟨gs, 2, none⟩ = some (.int .i64 b) ∧ w'.cell? ⟨gs, 3, none⟩ = some (.int .u32 ep) ∧ w'.cell? ⟨gs, 6, none⟩ = some (.int .i64 (used : Int))) (ds := [13]) #[false, false, false, false, false, false, false, false, false, false, false, false, false, false] (by kernel_rfl) rfl rfl ⟨(B5.out.at2.cell 0).trans rfl, (B5.out.at2.cell 1).trans rfl, (B5.out.at2.cell 2).trans rfl, (B5.out.at2.cell 3).trans rfl, (B5.out.at2.cell 6).trans rfl⟩ (fun hHeld => ?_)
  refine pure_ (i := 0) (N := some 42) (v := ?_) (a' := ?_) #[true, false, false, false, false, false, false, false, false, false, false, false, false, false] rfl rfl (by kernel_rfl) (fun _ _ _ h => h) (Or.inl ⟨by rfl, ?_⟩) ?_ ?_
  rotate_left
  · intro w'
    go_simp
    with_reducible rfl
  rotate_left
  · simp only [Act.put, List.setIfInBounds_toArray, List.set_cons_zero, List.set_cons_succ, i64_w, i32_w]
    rfl
  refine pure_ (i := 1) (N := some 43) (v := ?_) (a' := ?_) #[true, true, false, false, false, false, false, false, false, false, false, false, false, false] rfl rfl (by kernel_rfl) (fun _ _ _ h => h) (Or.inl ⟨by rfl, ?_⟩) ?_ ?_
  rotate_left
  · intro w'
    go_simp
    with_reducible rfl
  rotate_left
  · simp only [Act.put, List.setIfInBounds_toArray, List.set_cons_zero, List.set_cons_succ, i64_w, i32_w]
    rfl
  refine pure_ (i := 2) (N := some 44) (v := ?_) (a' := ?_) #[true, true, true, false, false, false, false, false, false, false, false, false, false, false] rfl rfl (by kernel_rfl) (fun _ _ _ h => h) (Or.inl ⟨by rfl, ?_⟩) ?_ ?_
  rotate_left
  · intro w'
    go_simp
    with_reducible rfl
  rotate_left
  · simp only [Act.put, List.setIfInBounds_toArray, List.set_cons_zero, List.set_cons_succ, i64_w, i32_w]
    rfl
  refine pure_ (i := 4) (N := some 46) (v := ?_) (a' := ?_) #[true, true, true, false, true, false, false, false, false, false, false, false, false, false] rfl rfl (by kernel_rfl) (fun _ _ _ h => h) (Or.inl ⟨by rfl, ?_⟩) ?_ ?_
  rotate_left
  · intro w'
    go_simp
    with_reducible rfl
  rotate_left
  · simp only [Act.put, List.setIfInBounds_toArray, List.set_cons_zero, List.set_cons_succ, i64_w, i32_w]
    rfl
  refine pure_ (i := 5) (N := some 47) (v := ?_) (a' := ?_) #[true, true, true, false, true, true, false, false, false, false, false, false, false, false] rfl rfl (by kernel_rfl) (fun _ _ _ h => h) (Or.inl ⟨by rfl, ?_⟩) ?_ ?_
  rotate_left
  · intro w'
    go_simp
    with_reducible rfl
  rotate_left
  · simp only [Act.put, List.setIfInBounds_toArray, List.set_cons_zero, List.set_cons_succ, i64_w, i32_w]
    rfl
  refine pure_ (i := 6) (N := some 48) (v := ?_) (a' := ?_) #[true, true, true, false, true, true, true, false, false, false, false, false, false, false] rfl rfl (by kernel_rfl) (fun _ _ _ h => h) (Or.inl ⟨by rfl, ?_⟩) ?_ ?_
  rotate_left
  · intro w'
    go_simp
    with_reducible rfl
  rotate_left
  · simp only [Act.put, List.setIfInBounds_toArray, List.set_cons_zero, List.set_cons_succ, i64_w, i32_w]
    rfl
  refine pure_ (i := 8) (N := some 50) (v := ?_) (a' := ?_) #[true, true, true, false, true, true, true, false, true, false, false, false, false, false] rfl rfl (by kernel_rfl) (fun _ _ _ h => h) (Or.inl ⟨by rfl, ?_⟩) ?_ ?_
  rotate_left
  · intro w'
    go_simp
    with_reducible rfl
  rotate_left
  · simp only [Act.put, List.setIfInBounds_toArray, List.set_cons_zero, List.set_cons_succ, i64_w, i32_w]
    rfl
  refine pure_ (i := 9) (N := some 51) (v := ?_) (a' := ?_) #[true, true, true, false, true, true, true, false, true, true, false, false, false, false] rfl rfl (by kernel_rfl) (fun _ _ _ h => h) (Or.inl ⟨by rfl, ?_⟩) ?_ ?_
  rotate_left
  · intro w'
    go_simp
    with_reducible rfl
  rotate_left
  · simp only [Act.put, List.setIfInBounds_toArray, List.set_cons_zero, List.set_cons_succ, i64_w, i32_w]
    rfl
  refine pure_ (i := 10) (N := some 52) (v := ?_) (a' := ?_) #[true, true, true, false, true, true, true, false, true, true, true, false, false, false] rfl rfl (by kernel_rfl) (fun _ _ _ h => h) (Or.inl ⟨by rfl, ?_⟩) ?_ ?_
  rotate_left
  · intro w'
    go_simp
    with_reducible rfl
  rotate_left
  · simp only [Act.put, List.setIfInBounds_toArray, List.set_cons_zero, List.set_cons_succ, i64_w, i32_w]
    rfl
  refine pure_ (i := 12) (N := some 54) (v := ?_) (a' := ?_) #[true, true, true, false, true, true, true, false, true, true, true, false, true, false] rfl rfl (by kernel_rfl) (fun _ _ _ h => h) (Or.inl ⟨by rfl, ?_⟩) ?_ ?_
  rotate_left
  · intro w'
    go_simp
    with_reducible rfl
  rotate_left
  · simp only [Act.put, List.setIfInBounds_toArray, List.set_cons_zero, List.set_cons_succ, i64_w, i32_w]
    rfl
  refine take_ (i := 3) (N := some 45) (v := ?_) (a' := ?_) #[true, true, true, true, true, true, true, false, true, true, true, false, true, false] rfl rfl (by kernel_rfl) (fun _ _ _ h => h) (Or.inl ⟨by rfl, ?_⟩) hHeld ?_ ?_
  rotate_left
  · rintro w' ⟨s0, s1, s2, s3, s4⟩
    go_simp
    with_reducible rfl
  rotate_left
  · simp only [Act.put, List.setIfInBounds_toArray, List.set_cons_zero, List.set_cons_succ, i64_w, i32_w]
    rfl
  refine take_ (i := 7) (N := some 49) (v := ?_) (a' := ?_) #[true, true, true, true, true, true, true, true, true, true, true, false, true, false] rfl rfl (by kernel_rfl) (fun _ _ _ h => h) (Or.inl ⟨by rfl, ?_⟩) hHeld ?_ ?_
  rotate_left
  · rintro w' ⟨s0, s1, s2, s3, s4⟩
    go_simp
    with_reducible rfl
  rotate_left
  · simp only [Act.put, List.setIfInBounds_toArray, List.set_cons_zero, List.set_cons_succ, i64_w, i32_w]
    rfl
  refine take_ (i := 11) (N := some 53) (v := ?_) (a' := ?_) #[true, true, true, true, true, true, true, true, true, true, true, true, true, false] rfl rfl (by kernel_rfl) (fun _ _ _ h => h) (Or.inl ⟨by rfl, ?_⟩) hHeld ?_ ?_
  rotate_left
  · rintro w' ⟨s0, s1, s2, s3, s4⟩
    go_simp
    with_reducible rfl
  rotate_left
  · simp only [Act.put, List.setIfInBounds_toArray, List.set_cons_zero, List.set_cons_succ, i64_w, i32_w]
    rfl
  refine last_ (i := 13) (N := some 55) #[true, true, true, true, true, true, true, true, true, true, true, true, true, true] rfl rfl (by kernel_rfl) (by decide) (fun K hK => ?_)
  refine goes_ Try.func63 (by kernel_rfl) rfl #[.pointer (some ⟨g, 0, none⟩), .agg #[.int .i64 a, .int .i64 b, .int .u32 ep], .int .i64 (used : Int), .slice A5 KF c5] (by rfl) rfl rfl (by simp only [List.map_toArray, List.map_cons, List.map_nil]; rfl) ?_
  with_reducible refine (append_ (xs := fr) B5.out.at5 HL.out.1 HL.out.2.1 HL.out.2.2 a b ep (used : Int) (by have := HU.out; have := (Redo.sizeF_in a).2; omega) (fun W' hW => hW.rowC') HC5.out).mono ?_
  rintro e w6 ⟨rfl, hS6⟩
  refine ⟨_, rfl, ?_⟩
  obtain ⟨wt2, hwt2⟩ : ∃ t, appR n las wt a b ep (used : Int) fr = t := ⟨_, rfl⟩
  have HWT := Aside0.mk hwt2
  rw [hwt2] at hS6
  have B6 := Aside0.mk hS6.at2.tail.at2
  clear hS6 hwt2
  refine hK.out _ _ ?_
  clear hK K
  refine norm_ (a' := ?_) ?_ ?_
  rotate_left
  · show Act.put _ (some 55) _ = _
    simp only [Act.put, List.setIfInBounds_toArray, List.set_cons_zero, List.set_cons_succ, i64_w, i32_w]
    rfl
  refine done_ (by kernel_rfl) ?_
  have z4 := (B6.out.cell 4).trans rfl
  go_wp2_with fail
  refine (apply_ (ps := pages) (l := l) (Sep.rowVC rfl B6.out.at3).2.2 (HC.out _ B6.out.tail.tail.tail.tail) HP.out.1 HP.out.2 (fun x hx => (HAL.out x hx).1)).mono ?_
  rintro e w7 ⟨v7, rfl, hS7⟩
  obtain ⟨ps2, hps2⟩ : ∃ p, applyF pages l = p := ⟨_, rfl⟩
  have HPS := Aside0.mk hps2
  have HPL : Aside0 (ps2.length = N) := ⟨by rw [← hps2, applyF_len]; exact HN.out⟩
  rw [hps2] at hS7
  obtain ⟨A7, c7, rfl⟩ := Sep.rowVN hS7 HPL.out
  have B7 := Aside0.mk (B6.out.lift1 hS7).at4.tail.at2
  clear hS7 z4 hps2
  have z4 := (B7.out.cell 4).trans rfl
  have f4 := B7.out.frozen 4
  have B8' := Aside0.mk (B7.out.setBlk 4 (.slice A7 N c7))
  go_wp2_with fail
  obtain ⟨w8, hw8⟩ : ∃ x, w7.setCell ⟨gs, 4, none⟩ (.slice A7 N c7) = x := ⟨_, rfl⟩
  rw [hw8] at B8' ⊢
  have B8 : Aside0 (Sep w0 w8 (SetM m named :: Blk gs 102 #[.pointer (some ⟨g, 0, none⟩), .int .i64 a, .int .i64 b, .int .u32 ep, .slice A7 N c7, .map (some m), .int .i64 (used : Int), .int .u32 (seq : Int)] :: RowV KP 30 (.slice A7 N c7) ps2 :: Dsk g las wt2 :: F)) := ⟨B8'.out.at4⟩
  clear B8' hw8 z4 f4
  go_loopg [67] n2 (fun k_ p wr => ∃ (j : Nat), p = .int .i64 (j : Int) ∧ j + k_ = n2 ∧ Sep w0 wr (SetM m (insAll named (l.take j)) :: Blk gs 102 #[.pointer (some ⟨g, 0, none⟩), .int .i64 a, .int .i64 b, .int .u32 ep, .slice A7 N c7, .map (some m), .int .i64 (used : Int), .int .u32 (seq : Int)] :: RowV KP 30 (.slice A7 N c7) ps2 :: Dsk g las wt2 :: F))
  case atStart => exact ⟨0, rfl, by omega, B8.out⟩
  case round =>
    obtain ⟨j, rfl, hjk, hS⟩ := hrel
    obtain ⟨w9, rfl⟩ : ∃ x, x = wr := ⟨_, rfl⟩
    have AK := Aside0.mk hjk
    have AS := Aside0.mk hS
    clear hS
    by_cases cj : j < n2
    case pos =>
      have hjl : (j : Int) < (n2 : Int) := by omega
      obtain ⟨hx, ad, B, cB, rfl, q0, q1, q2, q3⟩ := elem2_ (HC.out _ AS.out.tail.tail.tail.tail) cj
      have hpg := (HAL.out _ (List.getElem_mem hx)).2
      have HIN : Aside0 (insAll named (l.take (j + 1)) = insK (insAll named (l.take j)) (l[j]).1) := ⟨by rw [take_one hx, insAll_snoc]⟩
      obtain ⟨pg, hpgE⟩ : ∃ p, (l[j]).1 = p := ⟨_, rfl⟩
      obtain ⟨bn, hbn⟩ : ∃ p, (l[j]).2.length = p := ⟨_, rfl⟩
      rw [hpgE] at q0 hpg HIN
      rw [hbn] at q1
      have HPG := Aside0.mk hpg
      have HIL : Aside0 ((insAll named (l.take j)).length < 1000000) := ⟨by
        have h1 := insAll_len (l.take j) named
        have h2 : (l.take j).length ≤ n2 := by rw [List.length_take, HLN.out]; omega
        have h3 := HNL.out
        have h4 := HN2.out
        omega⟩
      obtain ⟨G9, hG9⟩ : ∃ G, w9.heap.size = G := ⟨_, rfl⟩
      have BK := Aside0.mk (AS.out.newBlk 106 #[.int .i64 pg, .slice B bn cB])
      rw [hG9] at BK
      clear hjk cj q2 q3 hpgE hbn hpg hx
      go_wp2_with fail
      obtain ⟨w10, hw10⟩ : ∃ x, w9.alloc (.cells #[.int .i64 pg, .slice B bn cB] 106) = x := ⟨_, rfl⟩
      rw [hw10] at BK ⊢
      have BD := Aside0.mk BK.out.drew
      clear hw10 hG9 q0 q1
      refine start_ (n := 8) (S := fun w' => w'.cell? ⟨gs, 5, none⟩ = some (.map (some m)) ∧ w'.cell? ⟨G9, 0, none⟩ = some (.int .i64 pg)) (ds := [7]) #[false, false, false, false, false, false, false, false] (by kernel_rfl) rfl rfl ⟨(BD.out.at3.cell 5).trans rfl, (BD.out.cell 0).trans rfl⟩ (fun hHeld => ?_)
      refine pure_ (i := 0) (N := some 71) (v := ?_) (a' := ?_) #[true, false, false, false, false, false, false, false] rfl rfl (by kernel_rfl) (fun _ _ _ h => h) (Or.inl ⟨by rfl, ?_⟩) ?_ ?_
      rotate_left
      · intro w'
        go_simp
        with_reducible rfl
      rotate_left
      · simp only [Act.put, List.setIfInBounds_toArray, List.set_cons_zero, List.set_cons_succ, i64_w, i32_w]
        rfl
      refine pure_ (i := 1) (N := some 72) (v := ?_) (a' := ?_) #[true, true, false, false, false, false, false, false] rfl rfl (by kernel_rfl) (fun _ _ _ h => h) (Or.inl ⟨by rfl, ?_⟩) ?_ ?_
      rotate_left
      · intro w'
        go_simp
        with_reducible rfl
      rotate_left
      · simp only [Act.put, List.setIfInBounds_toArray, List.set_cons_zero, List.set_cons_succ, i64_w, i32_w]
        rfl
      refine pure_ (i := 2) (N := some 73) (v := ?_) (a' := ?_) #[true, true, true, false, false, false, false, false] rfl rfl (by kernel_rfl) (fun _ _ _ h => h) (Or.inl ⟨by rfl, ?_⟩) ?_ ?_
      rotate_left
      · intro w'
        go_simp
        with_reducible rfl
      rotate_left
      · simp only [Act.put, List.setIfInBounds_toArray, List.set_cons_zero, List.set_cons_succ, i64_w, i32_w]
        rfl
      refine pure_ (i := 4) (N := some 75) (v := ?_) (a' := ?_) #[true, true, true, false, true, false, false, false] rfl rfl (by kernel_rfl) (fun _ _ _ h => h) (Or.inl ⟨by rfl, ?_⟩) ?_ ?_
      rotate_left
      · intro w'
        go_simp
        with_reducible rfl
      rotate_left
      · simp only [Act.put, List.setIfInBounds_toArray, List.set_cons_zero, List.set_cons_succ, i64_w, i32_w]
        rfl
      refine pure_ (i := 6) (N := some 77) (v := ?_) (a' := ?_) #[true, true, true, false, true, false, true, false] rfl rfl (by kernel_rfl) (fun _ _ _ h => h) (Or.inl ⟨by rfl, ?_⟩) ?_ ?_
      rotate_left
      · intro w'
        go_simp
        with_reducible rfl
      rotate_left
      · simp only [Act.put, List.setIfInBounds_toArray, List.set_cons_zero, List.set_cons_succ, i64_w, i32_w]
        rfl
      refine take_ (i := 3) (N := some 74) (v := ?_) (a' := ?_) #[true, true, true, true, true, false, true, false] rfl rfl (by kernel_rfl) (fun _ _ _ h => h) (Or.inl ⟨by rfl, ?_⟩) hHeld ?_ ?_
      rotate_left
      · rintro w' ⟨s0, s1⟩
        go_simp
        with_reducible rfl
      rotate_left
      · simp only [Act.put, List.setIfInBounds_toArray, List.set_cons_zero, List.set_cons_succ, i64_w, i32_w]
        rfl
      refine take_ (i := 5) (N := some 76) (v := ?_) (a' := ?_) #[true, true, true, true, true, true, true, false] rfl rfl (by kernel_rfl) (fun _ _ _ h => h) (Or.inl ⟨by rfl, ?_⟩) hHeld ?_ ?_
      rotate_left
      · rintro w' ⟨s0, s1⟩
        go_simp
        with_reducible rfl
      rotate_left
      · simp only [Act.put, List.setIfInBounds_toArray, List.set_cons_zero, List.set_cons_succ, i64_w, i32_w]
        rfl
      refine last_ (i := 7) (N := none) #[true, true, true, true, true, true, true, true] rfl rfl (by kernel_rfl) (by decide) (fun K hK => ?_)
      obtain ⟨W11, hup, hS11⟩ := set_put (v := .agg #[]) BD.out.at2 pg HPG.out HIL.out
      refine skip_ (w1 := ?_) (by rfl) rfl ?_ ?_
      rotate_left
      · go_simp
        rfl
      refine hK.out _ _ ?_
      clear hK K
      refine done_ (by kernel_rfl) ?_
      rw [← HIN.out] at hS11
      have B11 := Aside0.mk hS11.drop2
      clear hS11 hup
      go_wp2_with fail
      go_roundg (gk - 1)
      case measure => have := AK.out; omega
      case rel => exact ⟨j + 1, by go_num, by have := AK.out; omega, B11.out⟩
    case neg =>
    obtain rfl : j = n2 := by omega
    have hjl : ¬ (j : Int) < (j : Int) := by omega
    have HTK : Aside0 (l.take j = l) := ⟨List.take_of_length_le (by rw [HLN.out]; exact Nat.le_refl _)⟩
    have B12 := Aside0.mk AS.out.at2
    rw [HTK.out] at B12
    have z6 := (B12.out.cell 6).trans rfl
    have f6 := B12.out.frozen 6
    have B13 := Aside0.mk (B12.out.setBlk 6 (.int .i64 (U2 : Int)))
    have z7 := (B13.out.cell 7).trans rfl
    have f7 := B13.out.frozen 7
    have B14 := Aside0.mk (B13.out.setBlk 7 (.int .u32 (S2 : Int)))
    clear hjk cj
    go_wp2_with fail
    go_ret
    refine ⟨by first | rfl | (simp; done), ?_⟩
    rw [HKK.out, HU2.out, HS2.out, HPS.out, HFR.out, HWT.out]
    exact stb_shut B14.out.sw23
end
end Go.Proofs.Ytjngnigelkgekaa.Store
namespace Go.Proofs.Ytjngnigelkgekaa.Store
set_option linter.unusedVariables false
set_option linter.unusedSimpArgs false
open Go.RowKit Go.Proofs.YtjngnigelkgekaaW.PrintWords Go.Proofs.YtjngnigelkgekaaW.PrintLast Go.Proofs.YtjngnigelkgekaaW.PrintMore Go.Proofs.Ytjngnigelkgekaa.Kit Go.Proofs.Ytjngnigelkgekaa.Plain Go.Proofs.Ytjngnigelkgekaa.Disk Go.Proofs.Ytjngnigelkgekaa.Root
open Go.Proofs.Ytjngnigelkgekaa.Delta (Chg KC deltaF rightF)
open Go.Proofs.Ytjngnigelkgekaa.Redo (recR logF logF_bytes appR)
open Go.Proofs.Ytjngnigelkgekaa.Home (pagesF)
open Go.Proofs.Ytjngnigelkgekaa.Frame (frameF)
theorem k_b1 : Bytes z1L := by unfold Bytes; decide +kernel
theorem k_b3 : Bytes z3L := by unfold Bytes; decide +kernel
theorem k_len1 : z1L.length = 64 * 20 := by decide +kernel
theorem k_len2 : z2L.length = 64 * 20 := by decide +kernel
theorem k_len3 : z3L.length = 64 * 20 := by decide +kernel
theorem k_pl : ∀ p ∈ zps, p.length ≤ 1000000 := by decide +kernel
theorem no_bytes : ∀ i b, noW i = some b → Bytes b := fun i b h => by cases h
/-- One change in a literal, read. -/
theorem chg_lit {w0 W : World} {F : List HP} {p : Nat} {t : TypeId} {k : Int} {A : Option Addr} {n c : Nat} {xs : List Int} (h : Sep w0 W (Blk p t #[.int .i64 k, .slice A n c] :: Row (Kd.int .u8) 5 (.slice A n c) xs :: F)) : KC.C W (some ⟨p, 0, none⟩) 1 [(k, xs)] := by
  have h1 := h.at2.rowC
  have h2 := h.at2.rowC'
  refine ⟨rfl, by decide, fun _ => ⟨_, rfl, fun j q hq => ?_⟩⟩
  have hj : j = 0 := by
    have := (List.getElem?_eq_some_iff.1 hq).1
    simp at this; omega
  subst hj
  obtain rfl : (k, xs) = q := by simpa using hq
  refine ⟨[.int .i64 k, .slice A n c], rfl, ⟨[.int .i64 k], [.slice A n c], rfl, rfl, A, c, by rw [← h1.1], by rw [← h1.1]; exact h1.2.1, by have h3 := h1.2.2; exact h3⟩, fun i u hu => ?_⟩
  rw [Nat.zero_mul, Nat.zero_add, add_plain, h.cell]
  simpa using hu
section
variable {w0 W : World} {F : List HP} {g : Nat}
theorem k_open0 (h : Sep w0 W (Dsk g z0L noW :: F)) : Calls Try.prog 27 #[.pointer (some ⟨g, 0, none⟩)] W fun e w' => e = .returned (.tuple #[.pointer none, .int .i64 22]) ∧ Sep w0 w' (Dsk g z0L noW :: F) :=
  open_none (n := 20) h List.length_replicate (by decide) Ref.none_len (fun j => secF_bytes (zeros_bytes _) no_bytes j) k_none
theorem k_format (h : Sep w0 W (Dsk g z0L noW :: F)) : Calls Try.prog 26 #[.pointer (some ⟨g, 0, none⟩), .int .i64 9, .int .i64 4] W fun e w' => e = .returned (.int .i64 0) ∧ Sep w0 w' (Dsk g z1L noW :: F) := by
  rw [← k_fmt]
  exact format_ok (n := 20) h List.length_replicate (by decide) Ref.none_len 9 4 k_right
theorem k_open1 (h : Sep w0 W (Dsk g z1L noW :: F)) : Calls Try.prog 27 #[.pointer (some ⟨g, 0, none⟩)] W fun e w' => ∃ gs m, e = .returned (.tuple #[.pointer (some ⟨gs, 0, none⟩), .int .i64 0]) ∧ Sep w0 w' (StB gs g m 9 4 2 zps [] 0 0 :: Dsk g z2L noW :: F) := by
  refine (open_ok (n := 20) h k_len1 (by decide) Ref.none_len (fun j => secF_bytes k_b1 no_bytes j) 9 4 1 k_best1 (by decide) (by decide) (logF_bytes k_b1 no_bytes _ _ _) (by rw [k_pages1]; decide) (by rw [k_pages1]; rfl) (by rw [k_pages1]; exact k_pl) (by rw [k_rec1]; decide) (by rw [k_rec1]; intro x hx; cases hx)).mono ?_
  rintro e w' ⟨gs, m, rfl, hS⟩
  rw [k_pages1, k_rec1] at hS
  have hs : insList [] (sortK (nmAll [] [])) = [] := by decide +kernel
  rw [hs, show pgAll zps [] = zps from rfl, k_chk1] at hS
  exact ⟨gs, m, rfl, hS⟩
theorem k_open3 (h : Sep w0 W (Dsk g z3L noW :: F)) : Calls Try.prog 27 #[.pointer (some ⟨g, 0, none⟩)] W fun e w' => ∃ gs m L4, e = .returned (.tuple #[.pointer (some ⟨gs, 0, none⟩), .int .i64 0]) ∧ L4.length = 64 * 20 ∧ Sep w0 w' (StB gs g m 9 4 3 (applyF zps [(2, s5)]) [] 0 0 :: Dsk g L4 noW :: F) := by
  refine (open_ok (n := 20) h k_len3 (by decide) Ref.none_len (fun j => secF_bytes k_b3 no_bytes j) 9 4 2 k_best3 (by decide) (by decide) (logF_bytes k_b3 no_bytes _ _ _) (by rw [k_pages3]; decide) (by rw [k_pages3]; rfl) (by rw [k_pages3]; exact k_pl) (by rw [k_rec3]; decide) (by rw [k_rec3]; intro x hx; rw [List.mem_singleton.1 hx]; decide)).mono ?_
  rintro e w' ⟨gs, m, rfl, hS⟩
  rw [k_pages3, k_rec3] at hS
  refine ⟨gs, m, _, rfl, ?_, hS⟩
  unfold chkL
  exact Ref.flushed_len (Ref.flushed_len (Ref.flushed_len k_len3 Ref.none_len) (homeW_len _ Ref.none_len)) (putW_len Ref.none_len)
end
end Go.Proofs.Ytjngnigelkgekaa.Store
namespace Go.Proofs.Ytjngnigelkgekaa.Store
set_option linter.unusedVariables false
set_option linter.unusedSimpArgs false
open Go.RowKit Go.Proofs.YtjngnigelkgekaaW.PrintWords Go.Proofs.YtjngnigelkgekaaW.PrintLast Go.Proofs.YtjngnigelkgekaaW.PrintMore Go.Proofs.Ytjngnigelkgekaa.Kit Go.Proofs.Ytjngnigelkgekaa.Plain Go.Proofs.Ytjngnigelkgekaa.Disk Go.Proofs.Ytjngnigelkgekaa.Root
open Go.Proofs.Ytjngnigelkgekaa.Delta (Chg KC deltaF rightF okF undeltaF)
open Go.Proofs.Ytjngnigelkgekaa.Redo (recR logF logF_bytes)
open Go.Proofs.Ytjngnigelkgekaa.Home (pagesF pageF putP mayF atF may_in)
open Go.Proofs.Ytjngnigelkgekaa.Frame (frameF frameF_len readF scanF scanR ScanAt scan_start scan_none scan_some recsF longs longs_app recs_bytes scan_facts recs_len longs_len)
open Go.Proofs.Ytjngnigelkgekaa.Sum (getF_put sumF_in)
theorem read_frame {ep sq : Int} {b : List Int} (rest : List Int) (he : 0 ≤ ep ∧ ep ≤ 4294967295) (hs : 0 ≤ sq ∧ sq ≤ 4294967295) (hl : b.length ≤ 1000000) : readF (frameF ep sq b ++ rest) ep sq = some b := by
  obtain ⟨h, hh⟩ : ∃ h, put4 ep ++ put4 sq ++ put4 (b.length : Int) ++ b = h := ⟨_, rfl⟩
  have hf : frameF ep sq b = h ++ put4 (sumF h) := by rw [← hh]; rfl
  have hhl : h.length = 12 + b.length := by rw [← hh]; simp [put4]; omega
  have e0 : getF (frameF ep sq b ++ rest) 0 = ep := by
    rw [hf, ← hh]
    have := getF_put [] (put4 sq ++ (put4 (b.length : Int) ++ (b ++ (put4 (sumF h) ++ rest)))) he.1 he.2
    rw [← hh] at this
    simpa using this
  have e4 : getF (frameF ep sq b ++ rest) 4 = sq := by
    rw [hf, ← hh]
    have := getF_put (put4 ep) (put4 (b.length : Int) ++ (b ++ (put4 (sumF h) ++ rest))) hs.1 hs.2
    rw [← hh] at this
    have l1 : (put4 ep).length = 4 := rfl
    simpa [l1] using this
  have e8 : getF (frameF ep sq b ++ rest) 8 = (b.length : Int) := by
    rw [hf, ← hh]
    have := getF_put (put4 ep ++ put4 sq) (b ++ (put4 (sumF h) ++ rest)) (m := (b.length : Int)) (by omega) (by omega)
    rw [← hh] at this
    have l1 : (put4 ep).length = 4 := rfl
    have l2 : (put4 sq).length = 4 := rfl
    simpa [l1, l2] using this
  have ht : (frameF ep sq b ++ rest).take (12 + b.length) = h := by
    rw [hf, List.append_assoc, ← hhl, List.take_left]
  have e12 : getF (frameF ep sq b ++ rest) ((12 + b.length : Nat) : Int) = sumF h := by
    have hr := sumF_in h
    have := getF_put h rest hr.1 hr.2
    rw [hf, ← hhl, List.append_assoc]
    exact this
  have htl : (frameF ep sq b ++ rest).length = 16 + b.length + rest.length := by rw [List.length_append, frameF_len]
  unfold readF
  rw [e8, Int.toNat_natCast, e0, e4, e12, ht]
  rw [if_pos ⟨by omega, rfl, rfl, by omega, rfl⟩]
  congr 1
  rw [← hh]
  exact List.drop_left' rfl
theorem read_other {l : List Int} {ep sq : Int} (h : getF l 0 ≠ ep) : readF l ep sq = none := by
  unfold readF
  exact if_neg (fun h2 => h h2.2.1)
theorem getF_frame {ep sq : Int} {b : List Int} (rest : List Int) (he : 0 ≤ ep ∧ ep ≤ 4294967295) : getF (frameF ep sq b ++ rest) 0 = ep := by
  have := getF_put [] (put4 sq ++ (put4 (b.length : Int) ++ (b ++ (put4 (sumF (put4 ep ++ put4 sq ++ put4 (b.length : Int) ++ b)) ++ rest)))) he.1 he.2
  unfold frameF
  simpa using this
theorem getF_zeros (m : Nat) : getF (List.replicate m 0) 0 = 0 := by
  unfold getF
  split
  · rfl
  · have : ∀ i : Int, rd (List.replicate m 0) i = 0 := fun i => by
      unfold rd
      rw [List.getD_eq_getElem?_getD, List.getElem?_replicate]
      split <;> rfl
    rw [this, this, this, this]; rfl
theorem rev_ind {α : Type} {P : List α → Prop} (h0 : P []) (h1 : ∀ l x, P l → P (l ++ [x])) : ∀ l, P l := fun l => by
  have : ∀ r : List α, P r.reverse := fun r => by
    induction r with
    | nil => exact h0
    | cons x t ih => rw [List.reverse_cons]; exact h1 _ _ ih
  have h := this l.reverse
  rwa [List.reverse_reverse] at h
def framesF (ep : Int) (bs : List (List Int)) : List Int := (List.range bs.length).flatMap (fun i : Nat => frameF ep (i : Int) (bs.getD i []))
theorem framesF_snoc (ep : Int) (bs : List (List Int)) (b : List Int) : framesF ep (bs ++ [b]) = framesF ep bs ++ frameF ep (bs.length : Int) b := by
  unfold framesF
  rw [List.length_append, List.length_singleton, List.range_succ, List.flatMap_append]
  congr 1
  · have : ∀ i ∈ List.range bs.length, frameF ep (i : Int) ((bs ++ [b]).getD i []) = frameF ep (i : Int) (bs.getD i []) := fun i hi => by
      have := List.mem_range.1 hi
      rw [List.getD_eq_getElem?_getD, List.getD_eq_getElem?_getD, List.getElem?_append_left this]
    rw [List.flatMap_def, List.flatMap_def, List.map_congr_left this]
  · simp
theorem framesF_len (ep : Int) : ∀ (bs : List (List Int)), (framesF ep bs).length = longs bs := by
  refine rev_ind ?_ (fun bs b ih => ?_)
  · rfl
  · rw [framesF_snoc, List.length_append, ih, frameF_len, longs_app]
    simp [longs]
theorem framesF_bytes (ep : Int) : ∀ (bs : List (List Int)), (∀ b ∈ bs, Bytes b) → Bytes (framesF ep bs) := by
  refine rev_ind ?_ (fun bs b ih => ?_)
  · intro _; exact Bytes.nil
  · intro h
    rw [framesF_snoc]
    exact (ih (fun x hx => h x (List.mem_append_left _ hx))).app (Frame.frameF_bytes _ _ (h b (List.mem_append_right _ (List.mem_singleton.2 rfl))))
theorem scan_frames {ep : Int} (he : 0 ≤ ep ∧ ep ≤ 4294967295) : ∀ (bs : List (List Int)) (rest : List Int), (∀ b ∈ bs, Bytes b) → Bytes rest → (∀ b ∈ bs, b.length ≤ 1000000) → bs.length ≤ 1000000 → ∃ f, ScanAt (framesF ep bs ++ rest) ep bs (longs bs) f := by
  refine rev_ind ?_ (fun bs b ih => ?_)
  · intro rest _ _ _ _; exact ⟨_, scan_start _ _⟩
  · intro rest hb hr hl hn
    have hb1 : ∀ x ∈ bs, Bytes x := fun x hx => hb x (List.mem_append_left _ hx)
    have hb2 := hb b (List.mem_append_right _ (List.mem_singleton.2 rfl))
    have hl2 := hl b (List.mem_append_right _ (List.mem_singleton.2 rfl))
    rw [List.length_append, List.length_singleton] at hn
    obtain ⟨f, hf⟩ := ih (frameF ep (bs.length : Int) b ++ rest) hb1 ((Frame.frameF_bytes _ _ hb2).app hr) (fun x hx => hl x (List.mem_append_left _ hx)) (by omega)
    rw [← List.append_assoc, ← framesF_snoc] at hf
    have hall : Bytes (framesF ep (bs ++ [b]) ++ rest) := (framesF_bytes ep _ hb).app hr
    have hd : (framesF ep (bs ++ [b]) ++ rest).drop (longs bs) = frameF ep (bs.length : Int) b ++ rest := by
      rw [framesF_snoc, List.append_assoc]
      exact List.drop_left' (framesF_len ep bs)
    have h2 := (scan_some hf hall (x := b) (by rw [hd]; exact read_frame rest he ⟨by omega, by omega⟩ hl2)).1
    rw [longs_app, show longs [b] = 16 + b.length by simp [longs]]
    exact ⟨_, h2⟩
theorem scan_framed {ep : Int} (he : 0 ≤ ep ∧ ep ≤ 4294967295) {bs : List (List Int)} {rest : List Int} (hb : ∀ b ∈ bs, Bytes b) (hr : Bytes rest) (hl : ∀ b ∈ bs, b.length ≤ 1000000) (hn : bs.length ≤ 1000000) (hno : readF rest ep (bs.length : Int) = none) : scanR (framesF ep bs ++ rest) ep = (bs, longs bs) := by
  obtain ⟨f, hf⟩ := scan_frames he bs rest hb hr hl hn
  exact scan_none hf (by rw [List.drop_left' (framesF_len ep bs)]; exact hno)
theorem recs_deltas {P : Int} : ∀ (ls : List (List Chg)), (∀ l ∈ ls, rightF l P = true) → (recsF P (ls.map deltaF)).1 = ls
  | [], _ => rfl
  | l :: t, h => by
    have h1 := undelta_delta (h l (List.mem_cons_self ..))
    rw [List.map_cons]
    simp only [recsF, h1]
    rw [recs_deltas t (fun x hx => h x (List.mem_cons_of_mem _ hx))]
end Go.Proofs.Ytjngnigelkgekaa.Store
