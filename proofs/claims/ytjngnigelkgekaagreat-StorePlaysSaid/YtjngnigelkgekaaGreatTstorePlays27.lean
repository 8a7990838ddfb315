/- StLaw3, StLaw4, StLaw5, StMost, StFP, StAny: what StorePlays needs. -/
import Derived.Test.YtjngnigelkgekaaGreatTstorePlays26
set_option linter.unusedVariables false
set_option linter.unusedSimpArgs false
namespace Go.Proofs.YtjngnigelkgekaaGreat.Store
open Go.RowKit Go.Proofs.YtjngnigelkgekaaGreatW.PrintWords Go.Proofs.YtjngnigelkgekaaGreatW.PrintLast Go.Proofs.YtjngnigelkgekaaGreatW.PrintMore Go.Proofs.YtjngnigelkgekaaGreat.Kit Go.Proofs.YtjngnigelkgekaaGreat.Plain Go.Proofs.YtjngnigelkgekaaGreat.Disk Go.Proofs.YtjngnigelkgekaaGreat.Root
open Go.Proofs.YtjngnigelkgekaaGreat.Delta (Chg KC deltaF rightF okF undeltaF)
open Go.Proofs.YtjngnigelkgekaaGreat.Redo (recR logF logF_bytes)
open Go.Proofs.YtjngnigelkgekaaGreat.Home (pagesF pageF putP mayF atF may_in)
open Go.Proofs.YtjngnigelkgekaaGreat.Frame (frameF frameF_len readF scanF scanR ScanAt scan_start scan_none scan_some recsF longs longs_app recs_bytes scan_facts recs_len longs_len)
theorem insK_keep {ks : List Int} {k x : Int} (h : x ∈ ks) : x ∈ insK ks k := by
  unfold insK
  split
  · exact h
  · exact List.mem_append_left _ h
theorem insK_new (ks : List Int) (k : Int) : k ∈ insK ks k := by
  unfold insK
  split
  · assumption
  · exact List.mem_append_right _ (List.mem_singleton.2 rfl)
theorem insAll_keep {x : Int} : ∀ (l : List Chg) {ks : List Int}, x ∈ ks → x ∈ insAll ks l
  | [], _, h => h
  | c :: r, ks, h => insAll_keep r (ks := insK ks c.1) (insK_keep h)
theorem insAll_new : ∀ (l : List Chg) {ks : List Int} {c : Chg}, c ∈ l → c.1 ∈ insAll ks l
  | d :: r, ks, c, h => by
    rcases List.mem_cons.1 h with rfl | h
    · exact insAll_keep r (insK_new ks c.1)
    · exact insAll_new r h
theorem insList_all {x : Int} : ∀ (l : List Int) {ks : List Int}, x ∈ l ∨ x ∈ ks → x ∈ insList ks l
  | [], ks, h => by
    rcases h with h | h
    · cases h
    · exact h
  | k :: t, ks, h => insList_all t (ks := insK ks k) (by
      rcases h with h | h
      · rcases List.mem_cons.1 h with rfl | h
        · exact .inr (insK_new _ _)
        · exact .inl h
      · exact .inr (insK_keep h))
def openN (rows : List (List Chg)) : List Int := insList [] (sortK (nmAll [] rows))
theorem openN_mem {rows : List (List Chg)} {x : Int} : x ∈ openN rows ↔ x ∈ nmAll [] rows := by
  unfold openN
  constructor
  · intro h
    rcases insList_mem _ h with h | h
    · cases h
    · exact (sortK_perm _).mem_iff.2 h
  · intro h
    exact insList_all _ (.inl ((sortK_perm _).mem_iff.1 h))
theorem applyOne_all {Q : List Int → Prop} {ps : List (List Int)} {c : Chg} (h : ∀ p ∈ ps, Q p) (hc : Q c.2) : ∀ p ∈ applyOne ps c, Q p := by
  unfold applyOne
  split
  · intro p hp
    rcases List.mem_or_eq_of_mem_set hp with h1 | rfl
    · exact h p h1
    · exact hc
  · exact h
theorem applyF_all {Q : List Int → Prop} : ∀ {l : List Chg} {ps : List (List Int)}, (∀ p ∈ ps, Q p) → (∀ c ∈ l, Q c.2) → ∀ p ∈ applyF ps l, Q p
  | [], _, h, _ => h
  | c :: r, _, h, hl => applyF_all (l := r) (applyOne_all h (hl c (List.mem_cons_self ..))) (fun x hx => hl x (List.mem_cons_of_mem _ hx))
theorem pgAll_all {Q : List Int → Prop} : ∀ {rows : List (List Chg)} {ps : List (List Int)}, (∀ p ∈ ps, Q p) → (∀ x ∈ rows, ∀ c ∈ x, Q c.2) → ∀ p ∈ pgAll ps rows, Q p
  | [], _, h, _ => h
  | x :: r, _, h, hl => pgAll_all (rows := r) (applyF_all h (hl x (List.mem_cons_self ..))) (fun y hy => hl y (List.mem_cons_of_mem _ hy))
end Go.Proofs.YtjngnigelkgekaaGreat.Store
namespace Go.Proofs.YtjngnigelkgekaaGreat.Store
open Go.RowKit Go.Proofs.YtjngnigelkgekaaGreatW.PrintWords Go.Proofs.YtjngnigelkgekaaGreatW.PrintLast Go.Proofs.YtjngnigelkgekaaGreatW.PrintMore Go.Proofs.YtjngnigelkgekaaGreat.Kit Go.Proofs.YtjngnigelkgekaaGreat.Plain Go.Proofs.YtjngnigelkgekaaGreat.Disk Go.Proofs.YtjngnigelkgekaaGreat.Root
open Go.Proofs.YtjngnigelkgekaaGreat.Delta (Chg KC deltaF rightF okF undeltaF)
open Go.Proofs.YtjngnigelkgekaaGreat.Redo (recR logF logF_bytes appR okA appW appW_flushed over_over sec_over_out logF_of)
open Go.Proofs.YtjngnigelkgekaaGreat.Home (pagesF pageF putP mayF atF may_in)
open Go.Proofs.YtjngnigelkgekaaGreat.Frame (frameF frameF_len readF scanF scanR ScanAt scan_start scan_none scan_some recsF longs longs_app recs_bytes scan_facts recs_len longs_len)
theorem putsW_bytes {n s : Nat} {z : List Int} (hz : Bytes z) : ∀ (k : Nat) {wt : Wt}, (∀ i b, wt i = some b → Bytes b) → ∀ i b, putsW n s z k wt i = some b → Bytes b
  | 0, _, h => h
  | k + 1, _, h => putW_bytes (putsW_bytes hz k h) hz
end Go.Proofs.YtjngnigelkgekaaGreat.Store
namespace Go.Proofs.YtjngnigelkgekaaGreat.Store
open Go.RowKit Go.Proofs.YtjngnigelkgekaaGreatW.PrintWords Go.Proofs.YtjngnigelkgekaaGreatW.PrintLast Go.Proofs.YtjngnigelkgekaaGreatW.PrintMore Go.Proofs.YtjngnigelkgekaaGreat.Kit Go.Proofs.YtjngnigelkgekaaGreat.Plain Go.Proofs.YtjngnigelkgekaaGreat.Disk Go.Proofs.YtjngnigelkgekaaGreat.Root
open Go.Proofs.YtjngnigelkgekaaGreat.Delta (Chg KC deltaF rightF okF undeltaF)
open Go.Proofs.YtjngnigelkgekaaGreat.Redo (recR logF logF_bytes appR okA appW appW_flushed over_over sec_over_out logF_of)
open Go.Proofs.YtjngnigelkgekaaGreat.Home (pagesF pageF putP mayF atF may_in)
open Go.Proofs.YtjngnigelkgekaaGreat.Frame (frameF frameF_len readF scanF scanR ScanAt scan_start scan_none scan_some recsF longs longs_app recs_bytes scan_facts recs_len longs_len)
section
variable {n a b k : Nat} {E : Int} {p0 : List (List Int)} {ls : List (List Chg)} {G las : List Int} {wt : Wt} {cuts : List Int}
theorem crash_mix (hl : las.length = 64 * n) (hw : ∀ i b, wt i = some b → b.length = 64) (p : Nat) : (crashed las wt cuts)[p]? = las[p]? ∨ (crashed las wt cuts)[p]? = (flushed las wt)[p]? := by
  unfold crashed flushed
  rw [show las.length / 64 = n by omega, secs_get (cutS_len hl hw), secs_get (fun i hi => Ref.got_len hl hw hi)]
  by_cases hp : p < 64 * n
  · rw [if_pos hp, if_pos hp]
    have hL : las[p]? = (sec las (p / 64))[p % 64]? := by rw [sec_get _ _ _ (by omega), show 64 * (p / 64) + p % 64 = p by omega]
    rw [hL]
    unfold cutS
    cases hwt : wt (p / 64) with
    | none => exact .inl rfl
    | some x =>
      have hx := hw _ _ hwt
      have hs : (sec las (p / 64)).length = 64 := sec_len (by omega)
      have hc := cutN_le cuts (rank wt (p / 64))
      dsimp only
      by_cases h : p % 64 < cutN cuts (rank wt (p / 64))
      · right
        rw [List.getElem?_append_left (by rw [List.length_take]; omega), List.getElem?_take, if_pos h]
        rfl
      · left
        rw [List.getElem?_append_right (by rw [List.length_take]; omega), List.length_take, List.getElem?_drop]
        congr 1
        omega
  · rw [if_neg hp]
    left
    rw [List.getElem?_eq_none (by omega)]
theorem crash_len (hl : las.length = 64 * n) (hw : ∀ i b, wt i = some b → b.length = 64) : (crashed las wt cuts).length = 64 * n := by
  unfold crashed
  rw [show las.length / 64 = n by omega]
  exact secs_len (cutS_len hl hw)
theorem crash_bytes (hl : las.length = 64 * n) (hw : ∀ i b, wt i = some b → b.length = 64) (h1 : Bytes las) (h2 : Bytes (flushed las wt)) : Bytes (crashed las wt cuts) := fun x hx => by
  obtain ⟨p, hp, rfl⟩ := List.getElem_of_mem hx
  have h3 := List.getElem?_eq_getElem hp
  rcases crash_mix (cuts := cuts) hl hw p with h | h
  · exact h1 _ (List.mem_of_getElem? (h ▸ h3))
  · exact h2 _ (List.mem_of_getElem? (h ▸ h3))
end
end Go.Proofs.YtjngnigelkgekaaGreat.Store
namespace Go.Proofs.YtjngnigelkgekaaGreat.Store
open Go.RowKit Go.Proofs.YtjngnigelkgekaaGreatW.PrintWords Go.Proofs.YtjngnigelkgekaaGreatW.PrintLast Go.Proofs.YtjngnigelkgekaaGreatW.PrintMore Go.Proofs.YtjngnigelkgekaaGreat.Kit Go.Proofs.YtjngnigelkgekaaGreat.Plain
open Go.Proofs.YtjngnigelkgekaaGreat.Redo (sizeF sizeF_in size_)
open Go.Proofs.YtjngnigelkgekaaGreat.Delta (needF need_ rneed_)
set_option maxHeartbeats 800000 in
set_option maxRecDepth 100000 in
theorem rfits_ (a b c : Int) (u n : Nat) (hu : (u : Int) ≤ sizeF a) (W : World) : Calls Tryz.prog 84 #[.agg #[.int .i64 a, .int .i64 b, .int .u32 c], .int .i64 (u : Int), .int .i64 (n : Int)] W fun e w' => e = .returned (.bool (fitsF a u n)) ∧ Below W.heap.size W w' := by
  have hn := need_in (n : Int)
  obtain ⟨q, hq⟩ : ∃ q, needF (n : Int) = q := ⟨_, rfl⟩
  rw [hq] at hn
  have HQ := Aside0.mk hq
  have HU := Aside0.mk hu
  have A0 := Aside0.mk ((Sep.start W).newBlk 80 #[.int .i64 a, .int .i64 b, .int .u32 c]).drew
  clear hq hu
  by_cases h0 : 0 < q
  case neg =>
    have hd : decide (0 < q) = false := decide_eq_false h0
    have HV : Aside0 (fitsF a u n = false) := ⟨by unfold fitsF; rw [HQ.out]; exact decide_eq_false (fun h => h0 h.1)⟩
    go_enter Tryz.func84, Tryz.ntmps84
    go_wp2_with fail
    refine start_ (n := 12) (S := fun w' => w'.cell? ⟨W.heap.size, 0, none⟩ = some (.int .i64 a) ∧ w'.cell? ⟨W.heap.size, 1, none⟩ = some (.int .i64 b) ∧ w'.cell? ⟨W.heap.size, 2, none⟩ = some (.int .u32 c)) (ds := []) #[false, false, false, false, false, false, false, false, false, false, false, false] (by kernel_rfl) rfl rfl ⟨(A0.out.cell 0).trans rfl, (A0.out.cell 1).trans rfl, (A0.out.cell 2).trans rfl⟩ (fun hHeld => ?_)
    refine pure_ (i := 0) (N := some 7) (v := ?_) (a' := ?_) #[true, false, false, false, false, false, false, false, false, false, false, false] rfl rfl (by kernel_rfl) (fun _ _ _ h => h) (Or.inl ⟨by rfl, ?_⟩) ?_ ?_
    rotate_left
    · intro w'
      go_simp
      with_reducible rfl
    rotate_left
    · simp only [Act.put, sIB, sCz, sCs, i64_w, i32_w]
      rfl
    refine one_ (i := 1) (N := some 8) #[true, true, false, false, false, false, false, false, false, false, false, false] rfl rfl (by kernel_rfl) (by decide) (fun K hK => ?_)
    refine goes_ Tryz.func113 (by kernel_rfl) rfl #[.int .i64 (n : Int)] (by rfl) rfl rfl (by simp only [List.map_toArray, List.map_cons, List.map_nil]; rfl) ?_
    with_reducible refine (rneed_ (n : Int) _).mono ?_
    rintro e w1 ⟨rfl, rfl⟩
    refine ⟨_, rfl, ?_⟩
    rw [HQ.out]
    refine hK.out _ _ ⟨(A0.out.cell 0).trans rfl, (A0.out.cell 1).trans rfl, (A0.out.cell 2).trans rfl⟩ (fun hHeld => ?_)
    clear hK K
    refine norm_ (a' := ?_) ?_ ?_
    rotate_left
    · show Act.put _ (some 8) _ = _
      simp only [Act.put, sIB, sCz, sCs, i64_w, i32_w]
      rfl
    refine pure_ (i := 2) (N := some 9) (v := ?_) (a' := ?_) #[true, true, true, false, false, false, false, false, false, false, false, false] rfl rfl (by kernel_rfl) (fun _ _ _ h => h) (Or.inl ⟨by rfl, ?_⟩) ?_ ?_
    rotate_left
    · intro w'
      go_simp
      with_reducible rfl
    rotate_left
    · simp only [Act.put, sIB, sCz, sCs, i64_w, i32_w]
      rfl
    refine pure_ (i := 3) (N := some 10) (v := ?_) (a' := ?_) #[true, true, true, true, false, false, false, false, false, false, false, false] rfl rfl (by kernel_rfl) (fun _ _ _ h => h) (Or.inl ⟨by rfl, ?_⟩) ?_ ?_
    rotate_left
    · intro w'
      go_simp
      with_reducible rfl
    rotate_left
    · simp only [Act.put, sIB, sCz, sCs, i64_w, i32_w]
      rfl
    refine pure_ (i := 4) (N := some 11) (v := undef) (a' := ?_) #[true, true, true, true, true, false, false, false, false, false, false, false] rfl rfl (by kernel_rfl) (fun _ _ _ h => h) (Or.inr ⟨by rfl, rfl⟩) ?_ ?_
    rotate_left
    · simp only [Act.put, sIB, sCz, sCs, i64_w, i32_w]
      rfl
    refine pure_ (i := 5) (N := some 12) (v := undef) (a' := ?_) #[true, true, true, true, true, true, false, false, false, false, false, false] rfl rfl (by kernel_rfl) (fun _ _ _ h => h) (Or.inr ⟨by rfl, rfl⟩) ?_ ?_
    rotate_left
    · simp only [Act.put, sIB, sCz, sCs, i64_w, i32_w]
      rfl
    refine pure_ (i := 6) (N := some 13) (v := undef) (a' := ?_) #[true, true, true, true, true, true, true, false, false, false, false, false] rfl rfl (by kernel_rfl) (fun _ _ _ h => h) (Or.inr ⟨by rfl, rfl⟩) ?_ ?_
    rotate_left
    · simp only [Act.put, sIB, sCz, sCs, i64_w, i32_w]
      rfl
    refine pure_ (i := 7) (N := some 14) (v := undef) (a' := ?_) #[true, true, true, true, true, true, true, true, false, false, false, false] rfl rfl (by kernel_rfl) (fun _ _ _ h => h) (Or.inr ⟨by rfl, rfl⟩) ?_ ?_
    rotate_left
    · simp only [Act.put, sIB, sCz, sCs, i64_w, i32_w]
      rfl
    refine pure_ (i := 8) (N := some 15) (v := undef) (a' := ?_) #[true, true, true, true, true, true, true, true, true, false, false, false] rfl rfl (by kernel_rfl) (fun _ _ _ h => h) (Or.inr ⟨by rfl, rfl⟩) ?_ ?_
    rotate_left
    · simp only [Act.put, sIB, sCz, sCs, i64_w, i32_w]
      rfl
    refine pure_ (i := 9) (N := some 16) (v := undef) (a' := ?_) #[true, true, true, true, true, true, true, true, true, true, false, false] rfl rfl (by kernel_rfl) (fun _ _ _ h => h) (Or.inr ⟨by rfl, rfl⟩) ?_ ?_
    rotate_left
    · simp only [Act.put, sIB, sCz, sCs, i64_w, i32_w]
      rfl
    refine pure_ (i := 10) (N := some 17) (v := ?_) (a' := ?_) #[true, true, true, true, true, true, true, true, true, true, true, false] rfl rfl (by kernel_rfl) (fun _ _ _ h => h) (Or.inl ⟨by rfl, ?_⟩) ?_ ?_
    rotate_left
    · intro w'
      go_simp
      with_reducible rfl
    rotate_left
    · simp only [Act.put, sIB, sCz, sCs, i64_w, i32_w]
      rfl
    refine pure_ (i := 11) (N := some 6) (v := ?_) (a' := ?_) #[true, true, true, true, true, true, true, true, true, true, true, true] rfl rfl (by kernel_rfl) (fun _ _ _ h => h) (Or.inl ⟨by rfl, ?_⟩) ?_ ?_
    rotate_left
    · intro w'
      go_simp
      with_reducible rfl
    rotate_left
    · simp only [Act.put, sIB, sCz, sCs, i64_w, i32_w]
      rfl
    refine done_ (by kernel_rfl) ?_
    go_wp2_with fail
    go_ret
    exact ⟨by rw [HV.out]; first | rfl | (simp; done), A0.out.tail.toBelow⟩
  case pos =>
  have hd : decide (0 < q) = true := decide_eq_true h0
  obtain ⟨s, hs⟩ : ∃ s, sizeF a - (u : Int) = s := ⟨_, rfl⟩
  have HV : Aside0 (fitsF a u n = decide (q ≤ s)) := ⟨by unfold fitsF; rw [HQ.out, hs]; by_cases h : q ≤ s <;> simp [h, h0]⟩
  have HS := Aside0.mk hs
  clear hs
  go_enter Tryz.func84, Tryz.ntmps84
  go_wp2_with fail
  refine start_ (n := 12) (S := fun w' => w'.cell? ⟨W.heap.size, 0, none⟩ = some (.int .i64 a) ∧ w'.cell? ⟨W.heap.size, 1, none⟩ = some (.int .i64 b) ∧ w'.cell? ⟨W.heap.size, 2, none⟩ = some (.int .u32 c)) (ds := [8]) #[false, false, false, false, false, false, false, false, false, false, false, false] (by kernel_rfl) rfl rfl ⟨(A0.out.cell 0).trans rfl, (A0.out.cell 1).trans rfl, (A0.out.cell 2).trans rfl⟩ (fun hHeld => ?_)
  refine pure_ (i := 0) (N := some 7) (v := ?_) (a' := ?_) #[true, false, false, false, false, false, false, false, false, false, false, false] rfl rfl (by kernel_rfl) (fun _ _ _ h => h) (Or.inl ⟨by rfl, ?_⟩) ?_ ?_
  rotate_left
  · intro w'
    go_simp
    with_reducible rfl
  rotate_left
  · simp only [Act.put, sIB, sCz, sCs, i64_w, i32_w]
    rfl
  refine one_ (i := 1) (N := some 8) #[true, true, false, false, false, false, false, false, false, false, false, false] rfl rfl (by kernel_rfl) (by decide) (fun K hK => ?_)
  refine goes_ Tryz.func113 (by kernel_rfl) rfl #[.int .i64 (n : Int)] (by rfl) rfl rfl (by simp only [List.map_toArray, List.map_cons, List.map_nil]; rfl) ?_
  with_reducible refine (rneed_ (n : Int) _).mono ?_
  rintro e w1 ⟨rfl, rfl⟩
  refine ⟨_, rfl, ?_⟩
  rw [HQ.out]
  refine hK.out _ _ ⟨(A0.out.cell 0).trans rfl, (A0.out.cell 1).trans rfl, (A0.out.cell 2).trans rfl⟩ (fun hHeld => ?_)
  clear hK K
  refine norm_ (a' := ?_) ?_ ?_
  rotate_left
  · show Act.put _ (some 8) _ = _
    simp only [Act.put, sIB, sCz, sCs, i64_w, i32_w]
    rfl
  refine pure_ (i := 2) (N := some 9) (v := ?_) (a' := ?_) #[true, true, true, false, false, false, false, false, false, false, false, false] rfl rfl (by kernel_rfl) (fun _ _ _ h => h) (Or.inl ⟨by rfl, ?_⟩) ?_ ?_
  rotate_left
  · intro w'
    go_simp
    with_reducible rfl
  rotate_left
  · simp only [Act.put, sIB, sCz, sCs, i64_w, i32_w]
    rfl
  refine pure_ (i := 3) (N := some 10) (v := ?_) (a' := ?_) #[true, true, true, true, false, false, false, false, false, false, false, false] rfl rfl (by kernel_rfl) (fun _ _ _ h => h) (Or.inl ⟨by rfl, ?_⟩) ?_ ?_
  rotate_left
  · intro w'
    go_simp
    with_reducible rfl
  rotate_left
  · simp only [Act.put, sIB, sCz, sCs, i64_w, i32_w]
    rfl
  refine pure_ (i := 4) (N := some 11) (v := ?_) (a' := ?_) #[true, true, true, true, true, false, false, false, false, false, false, false] rfl rfl (by kernel_rfl) (fun _ _ _ h => h) (Or.inl ⟨by rfl, ?_⟩) ?_ ?_
  rotate_left
  · intro w'
    go_simp
    with_reducible rfl
  rotate_left
  · simp only [Act.put, sIB, sCz, sCs, i64_w, i32_w]
    rfl
  refine pure_ (i := 7) (N := some 14) (v := ?_) (a' := ?_) #[true, true, true, true, true, false, false, true, false, false, false, false] rfl rfl (by kernel_rfl) (fun _ _ _ h => h) (Or.inl ⟨by rfl, ?_⟩) ?_ ?_
  rotate_left
  · intro w'
    go_simp
    with_reducible rfl
  rotate_left
  · simp only [Act.put, sIB, sCz, sCs, i64_w, i32_w]
    rfl
  refine take_ (i := 6) (N := some 13) (v := ?_) (a' := ?_) #[true, true, true, true, true, false, true, true, false, false, false, false] rfl rfl (by kernel_rfl) (fun _ _ _ h => h) (Or.inl ⟨by rfl, ?_⟩) hHeld ?_ ?_
  rotate_left
  · rintro w' ⟨s0, s1, s2⟩
    go_simp
    with_reducible rfl
  rotate_left
  · simp only [Act.put, sIB, sCz, sCs, i64_w, i32_w]
    rfl
  refine one_ (i := 5) (N := some 12) #[true, true, true, true, true, true, true, true, false, false, false, false] rfl rfl (by kernel_rfl) (by decide) (fun K hK => ?_)
  refine goes_ Tryz.func113 (by kernel_rfl) rfl #[.int .i64 (n : Int)] (by rfl) rfl rfl (by simp only [List.map_toArray, List.map_cons, List.map_nil]; rfl) ?_
  with_reducible refine (rneed_ (n : Int) _).mono ?_
  rintro e w5 ⟨rfl, rfl⟩
  refine ⟨_, rfl, ?_⟩
  rw [HQ.out]
  refine hK.out _ _ ⟨(A0.out.cell 0).trans rfl, (A0.out.cell 1).trans rfl, (A0.out.cell 2).trans rfl⟩ (fun hHeld => ?_)
  clear hK K
  refine norm_ (a' := ?_) ?_ ?_
  rotate_left
  · show Act.put _ (some 12) _ = _
    simp only [Act.put, sIB, sCz, sCs, i64_w, i32_w]
    rfl
  refine last_ (i := 8) (N := some 15) #[true, true, true, true, true, true, true, true, true, false, false, false] rfl rfl (by kernel_rfl) (by decide) (fun K hK => ?_)
  refine goes_ Tryz.func114 (by kernel_rfl) rfl #[.agg #[.int .i64 a, .int .i64 b, .int .u32 c], .int .i64 (u : Int)] (by rfl) rfl rfl (by simp only [List.map_toArray, List.map_cons, List.map_nil]; rfl) ?_
  with_reducible refine (rleft_ a b c u HU.out _).mono ?_
  rintro e w8 ⟨rfl, hb8⟩
  refine ⟨_, rfl, ?_⟩
  rw [HS.out]
  have A8 := Aside0.mk (A0.out.below hb8)
  clear hb8
  refine hK.out _ _ ?_
  clear hK K
  refine norm_ (a' := ?_) ?_ ?_
  rotate_left
  · show Act.put _ (some 15) _ = _
    simp only [Act.put, sIB, sCz, sCs, i64_w, i32_w]
    rfl
  refine pure_ (i := 9) (N := some 16) (v := ?_) (a' := ?_) #[true, true, true, true, true, true, true, true, true, true, false, false] rfl rfl (by kernel_rfl) (fun _ _ _ h => h) (Or.inl ⟨by rfl, ?_⟩) ?_ ?_
  rotate_left
  · intro w'
    go_simp
    with_reducible rfl
  rotate_left
  · simp only [Act.put, sIB, sCz, sCs, i64_w, i32_w]
    rfl
  refine pure_ (i := 10) (N := some 17) (v := ?_) (a' := ?_) #[true, true, true, true, true, true, true, true, true, true, true, false] rfl rfl (by kernel_rfl) (fun _ _ _ h => h) (Or.inl ⟨by rfl, ?_⟩) ?_ ?_
  rotate_left
  · intro w'
    go_simp
    with_reducible rfl
  rotate_left
  · simp only [Act.put, sIB, sCz, sCs, i64_w, i32_w]
    rfl
  refine pure_ (i := 11) (N := some 6) (v := ?_) (a' := ?_) #[true, true, true, true, true, true, true, true, true, true, true, true] rfl rfl (by kernel_rfl) (fun _ _ _ h => h) (Or.inl ⟨by rfl, ?_⟩) ?_ ?_
  rotate_left
  · intro w'
    go_simp
    with_reducible rfl
  rotate_left
  · simp only [Act.put, sIB, sCz, sCs, i64_w, i32_w]
    rfl
  refine done_ (by kernel_rfl) ?_
  by_cases hqs : q ≤ s
  · have hd2 : decide (q ≤ s) = true := decide_eq_true hqs
    go_wp2_with fail
    go_ret
    exact ⟨by rw [HV.out, hd2]; first | rfl | (simp; done), A8.out.tail.toBelow⟩
  · have hd2 : decide (q ≤ s) = false := decide_eq_false hqs
    go_wp2_with fail
    go_ret
    exact ⟨by rw [HV.out, hd2]; first | rfl | (simp; done), A8.out.tail.toBelow⟩
end Go.Proofs.YtjngnigelkgekaaGreat.Store
namespace Go.Proofs.YtjngnigelkgekaaGreat.Store
open Go.RowKit Go.Proofs.YtjngnigelkgekaaGreatW.PrintWords Go.Proofs.YtjngnigelkgekaaGreatW.PrintLast Go.Proofs.YtjngnigelkgekaaGreatW.PrintMore Go.Proofs.YtjngnigelkgekaaGreat.Kit Go.Proofs.YtjngnigelkgekaaGreat.Plain Go.Proofs.YtjngnigelkgekaaGreat.Disk Go.Proofs.YtjngnigelkgekaaGreat.Root
open Go.Proofs.YtjngnigelkgekaaGreat.Delta (Chg KC deltaF rightF okF)
open Go.Proofs.YtjngnigelkgekaaGreat.Redo (recR logF logF_bytes appR sizeF)
open Go.Proofs.YtjngnigelkgekaaGreat.Home (pagesF)
open Go.Proofs.YtjngnigelkgekaaGreat.Tape (good)
theorem fmt_len {n : Nat} {las : List Int} {wt : Wt} {a b : Nat} (hl : las.length = 64 * n) (hw : ∀ i b, wt i = some b → b.length = 64) : (fmtL n las wt a b).length = 64 * n := by
  unfold fmtL
  exact Ref.flushed_len (Ref.flushed_len (Ref.flushed_len hl (putsW_len hw _)) (putsW_len Ref.none_len _)) (putW_len Ref.none_len)
theorem chk_len {n : Nat} {las : List Int} {wt : Wt} {a b ep : Int} {pages : List (List Int)} {named : List Int} (hl : las.length = 64 * n) (hw : ∀ i b, wt i = some b → b.length = 64) : (chkL n las wt a b ep pages named).length = 64 * n := by
  unfold chkL
  exact Ref.flushed_len (Ref.flushed_len (Ref.flushed_len hl hw) (homeW_len _ Ref.none_len)) (putW_len Ref.none_len)
end Go.Proofs.YtjngnigelkgekaaGreat.Store
namespace Go.Proofs.YtjngnigelkgekaaGreat.RStore
open Go.RowKit Go.Proofs.YtjngnigelkgekaaGreat.Kit Go.Proofs.YtjngnigelkgekaaGreat.Plain Go.Proofs.YtjngnigelkgekaaGreat.Disk Go.Proofs.YtjngnigelkgekaaGreat.Root
open Go.Proofs.YtjngnigelkgekaaGreat.Delta (Chg KC deltaF rightF okF undeltaF)
open Go.Proofs.YtjngnigelkgekaaGreat.Redo (recR logF logF_bytes appR sizeF sizeF_in)
open Go.Proofs.YtjngnigelkgekaaGreat.Home (pagesF pageF putP mayF atF)
open Go.Proofs.YtjngnigelkgekaaGreat.Frame (frameF frameF_len frameF_bytes scanR recsF longs scan_facts recs_bytes recs_len longs_len)
open Go.Proofs.YtjngnigelkgekaaGreat.Store (sortK sortK_perm applyF applyOne applyF_len applyF_all pgAll pgAll_len pgAll_all insAll insK nmAll nmAll_mem openN openN_mem homeW homeW_len homeW_bytes chkL chk_len crash_len crash_bytes no_bytes recs_right right_in right_all fitsF fits_in insAll_len insK_mem insK_keep insK_new insAll_mem insAll_keep insAll_new)
open Go.Proofs.YtjngnigelkgekaaGreat.Deed (runD chkD chkD_run chkD_ok OkS OkD)
structure Dk (n : Nat) (las : List Int) (wt : Wt) : Prop where
  len : las.length = 64 * n
  wl : ∀ i b, wt i = some b → b.length = 64
  byt : Bytes las
  wb : ∀ i b, wt i = some b → Bytes b
section
variable {n : Nat} {las : List Int} {wt : Wt}
theorem Dk.ok (h : Dk n las wt) : OkS n (las, wt) := ⟨h.len, h.wl⟩
theorem Dk.flush (h : Dk n las wt) : Dk n (flushed las wt) (fun _ => none) := ⟨Ref.flushed_len h.len h.wl, Ref.none_len, Redo.flushed_bytes h.byt h.wb, no_bytes⟩
theorem Dk.crash (h : Dk n las wt) (cuts : List Int) : Dk n (crashed las wt cuts) (fun _ => none) := ⟨crash_len h.len h.wl, Ref.none_len, crash_bytes h.len h.wl h.byt h.flush.byt, no_bytes⟩
theorem Dk.secB (h : Dk n las wt) : ∀ j, Bytes (secF n las wt j) := fun j => secF_bytes h.byt h.wb j
theorem best_in (h : Dk n las wt) : ∀ j, 0 ≤ (bestTo n (secF n las wt) j).2.2 ∧ (bestTo n (secF n las wt) j).2.2 ≤ 4294967295 ∧ (0 < (bestTo n (secF n las wt) j).2.2 → rightR (bestTo n (secF n las wt) j).1 (bestTo n (secF n las wt) j).2.1 (bestTo n (secF n las wt) j).2.2 n = true)
  | 0 => ⟨Int.le_refl _, (show (0 : Int) ≤ 4294967295 by decide), fun h => absurd h (show ¬ (0 : Int) < 0 by decide)⟩
  | j + 1 => by
    have ih := best_in h j
    show 0 ≤ (pickF n (bestTo n (secF n las wt) j) (secF n las wt j)).2.2 ∧ (pickF n (bestTo n (secF n las wt) j) (secF n las wt j)).2.2 ≤ 4294967295 ∧ (0 < (pickF n (bestTo n (secF n las wt) j) (secF n las wt j)).2.2 → rightR (pickF n (bestTo n (secF n las wt) j) (secF n las wt j)).1 (pickF n (bestTo n (secF n las wt) j) (secF n las wt j)).2.1 (pickF n (bestTo n (secF n las wt) j) (secF n las wt j)).2.2 n = true)
    unfold pickF
    split
    · rename_i r hr
      split
      · rename_i hc
        unfold unrootF at hr
        split at hr
        · injection hr with hr
          have h1 := getF_rng (h.secB j) 12
          rw [← hr] at hc ⊢
          exact ⟨h1.1, h1.2, fun _ => hc.1⟩
        · cases hr
      · exact ih
    · exact ih
end
structure Any (n : Nat) (las : List Int) (wt : Wt) (a b : Nat) (E : Int) : Prop where
  dk : Dk n las wt
  n160 : n ≤ 160
  best : bestTo (n : Int) (secF n las wt) 2 = ((a : Int), (b : Int), E)
  rgt : rightR (a : Int) (b : Int) E n = true
  e32 : E ≤ 4294967295
theorem any_of {n : Nat} {las : List Int} {wt : Wt} (h : Dk n las wt) (hn : n ≤ 160) (h0 : 0 < (bestTo (n : Int) (secF n las wt) 2).2.2) : ∃ (a b : Nat) (E : Int), Any n las wt a b E := by
  have h1 := best_in h 2
  obtain ⟨x, y, E, hr⟩ : ∃ x y E, bestTo (n : Int) (secF n las wt) 2 = (x, y, E) := ⟨_, _, _, rfl⟩
  rw [hr] at h0 h1
  have h2 := h1.2.2 h0
  have h3 := of_decide_eq_true h2
  obtain ⟨a, ha⟩ := Int.eq_ofNat_of_zero_le (show 0 ≤ x by have := h3.1; simp only at this; omega)
  obtain ⟨b, hb⟩ := Int.eq_ofNat_of_zero_le (show 0 ≤ y by have := h3.2.2.1; simp only at this; omega)
  subst ha hb
  exact ⟨a, b, E, h, hn, hr, h2, h1.2.1⟩
section
variable {n a b : Nat} {E : Int} {las : List Int} {wt : Wt}
theorem Any.nums (h : Any n las wt a b E) : 1 ≤ a ∧ a ≤ 64 ∧ 1 ≤ b ∧ b ≤ 64 ∧ 2 + a + b ≤ n ∧ 1 ≤ E := by
  have h1 := of_decide_eq_true h.rgt
  omega
abbrev rowsG (n a b : Nat) (E : Int) (las : List Int) (wt : Wt) : List (List Chg) := (recR n las wt (a : Int) (b : Int) E).1
abbrev shownG (n a b : Nat) (E : Int) (las : List Int) (wt : Wt) : List (List Int) := pgAll (pagesF n las wt (a : Int) (b : Int) E) (rowsG n a b E las wt)
abbrev openG (n a b : Nat) (E : Int) (las : List Int) (wt : Wt) : List Int := chkL n las wt (a : Int) (b : Int) E (shownG n a b E las wt) (openN (rowsG n a b E las wt))
theorem Any.logB (h : Any n las wt a b E) : Bytes (logF n las wt (a : Int) (b : Int) E) := logF_bytes h.dk.byt h.dk.wb _ _ _
theorem Any.rows (h : Any n las wt a b E) : (rowsG n a b E las wt).length ≤ 1000 ∧ ∀ x ∈ rowsG n a b E las wt, x.length ≤ 64 ∧ ∀ c ∈ x, 0 ≤ c.1 ∧ c.1 < (b : Int) ∧ c.2.length = 64 ∧ Bytes c.2 := by
  obtain ⟨h1, h2, h3⟩ := scan_facts h.logB E
  refine ⟨?_, fun x hx => ?_⟩
  · have h4 := (recs_len (b : Int) (scanR (logF n las wt (a : Int) (b : Int) E) E).1).1
    have h5 := longs_len (scanR (logF n las wt (a : Int) (b : Int) E) E).1
    have h6 := Redo.log_len h.dk.len h.n160 h.dk.wl (a : Int) (b : Int) E
    show (recsF (b : Int) (scanR (logF n las wt (a : Int) (b : Int) E) E).1).1.length ≤ 1000
    omega
  · have h4 := recs_right (b : Int) _ x hx
    have h5 := right_in h4
    have h6 := recs_bytes (b : Int) _ h1 x hx
    exact ⟨(Store.right_len h4).2, fun c hc => ⟨(h5.2 c hc).1, (h5.2 c hc).2.1, (h5.2 c hc).2.2, h6 c hc⟩⟩
theorem Any.pages (h : Any n las wt a b E) : (pagesF n las wt (a : Int) (b : Int) E).length = b ∧ ∀ p ∈ pagesF n las wt (a : Int) (b : Int) E, p.length = 64 ∧ Bytes p := by
  have hn := h.nums
  unfold pagesF
  rw [if_pos h.rgt, Int.toNat_natCast]
  refine ⟨by rw [List.length_map, List.length_range], fun p hp => ?_⟩
  obtain ⟨i, hi, rfl⟩ := List.mem_map.1 hp
  have hi := List.mem_range.1 hi
  have hm : mayF n (a : Int) (b : Int) E (i : Int) = true := by
    unfold mayF
    rw [h.rgt, decide_eq_true (show (0 : Int) ≤ (i : Int) by omega), decide_eq_true (show (i : Int) < (b : Int) by omega)]; rfl
  unfold pageF
  rw [if_pos hm]
  refine ⟨?_, h.dk.secB _⟩
  rw [secF_len h.dk.len h.dk.wl, if_pos (by unfold atF; omega)]
theorem Any.shown (h : Any n las wt a b E) : (shownG n a b E las wt).length = b ∧ ∀ p ∈ shownG n a b E las wt, p.length = 64 ∧ Bytes p :=
  ⟨by unfold shownG; rw [pgAll_len, h.pages.1], pgAll_all (Q := fun p => p.length = 64 ∧ Bytes p) h.pages.2 (fun x hx c hc => ((h.rows.2 x hx).2 c hc).2.2)⟩
end
def NB (b : Nat) (named : List Int) (nm : List Bool) : Prop := ∀ k : Nat, k < b → ((k : Int) ∈ named ↔ nm.getD k false = true)
theorem set_getD {nm : List Bool} {i k : Nat} (hi : i < nm.length) : (nm.set i true).getD k false = true ↔ (k = i ∨ nm.getD k false = true) := by
  rw [List.getD_eq_getElem?_getD, List.getD_eq_getElem?_getD, List.getElem?_set]
  by_cases h : i = k
  · subst h; simp [hi]
  · rw [if_neg h]
    constructor
    · exact fun h => .inr h
    · rintro (h1 | h1)
      · exact absurd h1.symm h
      · exact h1
theorem insK_iff {ks : List Int} {k x : Int} : x ∈ insK ks k ↔ x ∈ ks ∨ x = k :=
  ⟨insK_mem, fun h => by rcases h with h | rfl; exact insK_keep h; exact insK_new _ _⟩
theorem nb_ins {b : Nat} : ∀ (l : List Chg) {named : List Int} {nm : List Bool}, nm.length = b → NB b named nm → (∀ c ∈ l, 0 ≤ c.1 ∧ c.1 < (b : Int)) → NB b (insAll named l) (nmF nm l)
  | [], _, _, _, h, _ => h
  | c :: r, named, nm, hl, h, hc => by
    have h0 := hc c (List.mem_cons_self ..)
    show NB b (insAll (insK named c.1) r) (nmF (nmOne nm c) r)
    refine nb_ins r (by unfold nmOne; rw [List.length_set]; exact hl) (fun k hk => ?_) (fun x hx => hc x (List.mem_cons_of_mem _ hx))
    unfold nmOne
    rw [set_getD (by omega), insK_iff, h k hk]
    constructor
    · rintro (h1 | h1)
      · exact .inr h1
      · exact .inl (by omega)
    · rintro (h1 | h1)
      · exact .inr (by omega)
      · exact .inl h1
def nmAllB (nm : List Bool) (rows : List (List Chg)) : List Bool := rows.foldl nmF nm
theorem nmAllB_len : ∀ (rows : List (List Chg)) (nm : List Bool), (nmAllB nm rows).length = nm.length
  | [], _ => rfl
  | l :: r, nm => by show (nmAllB (nmF nm l) r).length = _; rw [nmAllB_len r, nmF_len]
theorem nmAllB_snoc (nm : List Bool) (rows : List (List Chg)) (x : List Chg) : nmAllB nm (rows ++ [x]) = nmF (nmAllB nm rows) x := by unfold nmAllB; rw [List.foldl_append]; rfl
theorem nb_all {b : Nat} : ∀ (rows : List (List Chg)) {named : List Int} {nm : List Bool}, nm.length = b → NB b named nm → (∀ l ∈ rows, ∀ c ∈ l, 0 ≤ c.1 ∧ c.1 < (b : Int)) → NB b (nmAll named rows) (nmAllB nm rows)
  | [], _, _, _, h, _ => h
  | l :: r, named, nm, hl, h, hc => nb_all r (named := insAll named l) (nm := nmF nm l) (by rw [nmF_len]; exact hl) (nb_ins l hl h (hc l (List.mem_cons_self ..))) (fun x hx => hc x (List.mem_cons_of_mem _ hx))
theorem nb_none (b : Nat) : NB b [] (List.replicate b false) := fun k hk => by
  rw [List.getD_eq_getElem?_getD, List.getElem?_replicate, if_pos hk]
  simp
structure St (n a b : Nat) (ep : Int) (pages : List (List Int)) (named : List Int) (nm : List Bool) (used seq : Nat) (las : List Int) (wt : Wt) : Prop where
  dk : Dk n las wt
  n160 : n ≤ 160
  rgt : rightR (a : Int) (b : Int) ep n = true
  e32 : ep ≤ 4294967295
  pl : pages.length = b
  p64 : ∀ p ∈ pages, p.length = 64 ∧ Bytes p
  nml : nm.length = b
  nk : ∀ k ∈ named, 0 ≤ k ∧ k < (b : Int)
  nb : NB b named nm
  nl : named.length ≤ 64 * seq
  us : (used : Int) ≤ sizeF (a : Int)
section
variable {n a b : Nat} {ep : Int} {pages : List (List Int)} {named : List Int} {nm : List Bool} {used seq : Nat} {las : List Int} {wt : Wt}
theorem St.nums (h : St n a b ep pages named nm used seq las wt) : 1 ≤ a ∧ a ≤ 64 ∧ 1 ≤ b ∧ b ≤ 64 ∧ 2 + a + b ≤ n ∧ 1 ≤ ep := by
  have h1 := of_decide_eq_true h.rgt
  omega
theorem St.pg (h : St n a b ep pages named nm used seq las wt) : ∀ k : Nat, k < b → (pages.getD k []).length = 64 := fun k hk => by
  rw [List.getD_eq_getElem?_getD, List.getElem?_eq_getElem (by rw [h.pl]; exact hk)]
  exact (h.p64 _ (List.getElem_mem _)).1
theorem St.pgB (h : St n a b ep pages named nm used seq las wt) : ∀ k : Nat, Bytes (pages.getD k []) := fun k => by
  rw [List.getD_eq_getElem?_getD]
  by_cases hk : k < pages.length
  · rw [List.getElem?_eq_getElem hk]; exact (h.p64 _ (List.getElem_mem _)).2
  · rw [List.getElem?_eq_none (by omega)]; exact Bytes.nil
theorem St.commit (h : St n a b ep pages named nm used seq las wt) {l : List Chg} (hr : rightF l (b : Int) = true) (hf : fitsF (a : Int) used l.length = true) (hB : ∀ c ∈ l, Bytes c.2) :
    St n a b ep (applyF pages l) (insAll named l) (nmF nm l) (used + (18 + 66 * l.length)) (seq + 1) las (appR n las wt (a : Int) (b : Int) ep (used : Int) (frameF ep (seq : Int) (deltaF l))) := by
  have h1 := right_in hr
  have h2 := fits_in hf
  have h3 : Bytes (deltaF l) := (Redo.two_bytes).app (Redo.flat_bytes hB)
  have h4 := Redo.appR_ok (n := n) (a := (a : Int)) (b := (b : Int)) (c := ep) (at_ := (used : Int)) h.dk.len h.dk.byt ⟨h.dk.wl, h.dk.wb⟩ (frameF_bytes ep (seq : Int) h3)
  have h5 := insAll_len l named
  have h6 := h.nl
  exact ⟨⟨h.dk.len, h4.1, h.dk.byt, h4.2⟩, h.n160, h.rgt, h.e32, by rw [applyF_len]; exact h.pl, applyF_all (Q := fun p => p.length = 64 ∧ Bytes p) h.p64 (fun c hc => ⟨(h1.2 c hc).2.2, hB c hc⟩),
    by rw [nmF_len]; exact h.nml, fun k hk => by
      rcases insAll_mem l hk with hk | ⟨c, hc, rfl⟩
      · exact h.nk k hk
      · exact ⟨(h1.2 c hc).1, (h1.2 c hc).2.1⟩, nb_ins l h.nml h.nb (fun c hc => ⟨(h1.2 c hc).1, (h1.2 c hc).2.1⟩), by omega, by omega⟩
theorem St.flush (h : St n a b ep pages named nm used seq las wt) : St n a b ep pages named nm used seq (flushed las wt) (fun _ => none) :=
  ⟨h.dk.flush, h.n160, h.rgt, h.e32, h.pl, h.p64, h.nml, h.nk, h.nb, h.nl, h.us⟩
theorem chk_dk (hd : Dk n las wt) (hp : ∀ k : Nat, Bytes (pages.getD k [])) : Dk n (chkL n las wt (a : Int) (b : Int) ep pages named) (fun _ => none) := by
  refine ⟨chk_len hd.len hd.wl, Ref.none_len, ?_, no_bytes⟩
  unfold chkL
  exact Redo.flushed_bytes (Redo.flushed_bytes (Redo.flushed_bytes hd.byt hd.wb) (homeW_bytes hp _ no_bytes)) (putW_bytes no_bytes (rootF_bytes _ _ _))
theorem St.check (h : St n a b ep pages named nm used seq las wt) (he : ep < 4294967295) : St n a b (ep + 1) pages [] (List.replicate b false) 0 0 (chkL n las wt (a : Int) (b : Int) ep pages named) (fun _ => none) := by
  have h1 := h.nums
  exact ⟨chk_dk h.dk h.pgB, h.n160, decide_eq_true (by omega), by omega, h.pl, h.p64, List.length_replicate, fun k hk => (by cases hk), nb_none b, Nat.zero_le _, (sizeF_in _).1⟩
theorem St.deeds (h : St n a b ep pages named nm used seq las wt) : runD (las, wt) (chkD a b ep pages ((List.range b).filter (fun i => nm.getD i false))) = (chkL n las wt (a : Int) (b : Int) ep pages named, fun _ => none) :=
  chkD_run h.rgt h.pg h.nk h.nb las wt
theorem Any.st (h : Any n las wt a b ep) : St n a b ep (shownG n a b ep las wt) (openN (rowsG n a b ep las wt)) (nmAllB (List.replicate b false) (rowsG n a b ep las wt)) 0 1000 las wt := by
  have hr := h.rows
  have hs := h.shown
  have h1 : ∀ k ∈ openN (rowsG n a b ep las wt), 0 ≤ k ∧ k < (b : Int) := fun k hk =>
    nmAll_mem (P := fun k => 0 ≤ k ∧ k < (b : Int)) (fun k hk => by cases hk) (fun x hx c hc => by have := (hr.2 x hx).2 c hc; exact ⟨this.1, this.2.1⟩) k (openN_mem.1 hk)
  refine ⟨h.dk, h.n160, h.rgt, h.e32, hs.1, hs.2, by rw [nmAllB_len, List.length_replicate], h1, fun k hk => ?_, ?_, (sizeF_in _).1⟩
  · rw [openN_mem]
    exact nb_all _ List.length_replicate (nb_none b) (fun l hl c hc => by have := (hr.2 l hl).2 c hc; exact ⟨this.1, this.2.1⟩) k hk
  · unfold openN
    have h2 := Store.insList_len (sortK (nmAll [] (rowsG n a b ep las wt))) []
    have h3 := (sortK_perm (nmAll [] (rowsG n a b ep las wt))).length_eq
    have h4 := Store.nmAll_len 64 (rowsG n a b ep las wt) [] (fun x hx => (hr.2 x hx).1)
    simp only [List.length_nil] at h2 h4
    omega
theorem Any.opened (h : Any n las wt a b ep) (he : ep < 4294967295) : St n a b (ep + 1) (shownG n a b ep las wt) [] (List.replicate b false) 0 0 (openG n a b ep las wt) (fun _ => none) := h.st.check he
end
end Go.Proofs.YtjngnigelkgekaaGreat.RStore
