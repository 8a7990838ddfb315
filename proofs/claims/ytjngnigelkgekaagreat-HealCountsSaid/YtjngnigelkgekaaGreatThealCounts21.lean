/- StCommit, StConv, StPages, StFound, StOpen, StFound2: what HealCounts needs. -/
import Derived.Test.YtjngnigelkgekaaGreatThealCounts20
set_option linter.unusedVariables false
set_option linter.unusedSimpArgs false
namespace Go.Proofs.YtjngnigelkgekaaGreat.Store
open Go.RowKit Go.Proofs.YtjngnigelkgekaaGreatW.PrintWords Go.Proofs.YtjngnigelkgekaaGreatW.PrintLast Go.Proofs.YtjngnigelkgekaaGreatW.PrintMore Go.Proofs.YtjngnigelkgekaaGreat.Kit Go.Proofs.YtjngnigelkgekaaGreat.Plain Go.Proofs.YtjngnigelkgekaaGreat.Disk Go.Proofs.YtjngnigelkgekaaGreat.Root
open Go.Proofs.YtjngnigelkgekaaGreat.Delta (Chg KC deltaF rightF okF right_ needF)
open Go.Proofs.YtjngnigelkgekaaGreat.Frame (frameF frameF_len frameF_bytes fbytes_)
open Go.Proofs.YtjngnigelkgekaaGreat.Redo (appR okA append_ sizeF)
def insAll (ks : List Int) (l : List Chg) : List Int := l.foldl (fun ks c => insK ks c.1) ks
theorem insK_len (ks : List Int) (k : Int) : (insK ks k).length ≤ ks.length + 1 := by unfold insK; split <;> simp
theorem insAll_len (l : List Chg) : ∀ ks : List Int, (insAll ks l).length ≤ ks.length + l.length := by
  induction l with
  | nil => intro ks; exact Nat.le_refl _
  | cons c r ih =>
    intro ks
    have h1 := ih (insK ks c.1)
    have h2 := insK_len ks c.1
    show (insAll (insK ks c.1) r).length ≤ _
    rw [List.length_cons]; omega
theorem insAll_snoc (ks : List Int) (l : List Chg) (c : Chg) : insAll ks (l ++ [c]) = insK (insAll ks l) c.1 := by unfold insAll; rw [List.foldl_append]; rfl
theorem insK_mem {ks : List Int} {k x : Int} (h : x ∈ insK ks k) : x ∈ ks ∨ x = k := by
  unfold insK at h
  split at h
  · exact .inl h
  · rcases List.mem_append.1 h with h | h
    · exact .inl h
    · exact .inr (List.mem_singleton.1 h)
theorem insAll_mem {x : Int} (l : List Chg) : ∀ {ks : List Int}, x ∈ insAll ks l → x ∈ ks ∨ ∃ c ∈ l, x = c.1 := by
  induction l with
  | nil => intro ks h; exact .inl h
  | cons c r ih =>
    intro ks h
    rcases ih (ks := insK ks c.1) h with h | ⟨d, hd, hx⟩
    · rcases insK_mem h with h | h
      · exact .inl h
      · exact .inr ⟨c, List.mem_cons_self .., h⟩
    · exact .inr ⟨d, List.mem_cons_of_mem _ hd, hx⟩
theorem right_all : ∀ {l : List Chg} {pages last : Int}, okF pages last l = true → -1 ≤ last → ∀ c ∈ l, 0 ≤ c.1 ∧ c.1 < pages ∧ c.2.length = 64
  | [], _, _, _, _, _, hc => by cases hc
  | c :: r, pages, last, h, hl, x, hx => by
    unfold okF at h
    rw [Bool.and_eq_true, decide_eq_true_eq] at h
    rcases List.mem_cons.1 hx with rfl | hx
    · exact ⟨by omega, by omega, h.1.2.2⟩
    · exact right_all h.2 (by omega) x hx
theorem fits_in {a : Int} {u n : Nat} (h : fitsF a u n = true) : n ≤ 64 ∧ (u : Int) + 18 + 66 * n ≤ sizeF a := by
  unfold fitsF needF at h
  rw [decide_eq_true_eq] at h
  split at h
  · omega
  · omega
section
variable {w0 W : World} {F : List HP} {gs g m n : Nat} {a b ep : Int} {pages : List (List Int)} {named : List Int} {used seq : Nat} {las : List Int} {wt : Wt}
set_option maxHeartbeats 1600000 in
set_option maxRecDepth 100000 in
theorem commit_bad (h : Sep w0 W (StB gs g m a b ep pages named used seq :: F)) {A2 : Option Addr} {n2 c2 : Nat} {l : List Chg} (hC : KC.C W A2 n2 l) (hr : rightF l b = false) :
    Calls Tryz.prog 32 #[.pointer (some ⟨gs, 0, none⟩), .slice A2 n2 c2] W fun e w' => e = .returned (.int .i64 1) ∧ Sep w0 w' (StB gs g m a b ep pages named used seq :: F) := by
  obtain ⟨A, c, hs⟩ := stb_open h
  have H0 := Aside0.mk h
  have HC := Aside0.mk hC
  have HR := Aside0.mk hr
  have z2 := (hs.cell 2).trans rfl
  clear h hs hC hr
  go_enter Tryz.func32, Tryz.ntmps32
  go_wp2_with fail
  refine (right_ HC.out b).mono ?_
  rintro e w1 ⟨rfl, hb1⟩
  rw [HR.out]
  have B1 := Aside0.mk (H0.out.below hb1)
  clear hb1
  go_wp2_with fail
  go_ret
  exact ⟨by first | rfl | (simp; done), B1.out⟩
set_option maxHeartbeats 1600000 in
set_option maxRecDepth 100000 in
theorem commit_full (h : Sep w0 W (StB gs g m a b ep pages named used seq :: F)) {A2 : Option Addr} {n2 c2 : Nat} {l : List Chg} (hC : KC.C W A2 n2 l) (hr : rightF l b = true) (hu : (used : Int) ≤ sizeF a) (hf : fitsF a used n2 = false) :
    Calls Tryz.prog 32 #[.pointer (some ⟨gs, 0, none⟩), .slice A2 n2 c2] W fun e w' => e = .returned (.int .i64 24) ∧ Sep w0 w' (StB gs g m a b ep pages named used seq :: F) := by
  obtain ⟨A, c, hs⟩ := stb_open h
  have HS := Aside0.mk hs
  have HC := Aside0.mk hC
  have HR := Aside0.mk hr
  have HU := Aside0.mk hu
  have HF := Aside0.mk hf
  have hm2 : n2 ≤ 9223372036854775807 := hC.2.1
  have z2 := (hs.cell 2).trans rfl
  clear h hs hC hr hu hf
  go_enter Tryz.func32, Tryz.ntmps32
  go_wp2_with fail
  refine (right_ HC.out b).mono ?_
  rintro e w1 ⟨rfl, hb1⟩
  rw [HR.out]
  have B1 := Aside0.mk (HS.out.below hb1).drew
  clear hb1 z2
  go_wp2_with fail
  refine start_ (n := 13) (S := fun w' => w'.cell? ⟨gs, 1, none⟩ = some (.int .i64 a) ∧ w'.cell? ⟨gs, 2, none⟩ = some (.int .i64 b) ∧ w'.cell? ⟨gs, 3, none⟩ = some (.int .u32 ep) ∧ w'.cell? ⟨gs, 6, none⟩ = some (.int .i64 (used : Int))) (ds := [10]) #[false, false, false, false, false, false, false, false, false, false, false, false, false] (by kernel_rfl) rfl rfl ⟨(B1.out.cell 1).trans rfl, (B1.out.cell 2).trans rfl, (B1.out.cell 3).trans rfl, (B1.out.cell 6).trans rfl⟩ (fun hHeld => ?_)
  refine pure_ (i := 0) (N := some 18) (v := ?_) (a' := ?_) #[true, false, false, false, false, false, false, false, false, false, false, false, false] rfl rfl (by kernel_rfl) (fun _ _ _ h => h) (Or.inl ⟨by rfl, ?_⟩) ?_ ?_
  rotate_left
  · intro w'
    go_simp
    with_reducible rfl
  rotate_left
  · simp only [Act.put, sIB, sCz, sCs, i64_w, i32_w]
    rfl
  refine pure_ (i := 1) (N := some 19) (v := ?_) (a' := ?_) #[true, true, false, false, false, false, false, false, false, false, false, false, false] rfl rfl (by kernel_rfl) (fun _ _ _ h => h) (Or.inl ⟨by rfl, ?_⟩) ?_ ?_
  rotate_left
  · intro w'
    go_simp
    with_reducible rfl
  rotate_left
  · simp only [Act.put, sIB, sCz, sCs, i64_w, i32_w]
    rfl
  refine pure_ (i := 2) (N := some 20) (v := ?_) (a' := ?_) #[true, true, true, false, false, false, false, false, false, false, false, false, false] rfl rfl (by kernel_rfl) (fun _ _ _ h => h) (Or.inl ⟨by rfl, ?_⟩) ?_ ?_
  rotate_left
  · intro w'
    go_simp
    with_reducible rfl
  rotate_left
  · simp only [Act.put, sIB, sCz, sCs, i64_w, i32_w]
    rfl
  refine pure_ (i := 4) (N := some 22) (v := ?_) (a' := ?_) #[true, true, true, false, true, false, false, false, false, false, false, false, false] rfl rfl (by kernel_rfl) (fun _ _ _ h => h) (Or.inl ⟨by rfl, ?_⟩) ?_ ?_
  rotate_left
  · intro w'
    go_simp
    with_reducible rfl
  rotate_left
  · simp only [Act.put, sIB, sCz, sCs, i64_w, i32_w]
    rfl
  refine pure_ (i := 5) (N := some 23) (v := ?_) (a' := ?_) #[true, true, true, false, true, true, false, false, false, false, false, false, false] rfl rfl (by kernel_rfl) (fun _ _ _ h => h) (Or.inl ⟨by rfl, ?_⟩) ?_ ?_
  rotate_left
  · intro w'
    go_simp
    with_reducible rfl
  rotate_left
  · simp only [Act.put, sIB, sCz, sCs, i64_w, i32_w]
    rfl
  refine pure_ (i := 6) (N := some 24) (v := ?_) (a' := ?_) #[true, true, true, false, true, true, true, false, false, false, false, false, false] rfl rfl (by kernel_rfl) (fun _ _ _ h => h) (Or.inl ⟨by rfl, ?_⟩) ?_ ?_
  rotate_left
  · intro w'
    go_simp
    with_reducible rfl
  rotate_left
  · simp only [Act.put, sIB, sCz, sCs, i64_w, i32_w]
    rfl
  refine pure_ (i := 8) (N := some 26) (v := ?_) (a' := ?_) #[true, true, true, false, true, true, true, false, true, false, false, false, false] rfl rfl (by kernel_rfl) (fun _ _ _ h => h) (Or.inl ⟨by rfl, ?_⟩) ?_ ?_
  rotate_left
  · intro w'
    go_simp
    with_reducible rfl
  rotate_left
  · simp only [Act.put, sIB, sCz, sCs, i64_w, i32_w]
    rfl
  refine pure_ (i := 9) (N := some 27) (v := ?_) (a' := ?_) #[true, true, true, false, true, true, true, false, true, true, false, false, false] rfl rfl (by kernel_rfl) (fun _ _ _ h => h) (Or.inl ⟨by rfl, ?_⟩) ?_ ?_
  rotate_left
  · intro w'
    go_simp
    with_reducible rfl
  rotate_left
  · simp only [Act.put, sIB, sCz, sCs, i64_w, i32_w]
    rfl
  refine take_ (i := 3) (N := some 21) (v := ?_) (a' := ?_) #[true, true, true, true, true, true, true, false, true, true, false, false, false] rfl rfl (by kernel_rfl) (fun _ _ _ h => h) (Or.inl ⟨by rfl, ?_⟩) hHeld ?_ ?_
  rotate_left
  · rintro w' ⟨s0, s1, s2, s3⟩
    go_simp
    with_reducible rfl
  rotate_left
  · simp only [Act.put, sIB, sCz, sCs, i64_w, i32_w]
    rfl
  refine take_ (i := 7) (N := some 25) (v := ?_) (a' := ?_) #[true, true, true, true, true, true, true, true, true, true, false, false, false] rfl rfl (by kernel_rfl) (fun _ _ _ h => h) (Or.inl ⟨by rfl, ?_⟩) hHeld ?_ ?_
  rotate_left
  · rintro w' ⟨s0, s1, s2, s3⟩
    go_simp
    with_reducible rfl
  rotate_left
  · simp only [Act.put, sIB, sCz, sCs, i64_w, i32_w]
    rfl
  refine last_ (i := 10) (N := some 28) #[true, true, true, true, true, true, true, true, true, true, true, false, false] rfl rfl (by kernel_rfl) (by decide) (fun K hK => ?_)
  refine goes_ Tryz.func70 (by kernel_rfl) rfl #[.agg #[.int .i64 a, .int .i64 b, .int .u32 ep], .int .i64 (used : Int), .int .i64 (n2 : Int)] (by rfl) rfl rfl (by simp only [List.map_toArray, List.map_cons, List.map_nil]; rfl) ?_
  with_reducible refine (fits_ a b ep used n2 HU.out _).mono ?_
  rintro e w3 ⟨rfl, hb3⟩
  refine ⟨_, rfl, ?_⟩
  rw [HF.out]
  have B3 := Aside0.mk (B1.out.below hb3)
  clear hb3
  refine hK.out _ _ ?_
  clear hK K
  refine norm_ (a' := ?_) ?_ ?_
  rotate_left
  · show Act.put _ (some 28) _ = _
    simp only [Act.put, sIB, sCz, sCs, i64_w, i32_w]
    rfl
  refine pure_ (i := 11) (N := some 29) (v := ?_) (a' := ?_) #[true, true, true, true, true, true, true, true, true, true, true, true, false] rfl rfl (by kernel_rfl) (fun _ _ _ h => h) (Or.inl ⟨by rfl, ?_⟩) ?_ ?_
  rotate_left
  · intro w'
    go_simp
    with_reducible rfl
  rotate_left
  · simp only [Act.put, sIB, sCz, sCs, i64_w, i32_w]
    rfl
  refine pure_ (i := 12) (N := some 17) (v := ?_) (a' := ?_) #[true, true, true, true, true, true, true, true, true, true, true, true, true] rfl rfl (by kernel_rfl) (fun _ _ _ h => h) (Or.inl ⟨by rfl, ?_⟩) ?_ ?_
  rotate_left
  · intro w'
    go_simp
    with_reducible rfl
  rotate_left
  · simp only [Act.put, sIB, sCz, sCs, i64_w, i32_w]
    rfl
  refine done_ (by kernel_rfl) ?_
  go_wp2_with fail
  go_ret
  exact ⟨by first | rfl | (simp; done), stb_shut B3.out⟩
end
end Go.Proofs.YtjngnigelkgekaaGreat.Store
namespace Go.Proofs.YtjngnigelkgekaaGreat.Kit
open Go.RowKit Go.Proofs.YtjngnigelkgekaaGreatW.PrintWords Go.Proofs.YtjngnigelkgekaaGreatW.PrintLast Go.Proofs.YtjngnigelkgekaaGreatW.PrintMore
theorem ovs : ∀ {inner : List Value}, (∀ u ∈ inner, u.oneCell' = true) → ∃ cs : List OV, cs.map (·.1) = inner
  | [], _ => ⟨[], rfl⟩
  | u :: t, h => by
    obtain ⟨cs, hc⟩ := ovs (inner := t) (fun x hx => h x (List.mem_cons_of_mem _ hx))
    exact ⟨⟨u, h u (List.mem_cons_self ..)⟩ :: cs, by rw [List.map_cons, hc]⟩
theorem take1 {α : Type} {l : List α} {j : Nat} {x : α} (h : l[j]? = some x) : (l.drop (j * 1)).take 1 = [x] := by
  obtain ⟨hj, hx⟩ := List.getElem?_eq_some_iff.1 h
  rw [Nat.mul_one, List.drop_eq_getElem_cons hj, hx]
  rfl
theorem Sep.rowToV {w0 W : World} {F : List HP} {α : Type} {d : Kd α} {e : Nat} {v : Value} {xs : List α} (hd : d.sz = 1) (h : Sep w0 W (Row d e v xs :: F)) : Sep w0 W (RowV d e v xs :: F) := by
  obtain ⟨ok, ⟨⟨h0, inner, ho, hr⟩, hb⟩, hdis, hF⟩ := h.sep
  rw [hd] at ho hr
  have hlen : inner.length = xs.length := by have := ho.1; omega
  have hone : ∀ u ∈ inner, u.oneCell' = true := fun u hu => by
    obtain ⟨j, hj, rfl⟩ := List.getElem_of_mem hu
    have hx : j < xs.length := by omega
    have hM := hr.2 j _ (List.getElem?_eq_getElem hx)
    rw [take1 (List.getElem?_eq_getElem hj)] at hM
    exact d.K_one (d.K_of_M hM) _ (List.mem_singleton.2 rfl)
  obtain ⟨cs, hcs⟩ := ovs hone
  have hcl : cs.length = xs.length := by rw [← hlen, ← hcs, List.length_map]
  refine Sep.rowV_shut (cs := cs) ⟨h.os, h.tape, h.output, h.size, h.old, fun k => v.ownBlock = some k, ⟨⟨fun k hk => hk, inner, ?_, ?_⟩, fun k hk => hb k (h0 k hk)⟩, fun k hk => hdis k (h0 k hk), fun k => ok k ∧ some k ≠ v.ownBlock, ⟨fun W' hm => ⟨hcl.symm, fun j x c hx hc => ?_⟩, fun k hk => hb k hk.1⟩, fun k hk ha => ?_, ?_⟩
  · show W.ownsRow 0 e 1 v cs.length inner
    rw [hcl]; exact ho
  · refine ⟨by rw [hlen, hcl]; exact (Nat.mul_one _).symm, fun j c hj => ?_⟩
    have : inner[j]? = some c.1 := by rw [← hcs, List.getElem?_map, hj]; rfl
    show (inner.drop (j * 1)).take 1 = [c.1]
    exact take1 this
  · have hM := hr.2 j x hx
    have hi : inner[j]? = some c.1 := by rw [← hcs, List.getElem?_map, hc]; rfl
    rw [take1 hi] at hM
    exact d.K_of_M (d.M_move (w1 := W') (fun k hk => hm k hk) hM)
  · rcases ha with ha | ha
    · exact hdis k hk.1 ha
    · exact hk.2 ha.symm
  · refine hF.weaken (fun k hk => ?_)
    rcases hk with (hk | hk) | hk
    · exact .inl hk
    · exact .inr (h0 k hk)
    · exact .inr hk.1
end Go.Proofs.YtjngnigelkgekaaGreat.Kit
namespace Go.Proofs.YtjngnigelkgekaaGreat.Store
open Go.RowKit Go.Proofs.YtjngnigelkgekaaGreatW.PrintWords Go.Proofs.YtjngnigelkgekaaGreatW.PrintLast Go.Proofs.YtjngnigelkgekaaGreatW.PrintMore Go.Proofs.YtjngnigelkgekaaGreat.Kit Go.Proofs.YtjngnigelkgekaaGreat.Plain Go.Proofs.YtjngnigelkgekaaGreat.Disk Go.Proofs.YtjngnigelkgekaaGreat.Root
open Go.Proofs.YtjngnigelkgekaaGreat.Delta (Chg KC deltaF rightF okF undeltaF)
open Go.Proofs.YtjngnigelkgekaaGreat.Frame (recsF scanR)
open Go.Proofs.YtjngnigelkgekaaGreat.Redo (K3 recR logF records_)
open Go.Proofs.YtjngnigelkgekaaGreat.Home (pagesF pageF mayF)
def pgAll (ps : List (List Int)) (rows : List (List Chg)) : List (List Int) := rows.foldl applyF ps
def nmAll (ks : List Int) (rows : List (List Chg)) : List Int := rows.foldl insAll ks
theorem pgAll_snoc (ps : List (List Int)) (rows : List (List Chg)) (x : List Chg) : pgAll ps (rows ++ [x]) = applyF (pgAll ps rows) x := by unfold pgAll; rw [List.foldl_append]; rfl
theorem nmAll_snoc (ks : List Int) (rows : List (List Chg)) (x : List Chg) : nmAll ks (rows ++ [x]) = insAll (nmAll ks rows) x := by unfold nmAll; rw [List.foldl_append]; rfl
theorem pgAll_len (rows : List (List Chg)) : ∀ ps : List (List Int), (pgAll ps rows).length = ps.length := by
  induction rows with
  | nil => intro ps; rfl
  | cons x r ih => intro ps; exact (ih _).trans (applyF_len x ps)
theorem undelta_right {b : List Int} {pages : Int} {x : List Chg} (h : undeltaF b pages = some x) : rightF x pages = true := by
  unfold undeltaF at h
  split at h
  · cases h
  · split at h
    · cases h
    · split at h
      · rename_i h1
        injection h with h
        rw [← h]; exact h1
      · cases h
theorem recs_right (pages : Int) : ∀ (rows : List (List Int)), ∀ x ∈ (recsF pages rows).1, rightF x pages = true
  | [], x, hx => by simp [recsF] at hx
  | b :: t, x, hx => by
    cases hu : undeltaF b pages with
    | none => simp [recsF, hu] at hx
    | some y =>
      simp only [recsF, hu] at hx
      rcases List.mem_cons.1 hx with rfl | hx
      · exact undelta_right hu
      · exact recs_right pages t x hx
theorem right_in {l : List Chg} {b : Int} (h : rightF l b = true) : b ≤ 64 ∧ ∀ c ∈ l, 0 ≤ c.1 ∧ c.1 < b ∧ c.2.length = 64 := by
  unfold rightF at h
  rw [Bool.and_eq_true, decide_eq_true_eq] at h
  exact ⟨h.1, right_all h.2 (by decide)⟩
theorem applyOne_le {ps : List (List Int)} {c : Chg} {M : Nat} (h : ∀ p ∈ ps, p.length ≤ M) (hc : c.2.length ≤ M) : ∀ p ∈ applyOne ps c, p.length ≤ M := by
  unfold applyOne
  split
  · intro p hp
    rcases List.mem_or_eq_of_mem_set hp with h1 | rfl
    · exact h p h1
    · exact hc
  · exact h
theorem applyF_le {M : Nat} : ∀ {l : List Chg} {ps : List (List Int)}, (∀ p ∈ ps, p.length ≤ M) → (∀ c ∈ l, c.2.length ≤ M) → ∀ p ∈ applyF ps l, p.length ≤ M
  | [], _, h, _ => h
  | c :: r, _, h, hl => applyF_le (l := r) (applyOne_le h (hl c (List.mem_cons_self ..))) (fun x hx => hl x (List.mem_cons_of_mem _ hx))
theorem pgAll_le {M : Nat} : ∀ {rows : List (List Chg)} {ps : List (List Int)}, (∀ p ∈ ps, p.length ≤ M) → (∀ x ∈ rows, ∀ c ∈ x, c.2.length ≤ M) → ∀ p ∈ pgAll ps rows, p.length ≤ M
  | [], _, h, _ => h
  | x :: r, _, h, hl => pgAll_le (rows := r) (applyF_le h (hl x (List.mem_cons_self ..))) (fun y hy => hl y (List.mem_cons_of_mem _ hy))
theorem nmAll_mem {P : Int → Prop} : ∀ {rows : List (List Chg)} {ks : List Int}, (∀ k ∈ ks, P k) → (∀ x ∈ rows, ∀ c ∈ x, P c.1) → ∀ k ∈ nmAll ks rows, P k
  | [], _, h, _ => h
  | x :: r, ks, h, hl => nmAll_mem (rows := r) (ks := insAll ks x) (fun k hk => by
      rcases insAll_mem x hk with h1 | ⟨c, hc, rfl⟩
      · exact h k h1
      · exact hl x (List.mem_cons_self ..) c hc) (fun y hy => hl y (List.mem_cons_of_mem _ hy))
theorem nmAll_len (B : Nat) : ∀ (rows : List (List Chg)) (ks : List Int), (∀ x ∈ rows, x.length ≤ B) → (nmAll ks rows).length ≤ ks.length + B * rows.length
  | [], _, _ => by simp [nmAll]
  | x :: r, ks, h => by
    have h1 := nmAll_len B r (insAll ks x) (fun y hy => h y (List.mem_cons_of_mem _ hy))
    have h2 := insAll_len x ks
    have h3 := h x (List.mem_cons_self ..)
    show (nmAll (insAll ks x) r).length ≤ _
    rw [List.length_cons, Nat.mul_succ]; omega
theorem os_at {α : Type} {e : Nat} {d : Kd α} {W : World} {rows : List (List α)} {cs : List OV} (hE : EachV (Kd.slice e d) rows cs W) {k : Nat} (hk : k < rows.length) : ∃ (hc : k < cs.length) (B : Option Addr) (cB : Nat), (cs[k]).1 = .slice B (rows[k]).length cB ∧ (rows[k]).length ≤ cB := by
  have hc : k < cs.length := by rw [← hE.1]; exact hk
  obtain ⟨B, cB, h1, h2, _⟩ := hE.2 k _ _ (List.getElem?_eq_getElem hk) (List.getElem?_eq_getElem hc)
  exact ⟨hc, B, cB, (List.cons.inj h1).1, h2⟩
theorem os_C {α : Type} {e : Nat} {d : Kd α} {W : World} {rows : List (List α)} {cs : List OV} (hE : EachV (Kd.slice e d) rows cs W) {k : Nat} (hk : k < rows.length) (hc : k < cs.length) {B : Option Addr} {cB : Nat} (hv : (cs[k]).1 = .slice B (rows[k]).length cB) : d.C W B (rows[k]).length rows[k] := by
  obtain ⟨B', cB', h1, _, h3⟩ := hE.2 k _ _ (List.getElem?_eq_getElem hk) (List.getElem?_eq_getElem hc)
  have h4 := (List.cons.inj h1).1
  rw [hv] at h4
  cases h4
  exact h3
section
variable {w0 W : World} {F : List HP} {g n : Nat} {las : List Int} {wt : Wt}
set_option maxHeartbeats 3200000 in
set_option maxRecDepth 100000 in
theorem pages_ (h : Sep w0 W (Dsk g las wt :: F)) (hl : las.length = 64 * n) (hn : n ≤ 160) (hw : ∀ i b, wt i = some b → b.length = 64) (a b c : Int) (hb : Bytes (logF n las wt a b c)) (hp0 : (pagesF n las wt a b c).length ≤ 64) (hp1 : ∀ p ∈ pagesF n las wt a b c, p.length ≤ 1000000) (hrl : (recR n las wt a b c).1.length ≤ 1000) (hrx : ∀ x ∈ (recR n las wt a b c).1, x.length ≤ 64) :
    Calls Tryz.prog 100 #[.pointer (some ⟨g, 0, none⟩), .agg #[.int .i64 a, .int .i64 b, .int .u32 c]] W fun e w' => ∃ v m, e = .returned (.tuple #[v, .map (some m)]) ∧ Sep w0 w' (RowV KP 24 v (pgAll (pagesF n las wt a b c) (recR n las wt a b c).1) :: SetM m (nmAll [] (recR n las wt a b c).1) :: Dsk g las wt :: F) := by
  have A0 := Aside0.mk (h.newBlk 80 #[.int .i64 a, .int .i64 b, .int .u32 c])
  have HL := Aside0.mk (And.intro hl (And.intro hn (And.intro hw hb)))
  have HRT : Aside0 (∀ x ∈ (recR n las wt a b c).1, rightF x b = true) := ⟨recs_right b _⟩
  obtain ⟨P0, hP0⟩ : ∃ P, pagesF n las wt a b c = P := ⟨_, rfl⟩
  obtain ⟨rr, hrr⟩ : ∃ P, (recR n las wt a b c).1 = P := ⟨_, rfl⟩
  rw [hP0] at hp0 hp1
  rw [hrr] at HRT hrl hrx
  have HP0 := Aside0.mk hP0
  have HRR := Aside0.mk hrr
  have HPL := Aside0.mk (And.intro hp0 hp1)
  have HRL := Aside0.mk (And.intro hrl hrx)
  obtain ⟨N, hN⟩ : ∃ N, rr.length = N := ⟨_, rfl⟩
  have HN := Aside0.mk hN
  have hN1 : N ≤ 1000 := by omega
  have HCL : Aside0 (∀ x ∈ rr, ∀ c ∈ x, c.2.length ≤ 1000000 ∧ -9223372036854775808 ≤ c.1 ∧ c.1 ≤ 9223372036854775807) := ⟨fun x hx c hc => by have h1 := right_in (HRT.out x hx); have h2 := h1.2 c hc; have := h1.1; exact ⟨by omega, by omega, by omega⟩⟩
  have z0 := (A0.out.cell 0).trans rfl
  have z1 := (A0.out.cell 1).trans rfl
  have z2 := (A0.out.cell 2).trans rfl
  clear h hl hn hw hb hp0 hp1 hrl hrx hP0 hrr hN
  have hmm := @run_makeMap Tryz.prog
  go_enter Tryz.func100, Tryz.ntmps100
  go_wp2_with fail
  refine (Home.all_ A0.out.at2 HL.out.1 a b c).mono ?_
  rintro e w1 ⟨v1, rfl, hS1⟩
  rw [HP0.out] at hS1
  have B1 := Aside0.mk (Sep.rowToV rfl hS1)
  have B2 := Aside0.mk (set_new B1.out)
  obtain ⟨m, hm⟩ : ∃ m, w1.heap.size = m := ⟨_, rfl⟩
  rw [hm] at B2
  clear hS1 z0 z1 z2
  have z0 := (B2.out.at4.cell 0).trans rfl
  have z1 := (B2.out.at4.cell 1).trans rfl
  have z2 := (B2.out.at4.cell 2).trans rfl
  obtain ⟨w2, hw2⟩ : ∃ x, w1.alloc (.map #[] 0) = x := ⟨_, rfl⟩
  rw [hw2] at B2 z0 z1 z2
  go_wp2_with fail
  clear hw2 hm
  refine (records_ B2.out.at3 HL.out.1 HL.out.2.1 HL.out.2.2.1 a b c HL.out.2.2.2).mono ?_
  rintro e w3 ⟨v3, rfl, hS3⟩
  rw [HRR.out] at hS3
  obtain ⟨A4, c4, rfl⟩ := hS3.rowN HN.out
  obtain ⟨cs, hcs⟩ := (Sep.rowToV rfl hS3).rowV_open
  have B3 : Aside0 (Sep w0 w3 (SetM m [] :: RowV KP 24 v1 P0 :: Row KV 60 (.slice A4 N c4) cs :: Fx (EachV K3 rr cs) :: Dsk g las wt :: Blk W.heap.size 80 #[.int .i64 a, .int .i64 b, .int .u32 c] :: F)) := ⟨hcs.at5.at5⟩
  obtain ⟨A1, c1, rfl⟩ := Sep.rowVN B3.out.at2 rfl
  clear hS3 hcs z0 z1 z2 hmm
  go_wp2_with fail
  go_loopg [6, 26] N (fun k_ v p wr => ∃ (j : Nat), p = .int .i64 (j : Int) ∧ j + k_ = N ∧ Sep w0 wr (SetM m (nmAll [] (rr.take j)) :: RowV KP 24 v (pgAll P0 (rr.take j)) :: Row KV 60 (.slice A4 N c4) cs :: Fx (EachV K3 rr cs) :: Dsk g las wt :: Blk W.heap.size 80 #[.int .i64 a, .int .i64 b, .int .u32 c] :: F))
  case atStart => exact ⟨0, rfl, by omega, B3.out⟩
  case round =>
    obtain ⟨j, rfl, hjk, hS⟩ := hrel
    obtain ⟨G0, rfl⟩ : ∃ G, G = gk := ⟨_, rfl⟩
    obtain ⟨w4, rfl⟩ : ∃ x, x = wr := ⟨_, rfl⟩
    have AK := Aside0.mk hjk
    obtain ⟨ps, hps⟩ : ∃ p, pgAll P0 (rr.take j) = p := ⟨_, rfl⟩
    obtain ⟨nm, hnm⟩ : ∃ p, nmAll [] (rr.take j) = p := ⟨_, rfl⟩
    rw [hps, hnm] at hS
    have HPS := Aside0.mk hps
    have HNM := Aside0.mk hnm
    obtain ⟨NP, hNP⟩ : ∃ n, ps.length = n := ⟨_, rfl⟩
    obtain ⟨A6, c6, rfl⟩ := Sep.rowVN hS.at2 hNP
    have HNP := Aside0.mk hNP
    have AS := Aside0.mk hS
    clear hS hps hnm hNP
    by_cases cj : j < N
    case pos =>
      have hjl : (j : Int) < (N : Int) := by omega
      have hjx : j < rr.length := by rw [HN.out]; exact cj
      obtain ⟨hc', B, cB, hov, hlc⟩ := os_at AS.out.at4.fx hjx
      obtain ⟨_, ap, cs1, hAp, hK1, hc0, _⟩ := elem_ (d := KV) AS.out.at3.rowC' cj
      have hK2 : cs1 = [(cs[j]).1] := hK1
      subst hK2
      have hcell := hc0 _ rfl
      rw [show j * KV.sz = j from Nat.mul_one j, hov] at hcell
      have HOC : Aside0 (∀ W', EachV K3 rr cs W' → KC.C W' B (rr[j]).length rr[j]) := ⟨fun W' hE => os_C hE hjx hc' hov⟩
      have HXR := Aside0.mk (HCL.out _ (List.getElem_mem hjx))
      have HX64 := Aside0.mk (HRL.out.2 _ (List.getElem_mem hjx))
      have HPJ : Aside0 (pgAll P0 (rr.take (j + 1)) = applyF ps rr[j]) := ⟨by rw [take_one hjx, pgAll_snoc, HPS.out]⟩
      have HNJ : Aside0 (nmAll [] (rr.take (j + 1)) = insAll nm rr[j]) := ⟨by rw [take_one hjx, nmAll_snoc, HNM.out]⟩
      have HPB : Aside0 (NP ≤ 100000 ∧ ∀ p ∈ ps, p.length ≤ 1000000) := ⟨by
        constructor
        · rw [← HNP.out, ← HPS.out, pgAll_len]; have := HPL.out.1; omega
        · rw [← HPS.out]
          exact pgAll_le HPL.out.2 (fun x hx c hc => (HCL.out x (List.mem_of_mem_take hx) c hc).1)⟩
      have HNB : Aside0 (nm.length ≤ 64 * N) := ⟨by
        have h1 := nmAll_len 64 (rr.take j) [] (fun x hx => HRL.out.2 x (List.mem_of_mem_take hx))
        rw [HNM.out] at h1
        have h2 : (rr.take j).length ≤ N := by rw [List.length_take, HN.out]; omega
        have h3 : 64 * (rr.take j).length ≤ 64 * N := Nat.mul_le_mul_left _ h2
        simp only [List.length_nil] at h1
        omega⟩
      obtain ⟨x, hx⟩ : ∃ x, rr[j] = x := ⟨_, rfl⟩
      obtain ⟨XL, hXL⟩ : ∃ L, (rr[j]).length = L := ⟨_, rfl⟩
      rw [hXL] at hcell hlc HOC HX64
      rw [hx] at HOC HXR HPJ HNJ hXL
      have HXL := Aside0.mk hXL
      subst hAp
      clear hjk cj hov hc0 hlc hjx hx hXL
      go_wp2_with fail
      refine (apply_ (ps := ps) (l := x) (Sep.rowVC rfl AS.out.at2).2.2 (HOC.out _ AS.out.at4.fx) HPB.out.1 HPB.out.2 (fun c hc => (HXR.out c hc).1)).mono ?_
      rintro e w5 ⟨v5, rfl, hS5⟩
      obtain ⟨ps2, hps2⟩ : ∃ p, applyF ps x = p := ⟨_, rfl⟩
      have HPS2 := Aside0.mk hps2
      rw [hps2] at hS5
      obtain ⟨A5, c5, rfl⟩ := Sep.rowVN hS5 (n := NP) (by rw [← hps2, applyF_len]; exact HNP.out)
      have B5 := Aside0.mk (AS.out.lift1 hS5).at3.tail.at2
      have hXN : XL ≤ 9223372036854775807 := by have := HX64.out; omega
      clear hS5 hps2
      go_wp2_with fail
      go_loopg [35] XL (fun k_ p wr => ∃ (i : Nat), p = .int .i64 (i : Int) ∧ i + k_ = XL ∧ Sep w0 wr (SetM m (insAll nm (x.take i)) :: RowV KP 24 (.slice A5 NP c5) ps2 :: Row KV 60 (.slice (some ap) N c4) cs :: Fx (EachV K3 rr cs) :: Dsk g las wt :: Blk W.heap.size 80 #[.int .i64 a, .int .i64 b, .int .u32 c] :: F))
      case atStart => exact ⟨0, rfl, by omega, B5.out⟩
      case round =>
        obtain ⟨i, rfl, hik, hS⟩ := hrel
        obtain ⟨w6, rfl⟩ : ∃ x, x = wr := ⟨_, rfl⟩
        have AI := Aside0.mk hik
        have AT := Aside0.mk hS
        clear hS
        by_cases ci : i < XL
        case pos =>
          have hil : (i : Int) < (XL : Int) := by omega
          obtain ⟨hxi, ad, B2', cB2, rfl, q0, q1, q2, q3⟩ := elem2_ (HOC.out _ AT.out.at4.fx) ci
          have hpg := (HXR.out _ (List.getElem_mem hxi)).2
          have HIN : Aside0 (insAll nm (x.take (i + 1)) = insK (insAll nm (x.take i)) (x[i]).1) := ⟨by rw [take_one hxi, insAll_snoc]⟩
          obtain ⟨pg, hpgE⟩ : ∃ p, (x[i]).1 = p := ⟨_, rfl⟩
          obtain ⟨bn, hbn⟩ : ∃ p, (x[i]).2.length = p := ⟨_, rfl⟩
          rw [hpgE] at q0 hpg HIN
          rw [hbn] at q1
          have HIL : Aside0 ((insAll nm (x.take i)).length < 1000000) := ⟨by
            have h1 := insAll_len (x.take i) nm
            have h2 : (x.take i).length ≤ XL := by rw [List.length_take]; omega
            have h3 := HNB.out
            have h4 := HX64.out
            omega⟩
          have BK := Aside0.mk (AT.out.newBlk 75 #[.int .i64 pg, .slice B2' bn cB2])
          have y0 := (BK.out.cell 0).trans rfl
          obtain ⟨W9, hup, hS9⟩ := set_put (v := .agg #[]) BK.out.at2 pg hpg HIL.out
          rw [← HIN.out] at hS9
          have B9 := Aside0.mk hS9.drop2
          clear hik ci q2 q3 hpgE hbn hpg hxi hS9
          go_wp2_with fail
          go_roundg (gk - 1)
          case measure => have := AI.out; omega
          case rel => exact ⟨i + 1, by go_num, by have := AI.out; omega, B9.out⟩
        case neg =>
        obtain rfl : i = XL := by omega
        have hil : ¬ (i : Int) < (i : Int) := by omega
        have HTX : Aside0 (x.take i = x) := ⟨List.take_of_length_le (by rw [HXL.out]; exact Nat.le_refl _)⟩
        clear hik ci
        go_wp2_with fail
        go_roundg (G0 - 1)
        case measure => have := AK.out; omega
        case rel => exact ⟨j + 1, by go_num, by have := AK.out; omega, by rw [HNJ.out, HPJ.out, HPS2.out]; have h1 := AT.out; rw [HTX.out] at h1; exact h1⟩
    case neg =>
    obtain rfl : j = N := by omega
    have hjl : ¬ (j : Int) < (j : Int) := by omega
    have HTK : Aside0 (rr.take j = rr) := ⟨List.take_of_length_le (by rw [HN.out]; exact Nat.le_refl _)⟩
    clear hjk cj
    go_wp2_with fail
    go_ret2
    refine ⟨_, m, by first | rfl | (simp; done), ?_⟩
    rw [HP0.out, HRR.out]
    have h1 := AS.out
    rw [← HPS.out, ← HNM.out, HTK.out] at h1
    exact h1.at2.at3.tail.at3.tail.at2.at4.tail.at3.at3.sw23
end
end Go.Proofs.YtjngnigelkgekaaGreat.Store
namespace Go.Proofs.YtjngnigelkgekaaGreat.Store
open Go.RowKit Go.Proofs.YtjngnigelkgekaaGreatW.PrintWords Go.Proofs.YtjngnigelkgekaaGreatW.PrintLast Go.Proofs.YtjngnigelkgekaaGreatW.PrintMore Go.Proofs.YtjngnigelkgekaaGreat.Kit Go.Proofs.YtjngnigelkgekaaGreat.Plain Go.Proofs.YtjngnigelkgekaaGreat.Disk Go.Proofs.YtjngnigelkgekaaGreat.Root
open Go.Proofs.YtjngnigelkgekaaGreat.Delta (Chg KC)
open Go.Proofs.YtjngnigelkgekaaGreat.Redo (recR logF)
open Go.Proofs.YtjngnigelkgekaaGreat.Home (pagesF)
section
variable {w0 W : World} {F : List HP} {g n : Nat} {las : List Int} {wt : Wt}
set_option maxHeartbeats 3200000 in
set_option maxRecDepth 100000 in
theorem found_none (h : Sep w0 W (Dsk g las wt :: F)) (hl : las.length = 64 * n) (hn : n ≤ 160) (hw : ∀ i b, wt i = some b → b.length = 64) (hb : ∀ j, Bytes (secF n las wt j)) (h0 : decide (0 < (bestTo n (secF n las wt) 2).2.2) = false) :
    Calls Tryz.prog 62 #[.pointer (some ⟨g, 0, none⟩)] W fun e w' => e = .returned (.tuple #[.agg #[.int .i64 0, .int .i64 0, .int .u32 0], .slice none 0 0, .slice none 0 0, .int .i64 22]) ∧ Sep w0 w' (Dsk g las wt :: F) := by
  have A0 := Aside0.mk (h.newBlk 80 #[.int .i64 0, .int .i64 0, .int .u32 0])
  have HL := Aside0.mk (And.intro hl (And.intro hn (And.intro hw hb)))
  obtain ⟨r, hr⟩ : ∃ r, bestTo n (secF n las wt) 2 = r := ⟨_, rfl⟩
  rw [hr] at h0
  have HR := Aside0.mk hr
  have H0 := Aside0.mk h0
  obtain ⟨p2, hp2⟩ : ∃ p, W.heap.size = p := ⟨_, rfl⟩
  rw [hp2] at A0
  clear h hl hn hw hb hr h0
  go_enter Tryz.func62, Tryz.ntmps62
  go_wp2_with fail
  refine (best_ A0.out.at2 HL.out.1 HL.out.2.1 HL.out.2.2.1 HL.out.2.2.2).mono ?_
  rintro e w2 ⟨rfl, hS2⟩
  rw [HR.out, H0.out]
  have B2 := Aside0.mk hS2.at2
  clear hS2 hp2
  have B3 := Aside0.mk (B2.out.alloc (.cells #[.int .i64 r.1, .int .i64 r.2.1, .int .u32 r.2.2] 80))
  obtain ⟨d0, f0, d1, f1, d2, f2, hS4⟩ := store3 (.int .i64 0) (.int .i64 0) (.int .u32 0) B3.out
  have B4 := Aside0.mk hS4
  clear hS4
  have q0 := (B4.out.cell 0).trans rfl
  have q1 := (B4.out.cell 1).trans rfl
  have q2 := (B4.out.cell 2).trans rfl
  unfold rootV
  go_wp2_with fail
  go_retc4 (.tuple #[.agg #[.int .i64 0, .int .i64 0, .int .u32 0], .slice none 0 0, .slice none 0 0, .int .i64 22])
  exact ⟨rfl, B4.out.tail⟩
set_option maxHeartbeats 3200000 in
set_option maxRecDepth 100000 in
theorem found_ok (h : Sep w0 W (Dsk g las wt :: F)) (hl : las.length = 64 * n) (hn : n ≤ 160) (hw : ∀ i b, wt i = some b → b.length = 64) (hb : ∀ j, Bytes (secF n las wt j)) (a b ep : Int) (hbest : bestTo n (secF n las wt) 2 = (a, b, ep)) (he0 : 0 < ep) (he1 : ep < 4294967295)
    (hlb : Bytes (logF n las wt a b ep)) (hp0 : (pagesF n las wt a b ep).length ≤ 64) (hp1 : ∀ p ∈ pagesF n las wt a b ep, p.length ≤ 1000000) (hrl : (recR n las wt a b ep).1.length ≤ 1000) (hrx : ∀ x ∈ (recR n las wt a b ep).1, x.length ≤ 64) :
    Calls Tryz.prog 62 #[.pointer (some ⟨g, 0, none⟩)] W fun e w' => ∃ v v2, e = .returned (.tuple #[.agg #[.int .i64 a, .int .i64 b, .int .u32 ep], v, v2, .int .i64 0]) ∧ Sep w0 w' (RowV KP 24 v (pgAll (pagesF n las wt a b ep) (recR n las wt a b ep).1) :: Row I64 3 v2 (sortK (nmAll [] (recR n las wt a b ep).1)) :: Dsk g las wt :: F) := by
  have A0 := Aside0.mk (h.newBlk 80 #[.int .i64 0, .int .i64 0, .int .u32 0])
  have HL := Aside0.mk (And.intro hl (And.intro hn (And.intro hw hb)))
  have HP := Aside0.mk (And.intro hlb (And.intro hp0 (And.intro hp1 (And.intro hrl hrx))))
  have HR := Aside0.mk hbest
  have hd0 : decide (0 < ep) = true := decide_eq_true he0
  have hee : (ep == 4294967295) = false := by simp; omega
  have hee2 : ¬ ep = 4294967295 := by omega
  obtain ⟨p2, hp2⟩ : ∃ p, W.heap.size = p := ⟨_, rfl⟩
  rw [hp2] at A0
  clear h hl hn hw hb hbest hlb hp0 hp1 hrl hrx he0 he1
  go_enter Tryz.func62, Tryz.ntmps62
  go_wp2_with fail
  refine (best_ A0.out.at2 HL.out.1 HL.out.2.1 HL.out.2.2.1 HL.out.2.2.2).mono ?_
  rintro e w2 ⟨rfl, hS2⟩
  rw [HR.out]
  have B2 := Aside0.mk hS2
  clear hS2 hp2
  obtain ⟨p6, hp6⟩ : ∃ p, w2.heap.size = p := ⟨_, rfl⟩
  have B3 := Aside0.mk (B2.out.newBlk 80 #[.int .i64 a, .int .i64 b, .int .u32 ep])
  rw [hp6] at B3
  have z0 := (B3.out.cell 0).trans rfl
  have z1 := (B3.out.cell 1).trans rfl
  have z2 := (B3.out.cell 2).trans rfl
  unfold rootV
  go_wp2_with fail
  refine (pages_ B3.out.at2 HL.out.1 HL.out.2.1 HL.out.2.2.1 a b ep HP.out.1 HP.out.2.1 HP.out.2.2.1 HP.out.2.2.2.1 HP.out.2.2.2.2).mono ?_
  rintro e w4 ⟨v4, m, rfl, hS4⟩
  obtain ⟨pp, hpp⟩ : ∃ p, pgAll (pagesF n las wt a b ep) (recR n las wt a b ep).1 = p := ⟨_, rfl⟩
  obtain ⟨nn, hnn⟩ : ∃ p, nmAll [] (recR n las wt a b ep).1 = p := ⟨_, rfl⟩
  rw [hpp, hnn] at hS4
  have HPP := Aside0.mk hpp
  have HNN := Aside0.mk hnn
  have B4 := Aside0.mk hS4.drew
  clear hS4 hpp hnn z0 z1 z2 hp6
  go_wp2_with fail
  refine start_ (n := 9) (S := fun w' => w'.cell? ⟨p6, 0, none⟩ = some (.int .i64 a) ∧ w'.cell? ⟨p6, 1, none⟩ = some (.int .i64 b) ∧ w'.cell? ⟨p6, 2, none⟩ = some (.int .u32 ep)) (ds := [5]) #[false, false, false, false, false, false, false, false, false] (by kernel_rfl) rfl rfl ⟨(B4.out.at4.cell 0).trans rfl, (B4.out.at4.cell 1).trans rfl, (B4.out.at4.cell 2).trans rfl⟩ (fun hHeld => ?_)
  refine pure_ (i := 1) (N := some 34) (v := ?_) (a' := ?_) #[false, true, false, false, false, false, false, false, false] rfl rfl (by kernel_rfl) (fun _ _ _ h => h) (Or.inl ⟨by rfl, ?_⟩) ?_ ?_
  rotate_left
  · intro w'
    go_simp
    with_reducible rfl
  rotate_left
  · simp only [Act.put, sIB, sCz, sCs, i64_w, i32_w]
    rfl
  refine pure_ (i := 2) (N := some 35) (v := ?_) (a' := ?_) #[false, true, true, false, false, false, false, false, false] rfl rfl (by kernel_rfl) (fun _ _ _ h => h) (Or.inl ⟨by rfl, ?_⟩) ?_ ?_
  rotate_left
  · intro w'
    go_simp
    with_reducible rfl
  rotate_left
  · simp only [Act.put, sIB, sCz, sCs, i64_w, i32_w]
    rfl
  refine take_ (i := 0) (N := some 33) (v := ?_) (a' := ?_) #[true, true, true, false, false, false, false, false, false] rfl rfl (by kernel_rfl) (fun _ _ _ h => h) (Or.inl ⟨by rfl, ?_⟩) hHeld ?_ ?_
  rotate_left
  · rintro w' ⟨s0, s1, s2⟩
    go_simp
    with_reducible rfl
  rotate_left
  · simp only [Act.put, sIB, sCz, sCs, i64_w, i32_w]
    rfl
  refine one_ (i := 3) (N := some 36) #[true, true, true, true, false, false, false, false, false] rfl rfl (by kernel_rfl) (by decide) (fun K hK => ?_)
  refine goes_ Tryz.func93 (by kernel_rfl) rfl #[.map (some m)] (by rfl) rfl rfl (by simp only [List.map_toArray, List.map_cons, List.map_nil]; rfl) ?_
  with_reducible refine (keysB_ m _).mono ?_
  rintro e w5 ⟨rfl, rfl⟩
  refine ⟨_, rfl, ?_⟩
  have B5 := Aside0.mk (B4.out.alloc (.cells #[.map (some m)] 106))
  refine hK.out _ _ ⟨(B5.out.at4.cell 0).trans rfl, (B5.out.at4.cell 1).trans rfl, (B5.out.at4.cell 2).trans rfl⟩ (fun hHeld => ?_)
  clear hK K
  refine norm_ (a' := ?_) ?_ ?_
  rotate_left
  · show Act.put _ (some 36) _ = _
    simp only [Act.put, sIB, sCz, sCs, i64_w, i32_w]
    rfl
  refine one_ (i := 4) (N := some 37) #[true, true, true, true, true, false, false, false, false] rfl rfl (by kernel_rfl) (by decide) (fun K hK => ?_)
  refine goes_ Tryz.func92 (by kernel_rfl) rfl #[.func (.func 118) #[] #[.pointer (some ⟨w4.drew.heap.size, 0, none⟩)]] (by rfl) rfl rfl (by simp only [List.map_toArray, List.map_cons, List.map_nil]; rfl) ?_
  with_reducible refine (sortedS B4.out.at2).mono ?_
  rintro e w6 ⟨v6, rfl, hS6⟩
  refine ⟨_, rfl, ?_⟩
  have B6 := Aside0.mk (B4.out.lift1 hS6)
  clear hS6
  refine hK.out _ _ ⟨(B6.out.at5.cell 0).trans rfl, (B6.out.at5.cell 1).trans rfl, (B6.out.at5.cell 2).trans rfl⟩ (fun hHeld => ?_)
  clear hK K
  refine norm_ (a' := ?_) ?_ ?_
  rotate_left
  · show Act.put _ (some 37) _ = _
    simp only [Act.put, sIB, sCz, sCs, i64_w, i32_w]
    rfl
  refine last_ (i := 5) (N := none) #[true, true, true, true, true, true, false, false, false] rfl rfl (by kernel_rfl) (by decide) (fun K hK => ?_)
  obtain ⟨d0, f0, d1, f1, d2, f2, hS7⟩ := store3 (.int .i64 a) (.int .i64 b) (.int .u32 ep) (at6 B6.out)
  have B7 := Aside0.mk hS7
  clear hS7
  refine skip_ (w1 := ?_) (by rfl) rfl ?_ ?_
  rotate_left
  · go_simp
    rfl
  refine hK.out _ _ ?_
  clear hK K
  refine pure_ (i := 6) (N := some 3) (v := ?_) (a' := ?_) #[true, true, true, true, true, true, true, false, false] rfl rfl (by kernel_rfl) (fun _ _ _ h => h) (Or.inl ⟨by rfl, ?_⟩) ?_ ?_
  rotate_left
  · intro w'
    go_simp
    with_reducible rfl
  rotate_left
  · simp only [Act.put, sIB, sCz, sCs, i64_w, i32_w]
    rfl
  refine pure_ (i := 7) (N := some 4) (v := ?_) (a' := ?_) #[true, true, true, true, true, true, true, true, false] rfl rfl (by kernel_rfl) (fun _ _ _ h => h) (Or.inl ⟨by rfl, ?_⟩) ?_ ?_
  rotate_left
  · intro w'
    go_simp
    with_reducible rfl
  rotate_left
  · simp only [Act.put, sIB, sCz, sCs, i64_w, i32_w]
    rfl
  refine pure_ (i := 8) (N := some 5) (v := ?_) (a' := ?_) #[true, true, true, true, true, true, true, true, true] rfl rfl (by kernel_rfl) (fun _ _ _ h => h) (Or.inl ⟨by rfl, ?_⟩) ?_ ?_
  rotate_left
  · intro w'
    go_simp
    with_reducible rfl
  rotate_left
  · simp only [Act.put, sIB, sCz, sCs, i64_w, i32_w]
    rfl
  refine done_ (by kernel_rfl) ?_
  have q0 := (B7.out.cell 0).trans rfl
  have q1 := (B7.out.cell 1).trans rfl
  have q2 := (B7.out.cell 2).trans rfl
  go_wp2_with fail
  go_retc4 (.tuple #[.agg #[.int .i64 a, .int .i64 b, .int .u32 ep], v4, v6, .int .i64 0])
  exact ⟨v4, v6, rfl, by rw [HPP.out, HNN.out]; exact B7.out.tail.at3.tail.at4.tail.at2⟩
end
end Go.Proofs.YtjngnigelkgekaaGreat.Store
namespace Go.Proofs.YtjngnigelkgekaaGreat.Store
open Go.RowKit Go.Proofs.YtjngnigelkgekaaGreatW.PrintWords Go.Proofs.YtjngnigelkgekaaGreatW.PrintLast Go.Proofs.YtjngnigelkgekaaGreatW.PrintMore Go.Proofs.YtjngnigelkgekaaGreat.Kit Go.Proofs.YtjngnigelkgekaaGreat.Plain Go.Proofs.YtjngnigelkgekaaGreat.Disk Go.Proofs.YtjngnigelkgekaaGreat.Root
open Go.Proofs.YtjngnigelkgekaaGreat.Delta (Chg KC)
open Go.Proofs.YtjngnigelkgekaaGreat.Redo (recR logF)
open Go.Proofs.YtjngnigelkgekaaGreat.Home (pagesF)
def insList (ks : List Int) (l : List Int) : List Int := l.foldl insK ks
theorem insList_snoc (ks l : List Int) (k : Int) : insList ks (l ++ [k]) = insK (insList ks l) k := by unfold insList; rw [List.foldl_append]; rfl
theorem insList_len (l : List Int) : ∀ ks : List Int, (insList ks l).length ≤ ks.length + l.length := by
  induction l with
  | nil => intro ks; exact Nat.le_refl _
  | cons c r ih =>
    intro ks
    have h1 := ih (insK ks c)
    have h2 := insK_len ks c
    show (insList (insK ks c) r).length ≤ _
    rw [List.length_cons]; omega
theorem insList_mem {x : Int} (l : List Int) : ∀ {ks : List Int}, x ∈ insList ks l → x ∈ ks ∨ x ∈ l := by
  induction l with
  | nil => intro ks h; exact .inl h
  | cons c r ih =>
    intro ks h
    rcases ih (ks := insK ks c) h with h | h
    · rcases insK_mem h with h | h
      · exact .inl h
      · exact .inr (by rw [h]; exact List.mem_cons_self ..)
    · exact .inr (List.mem_cons_of_mem _ h)
section
variable {w0 W : World} {F : List HP} {g n : Nat} {las : List Int} {wt : Wt}
set_option maxHeartbeats 1600000 in
set_option maxRecDepth 100000 in
theorem open_none (h : Sep w0 W (Dsk g las wt :: F)) (hl : las.length = 64 * n) (hn : n ≤ 160) (hw : ∀ i b, wt i = some b → b.length = 64) (hb : ∀ j, Bytes (secF n las wt j)) (h0 : decide (0 < (bestTo n (secF n las wt) 2).2.2) = false) :
    Calls Tryz.prog 24 #[.pointer (some ⟨g, 0, none⟩)] W fun e w' => e = .returned (.tuple #[.pointer none, .int .i64 22]) ∧ Sep w0 w' (Dsk g las wt :: F) := by
  have H0 := Aside0.mk h
  have HL := Aside0.mk (And.intro hl (And.intro hn (And.intro hw (And.intro hb h0))))
  clear h hl hn hw hb h0
  go_enter Tryz.func24, Tryz.ntmps24
  go_wp2_with fail
  refine (found_none H0.out HL.out.1 HL.out.2.1 HL.out.2.2.1 HL.out.2.2.2.1 HL.out.2.2.2.2).mono ?_
  rintro e w2 ⟨rfl, hS2⟩
  have B2 := Aside0.mk (hS2.alloc (.cells #[.int .i64 0, .int .i64 0, .int .u32 0] 80))
  clear hS2
  go_wp2_with fail
  go_ret2
  exact ⟨by first | rfl | (simp; done), B2.out⟩
set_option maxHeartbeats 3200000 in
set_option maxRecDepth 100000 in
theorem open_ok (h : Sep w0 W (Dsk g las wt :: F)) (hl : las.length = 64 * n) (hn : n ≤ 160) (hw : ∀ i b, wt i = some b → b.length = 64) (hb : ∀ j, Bytes (secF n las wt j)) (a b ep : Int) (hbest : bestTo n (secF n las wt) 2 = (a, b, ep)) (he0 : 0 < ep) (he1 : ep < 4294967295)
    (hlb : Bytes (logF n las wt a b ep)) (hp0 : (pagesF n las wt a b ep).length ≤ 64) (hpb : ((pagesF n las wt a b ep).length : Int) = b) (hp1 : ∀ p ∈ pagesF n las wt a b ep, p.length ≤ 1000000) (hrl : (recR n las wt a b ep).1.length ≤ 1000) (hrx : ∀ x ∈ (recR n las wt a b ep).1, x.length ≤ 64) :
    Calls Tryz.prog 24 #[.pointer (some ⟨g, 0, none⟩)] W fun e w' => ∃ gs m, e = .returned (.tuple #[.pointer (some ⟨gs, 0, none⟩), .int .i64 0]) ∧ Sep w0 w' (StB gs g m a b (ep + 1) (pgAll (pagesF n las wt a b ep) (recR n las wt a b ep).1) [] 0 0 :: Dsk g (chkL n las wt a b ep (pgAll (pagesF n las wt a b ep) (recR n las wt a b ep).1) (insList [] (sortK (nmAll [] (recR n las wt a b ep).1)))) (fun _ => none) :: F) := by
  have H0 := Aside0.mk h
  have HL := Aside0.mk (And.intro hl (And.intro hn hw))
  have HF := Aside0.mk (found_ok h hl hn hw hb a b ep hbest he0 he1 hlb hp0 hp1 hrl hrx)
  obtain ⟨pp, hpp⟩ : ∃ p, pgAll (pagesF n las wt a b ep) (recR n las wt a b ep).1 = p := ⟨_, rfl⟩
  obtain ⟨nn, hnn⟩ : ∃ p, nmAll [] (recR n las wt a b ep).1 = p := ⟨_, rfl⟩
  obtain ⟨ks, hks⟩ : ∃ p, sortK nn = p := ⟨_, rfl⟩
  rw [hpp, hnn, hks] at HF
  have HPP := Aside0.mk hpp
  have HNN := Aside0.mk hnn
  have HKK := Aside0.mk hks
  have HPL : Aside0 ((pp.length : Int) = b ∧ pp.length ≤ 64) := ⟨by rw [← hpp, pgAll_len]; exact ⟨hpb, hp0⟩⟩
  have HKM : Aside0 (∀ k ∈ ks, 0 ≤ k ∧ k < b) := ⟨fun k hk => by
    rw [← hks] at hk
    have h1 := (sortK_perm nn).mem_iff.2 hk
    rw [← hnn] at h1
    exact nmAll_mem (P := fun k => 0 ≤ k ∧ k < b) (fun k hk => (by cases hk)) (fun x hx c hc => by have h2 := (right_in (recs_right b _ x hx)).2 c hc; omega) k h1⟩
  have HKL : Aside0 (ks.length ≤ 64000) := ⟨by
    have h1 := nmAll_len 64 (recR n las wt a b ep).1 [] hrx
    rw [hnn] at h1
    have h2 := (sortK_perm nn).length_eq
    rw [hks] at h2
    simp only [List.length_nil] at h1
    omega⟩
  obtain ⟨nk, hnk⟩ : ∃ n, ks.length = n := ⟨_, rfl⟩
  have HNK := Aside0.mk hnk
  have HEP := Aside0.mk (And.intro he0 he1)
  have hmm := @run_makeMap Tryz.prog
  clear h hl hn hw hb hbest hlb hp0 hpb hp1 hrl hrx he0 he1 hpp hnn hks hnk
  go_enter Tryz.func24, Tryz.ntmps24
  go_wp2_with fail
  refine HF.out.mono ?_
  rintro e w2 ⟨v, v2, rfl, hS2⟩
  obtain ⟨A1, c1, rfl⟩ := Sep.rowVN hS2 rfl
  obtain ⟨A2, c2, rfl⟩ := hS2.at2.rowN HNK.out
  have B2 := Aside0.mk (hS2.newBlk 80 #[.int .i64 a, .int .i64 b, .int .u32 ep])
  have z0 := (B2.out.cell 0).trans rfl
  have z1 := (B2.out.cell 1).trans rfl
  have z2 := (B2.out.cell 2).trans rfl
  clear hS2
  go_wp2_with fail
  have B3 := Aside0.mk (set_new B2.out)
  rw [show ∀ o : Obj, (w2.alloc o).heap.size = w2.heap.size + 1 from fun o => by simp] at B3
  have B4 := Aside0.mk (B3.out.newBlk 108 #[.pointer (some ⟨g, 0, none⟩), .int .i64 a, .int .i64 b, .int .u32 ep, .slice A1 pp.length c1, .map (some (w2.heap.size + 1)), .int .i64 0, .int .u32 0])
  rw [show ∀ o o2 : Obj, ((w2.alloc o).alloc o2).heap.size = w2.heap.size + 1 + 1 from fun o o2 => by simp] at B4
  obtain ⟨w5, hw5⟩ : ∃ x, ((w2.alloc (.cells #[.int .i64 a, .int .i64 b, .int .u32 ep] 80)).alloc (.map #[] 0)).alloc (.cells #[.pointer (some ⟨g, 0, none⟩), .int .i64 a, .int .i64 b, .int .u32 ep, .slice A1 pp.length c1, .map (some (w2.heap.size + 1)), .int .i64 0, .int .u32 0] 108) = x := ⟨_, rfl⟩
  rw [hw5] at B4 ⊢
  clear hw5 B3 z0 z1 z2 hmm
  generalize w2.heap.size + 1 + 1 = gs at B4 ⊢
  generalize w2.heap.size + 1 = m at B4 ⊢
  generalize w2.heap.size = r5 at B4 ⊢
  have hnk : nk ≤ 64000 := by have := HKL.out; rw [HNK.out] at this; exact this
  have B5 : Aside0 (Sep w0 w5 (SetM m [] :: Blk gs 108 #[.pointer (some ⟨g, 0, none⟩), .int .i64 a, .int .i64 b, .int .u32 ep, .slice A1 pp.length c1, .map (some m), .int .i64 0, .int .u32 0] :: Blk r5 80 #[.int .i64 a, .int .i64 b, .int .u32 ep] :: RowV KP 24 (.slice A1 pp.length c1) pp :: Row I64 3 (.slice A2 nk c2) ks :: Dsk g las wt :: F)) := ⟨B4.out.at2⟩
  clear B4
  go_loopg [30] nk (fun k_ p wr => ∃ (j : Nat), p = .int .i64 (j : Int) ∧ j + k_ = nk ∧ Sep w0 wr (SetM m (insList [] (ks.take j)) :: Blk gs 108 #[.pointer (some ⟨g, 0, none⟩), .int .i64 a, .int .i64 b, .int .u32 ep, .slice A1 pp.length c1, .map (some m), .int .i64 0, .int .u32 0] :: Blk r5 80 #[.int .i64 a, .int .i64 b, .int .u32 ep] :: RowV KP 24 (.slice A1 pp.length c1) pp :: Row I64 3 (.slice A2 nk c2) ks :: Dsk g las wt :: F))
  case atStart => exact ⟨0, rfl, by omega, B5.out⟩
  case round =>
    obtain ⟨j, rfl, hjk, hS⟩ := hrel
    have AK := Aside0.mk hjk
    have AS := Aside0.mk hS
    clear hS
    by_cases cj : j < nk
    case pos =>
      have hjl : (j : Int) < (nk : Int) := by omega
      have hjx : j < ks.length := by rw [HNK.out]; exact cj
      obtain ⟨ad, hA, hcc⟩ := Kd.at_int AS.out.at5.rowC' (j : Int) (by omega) (by omega)
      rw [Int.toNat_natCast] at hcc
      have hgd : rd ks (j : Int) = ks[j] := by unfold rd; rw [Int.toNat_natCast, List.getD_eq_getElem?_getD, List.getElem?_eq_getElem hjx]; rfl
      have hkb := HKM.out _ (List.getElem_mem hjx)
      have HIN : Aside0 (insList [] (ks.take (j + 1)) = insK (insList [] (ks.take j)) ks[j]) := ⟨by rw [take_one hjx, insList_snoc]⟩
      have HIL : Aside0 ((insList [] (ks.take j)).length < 1000000) := ⟨by
        have h1 := insList_len (ks.take j) []
        have h2 : (ks.take j).length ≤ nk := by rw [List.length_take, HNK.out]; omega
        simp only [List.length_nil] at h1
        omega⟩
      obtain ⟨kk, hkk⟩ : ∃ k, ks[j] = k := ⟨_, rfl⟩
      rw [hkk] at hgd hkb HIN
      rw [hgd] at hcc
      have z5 := (AS.out.at2.cell 5).trans rfl
      obtain ⟨W9, hup, hS9⟩ := set_put (v := .agg #[]) AS.out kk (by have := HPL.out; omega) HIL.out
      rw [← HIN.out] at hS9
      have B9 := Aside0.mk hS9
      subst hA
      clear hjk cj hgd hkb hkk hjx hS9
      go_wp2_with fail
      go_roundg (gk - 1)
      case measure => have := AK.out; omega
      case rel => exact ⟨j + 1, by go_num, by have := AK.out; omega, B9.out⟩
    case neg =>
    obtain rfl : j = nk := by omega
    have hjl : ¬ (j : Int) < (j : Int) := by omega
    have HTK : Aside0 (ks.take j = ks) := ⟨List.take_of_length_le (by rw [HNK.out]; exact Nat.le_refl _)⟩
    have B10 := Aside0.mk AS.out
    rw [HTK.out] at B10
    have B11 : Aside0 (Sep w0 wr (StB gs g m a b ep pp (insList [] ks) 0 0 :: Dsk g las wt :: F)) := ⟨stb_shut (B10.out.at5.tail.at3.tail.at2.at3.sw23.at3)⟩
    clear hjk cj
    go_wp2_with fail
    refine (check_ B11.out HL.out.1 HL.out.2.1 HL.out.2.2 (by have := HEP.out; omega) (fun k hk => ?_) (by have := HPL.out.2; omega)).mono ?_
    · rcases insList_mem ks hk with h1 | h1
      · cases h1
      · have h2 := HKM.out k h1
        have h3 := HPL.out.1
        omega
    rintro e w12 ⟨rfl, hS12⟩
    have B12 := Aside0.mk hS12
    clear hS12
    go_wp2_with fail
    go_ret2
    exact ⟨gs, m, by first | rfl | (simp; done), by rw [HPP.out, HNN.out, HKK.out]; exact B12.out⟩
end
end Go.Proofs.YtjngnigelkgekaaGreat.Store
namespace Go.Proofs.YtjngnigelkgekaaGreat.Store
open Go.RowKit Go.Proofs.YtjngnigelkgekaaGreatW.PrintWords Go.Proofs.YtjngnigelkgekaaGreatW.PrintLast Go.Proofs.YtjngnigelkgekaaGreatW.PrintMore Go.Proofs.YtjngnigelkgekaaGreat.Kit Go.Proofs.YtjngnigelkgekaaGreat.Plain Go.Proofs.YtjngnigelkgekaaGreat.Disk Go.Proofs.YtjngnigelkgekaaGreat.Root
section
variable {w0 W : World} {F : List HP} {g n : Nat} {las : List Int} {wt : Wt}
set_option maxHeartbeats 3200000 in
set_option maxRecDepth 100000 in
theorem found_full (h : Sep w0 W (Dsk g las wt :: F)) (hl : las.length = 64 * n) (hn : n ≤ 160) (hw : ∀ i b, wt i = some b → b.length = 64) (hb : ∀ j, Bytes (secF n las wt j)) (h0 : (bestTo n (secF n las wt) 2).2.2 = 4294967295) :
    Calls Tryz.prog 62 #[.pointer (some ⟨g, 0, none⟩)] W fun e w' => e = .returned (.tuple #[.agg #[.int .i64 0, .int .i64 0, .int .u32 0], .slice none 0 0, .slice none 0 0, .int .i64 24]) ∧ Sep w0 w' (Dsk g las wt :: F) := by
  have A0 := Aside0.mk (h.newBlk 80 #[.int .i64 0, .int .i64 0, .int .u32 0])
  have HL := Aside0.mk (And.intro hl (And.intro hn (And.intro hw hb)))
  obtain ⟨a, b, ep, hr⟩ : ∃ a b ep, bestTo n (secF n las wt) 2 = (a, b, ep) := ⟨_, _, _, rfl⟩
  rw [hr] at h0
  have h0' : ep = 4294967295 := h0
  subst h0'
  have HR := Aside0.mk hr
  have hd0 : decide ((0 : Int) < 4294967295) = true := by decide
  obtain ⟨p2, hp2⟩ : ∃ p, W.heap.size = p := ⟨_, rfl⟩
  rw [hp2] at A0
  clear h hl hn hw hb hr h0
  go_enter Tryz.func62, Tryz.ntmps62
  go_wp2_with fail
  refine (best_ A0.out.at2 HL.out.1 HL.out.2.1 HL.out.2.2.1 HL.out.2.2.2).mono ?_
  rintro e w2 ⟨rfl, hS2⟩
  rw [HR.out]
  have B2 := Aside0.mk hS2.at2
  clear hS2 hp2
  have B3 := Aside0.mk (B2.out.alloc (.cells #[.int .i64 a, .int .i64 b, .int .u32 4294967295] 80))
  obtain ⟨d0, f0, d1, f1, d2, f2, hS4⟩ := store3 (.int .i64 0) (.int .i64 0) (.int .u32 0) B3.out
  have B4 := Aside0.mk hS4
  clear hS4
  have q0 := (B4.out.cell 0).trans rfl
  have q1 := (B4.out.cell 1).trans rfl
  have q2 := (B4.out.cell 2).trans rfl
  unfold rootV
  go_wp2_with fail
  go_retc4 (.tuple #[.agg #[.int .i64 0, .int .i64 0, .int .u32 0], .slice none 0 0, .slice none 0 0, .int .i64 24])
  exact ⟨rfl, B4.out.tail⟩
set_option maxHeartbeats 1600000 in
set_option maxRecDepth 100000 in
theorem open_full (h : Sep w0 W (Dsk g las wt :: F)) (hl : las.length = 64 * n) (hn : n ≤ 160) (hw : ∀ i b, wt i = some b → b.length = 64) (hb : ∀ j, Bytes (secF n las wt j)) (h0 : (bestTo n (secF n las wt) 2).2.2 = 4294967295) :
    Calls Tryz.prog 24 #[.pointer (some ⟨g, 0, none⟩)] W fun e w' => e = .returned (.tuple #[.pointer none, .int .i64 24]) ∧ Sep w0 w' (Dsk g las wt :: F) := by
  have H0 := Aside0.mk h
  have HL := Aside0.mk (And.intro hl (And.intro hn (And.intro hw (And.intro hb h0))))
  clear h hl hn hw hb h0
  go_enter Tryz.func24, Tryz.ntmps24
  go_wp2_with fail
  refine (found_full H0.out HL.out.1 HL.out.2.1 HL.out.2.2.1 HL.out.2.2.2.1 HL.out.2.2.2.2).mono ?_
  rintro e w2 ⟨rfl, hS2⟩
  have B2 := Aside0.mk (hS2.alloc (.cells #[.int .i64 0, .int .i64 0, .int .u32 0] 80))
  clear hS2
  go_wp2_with fail
  go_ret2
  exact ⟨by first | rfl | (simp; done), B2.out⟩
end
end Go.Proofs.YtjngnigelkgekaaGreat.Store
