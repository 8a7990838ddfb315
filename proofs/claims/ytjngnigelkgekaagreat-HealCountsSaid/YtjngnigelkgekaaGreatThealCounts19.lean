/- Recs, Frame3, Frame4, StFrame, Redo6, RedoS, RedoT, Redo7: what HealCounts needs. -/
import Derived.Test.YtjngnigelkgekaaGreatThealCounts18
set_option linter.unusedVariables false
set_option linter.unusedSimpArgs false
namespace Go.Proofs.YtjngnigelkgekaaGreat.Frame
open Go.RowKit Go.Proofs.YtjngnigelkgekaaGreatW.PrintWords Go.Proofs.YtjngnigelkgekaaGreatW.PrintLast Go.Proofs.YtjngnigelkgekaaGreatW.PrintMore Go.Proofs.YtjngnigelkgekaaGreat.Kit Go.Proofs.YtjngnigelkgekaaGreat.Base Go.Proofs.YtjngnigelkgekaaGreat.Plain
open Go.Proofs.YtjngnigelkgekaaGreat.Delta (Chg KC undeltaF rawF)
def scanF (b : List Int) (ep : Int) : Nat → Nat → Nat → List (List Int) × Nat
  | 0, at_, _ => ([], at_)
  | f + 1, at_, sq => match readF (b.drop at_) ep (sq : Int) with
    | none => ([], at_)
    | some x => (x :: (scanF b ep f (at_ + (16 + x.length)) (sq + 1)).1, (scanF b ep f (at_ + (16 + x.length)) (sq + 1)).2)
def scanR (b : List Int) (ep : Int) : List (List Int) × Nat := scanF b ep (b.length + 1) 0 0
def longs : List (List Int) → Nat
  | [] => 0
  | x :: t => 16 + x.length + longs t
theorem longs_app : ∀ a b : List (List Int), longs (a ++ b) = longs a + longs b
  | [], b => by simp [longs]
  | x :: t, b => by simp only [List.cons_append, longs, longs_app t b]; omega
theorem longs_len : ∀ a : List (List Int), 16 * a.length ≤ longs a
  | [] => by simp [longs]
  | x :: t => by have := longs_len t; simp only [List.length_cons, longs]; omega
structure ScanAt (b : List Int) (ep : Int) (rs : List (List Int)) (at_ f : Nat) : Prop where
  le : at_ ≤ b.length
  fuel : b.length < at_ + f
  eq : scanR b ep = (rs ++ (scanF b ep f at_ rs.length).1, (scanF b ep f at_ rs.length).2)
  long : longs rs = at_
  bytes : ∀ x ∈ rs, Bytes x
theorem scan_start (b : List Int) (ep : Int) : ScanAt b ep [] 0 (b.length + 1) := ⟨by omega, by omega, by unfold scanR; rfl, rfl, fun x h => by cases h⟩
theorem scan_none {b : List Int} {ep : Int} {rs : List (List Int)} {at_ f : Nat} (h : ScanAt b ep rs at_ f) (hn : readF (b.drop at_) ep (rs.length : Int) = none) : scanR b ep = (rs, at_) := by
  rw [h.eq]
  cases f with
  | zero => simp [scanF]
  | succ f => simp [scanF, hn]
theorem scan_some {b x : List Int} {ep : Int} {rs : List (List Int)} {at_ f : Nat} (h : ScanAt b ep rs at_ f) (hb : Bytes b) (hs : readF (b.drop at_) ep (rs.length : Int) = some x) : ScanAt b ep (rs ++ [x]) (at_ + (16 + x.length)) (f - 1) ∧ 1 ≤ f := by
  have h1 := readF_some hs
  rw [List.length_drop] at h1
  have hf := h.fuel
  have hle := h.le
  cases f with
  | zero => exfalso; omega
  | succ f =>
    refine ⟨⟨by omega, by omega, ?_, ?_, fun y hy => ?_⟩, by omega⟩
    · rw [h.eq, List.length_append, List.length_singleton]
      simp [scanF, hs]
    · rw [longs_app, h.long]; simp [longs]
    · rcases List.mem_append.1 hy with h2 | h2
      · exact h.bytes y h2
      · obtain rfl := List.mem_singleton.1 h2
        exact readF_bytes (hb.drop _) hs
theorem scan_facts_aux (b : List Int) (hb : Bytes b) (ep : Int) : ∀ (f : Nat) (rs : List (List Int)) (at_ : Nat), ScanAt b ep rs at_ f → (∀ x ∈ (scanR b ep).1, Bytes x) ∧ longs (scanR b ep).1 = (scanR b ep).2 ∧ (scanR b ep).2 ≤ b.length
  | 0, rs, at_, h => by have := h.fuel; have := h.le; omega
  | f + 1, rs, at_, h => by
    cases hs : readF (b.drop at_) ep (rs.length : Int) with
    | none => rw [scan_none h hs]; exact ⟨h.bytes, h.long, h.le⟩
    | some x => exact scan_facts_aux b hb ep f _ _ (scan_some h hb hs).1
theorem scan_facts {b : List Int} (hb : Bytes b) (ep : Int) : (∀ x ∈ (scanR b ep).1, Bytes x) ∧ longs (scanR b ep).1 = (scanR b ep).2 ∧ (scanR b ep).2 ≤ b.length := scan_facts_aux b hb ep _ _ _ (scan_start b ep)
def recsF (pages : Int) : List (List Int) → List (List Chg) × Nat
  | [] => ([], 0)
  | b :: t => match undeltaF b pages with
    | none => ([], 0)
    | some x => (x :: (recsF pages t).1, 16 + b.length + (recsF pages t).2)
structure RecAt (pages : Int) (rows : List (List Int)) (out : List (List Chg)) (tot j : Nat) : Prop where
  eq : recsF pages rows = (out ++ (recsF pages (rows.drop j)).1, tot + (recsF pages (rows.drop j)).2)
  long : tot = longs (rows.take j)
  num : out.length = j
theorem rec_start (pages : Int) (rows : List (List Int)) : RecAt pages rows [] 0 0 := ⟨by simp, rfl, rfl⟩
theorem rec_none {pages : Int} {rows : List (List Int)} {out : List (List Chg)} {tot j : Nat} (h : RecAt pages rows out tot j) (hj : j < rows.length) (hu : undeltaF rows[j] pages = none) : recsF pages rows = (out, tot) := by
  rw [h.eq, List.drop_eq_getElem_cons hj]
  simp [recsF, hu]
theorem rec_end {pages : Int} {rows : List (List Int)} {out : List (List Chg)} {tot j : Nat} (h : RecAt pages rows out tot j) (hj : rows.length ≤ j) : recsF pages rows = (out, tot) := by
  rw [h.eq, List.drop_eq_nil_of_le hj]
  simp [recsF]
theorem rec_some {pages : Int} {rows : List (List Int)} {out : List (List Chg)} {tot j : Nat} {x : List Chg} (h : RecAt pages rows out tot j) (hj : j < rows.length) (hu : undeltaF rows[j] pages = some x) : RecAt pages rows (out ++ [x]) (tot + (16 + rows[j].length)) (j + 1) := by
  refine ⟨?_, ?_, ?_⟩
  · rw [h.eq, List.drop_eq_getElem_cons hj]
    simp [recsF, hu]
    omega
  · rw [List.take_add_one, List.getElem?_eq_getElem hj, longs_app, ← h.long]
    simp [longs]
  · rw [List.length_append, List.length_singleton, h.num]
theorem rec_tot {pages : Int} {rows : List (List Int)} {out : List (List Chg)} {tot j : Nat} (h : RecAt pages rows out tot j) : tot ≤ longs rows := by
  have h2 := longs_app (rows.take j) (rows.drop j)
  rw [List.take_append_drop] at h2
  have h3 := h.long
  omega
theorem undelta_bytes {b : List Int} (h : Bytes b) (pages : Int) : ∀ c ∈ (undeltaF b pages).getD [], Bytes c.2 := by
  intro c hc
  unfold undeltaF at hc
  split at hc
  · cases hc
  · split at hc
    · cases hc
    · split at hc
      · simp only [Option.getD_some, rawF, List.mem_map] at hc
        obtain ⟨i, _, rfl⟩ := hc
        exact (h.drop _).take _
      · cases hc
theorem recs_bytes (pages : Int) : ∀ (rows : List (List Int)), (∀ x ∈ rows, Bytes x) → ∀ l ∈ (recsF pages rows).1, ∀ c ∈ l, Bytes c.2
  | [], _, l, hl => by simp [recsF] at hl
  | b :: t, h, l, hl => by
    cases hu : undeltaF b pages with
    | none => simp [recsF, hu] at hl
    | some x =>
      simp only [recsF, hu] at hl
      rcases List.mem_cons.1 hl with rfl | hl
      · have := undelta_bytes (h b (List.mem_cons_self ..)) pages
        rwa [hu] at this
      · exact recs_bytes pages t (fun x hx => h x (List.mem_cons_of_mem _ hx)) l hl
theorem recs_len (pages : Int) : ∀ (rows : List (List Int)), (recsF pages rows).1.length ≤ rows.length ∧ (recsF pages rows).2 ≤ longs rows
  | [] => by simp [recsF, longs]
  | b :: t => by
    have ih := recs_len pages t
    cases hu : undeltaF b pages with
    | none => simp [recsF, hu]
    | some x => simp only [recsF, hu, List.length_cons, longs]; omega
end Go.Proofs.YtjngnigelkgekaaGreat.Frame
namespace Go.Proofs.YtjngnigelkgekaaGreat.Frame
open Go.RowKit Go.Proofs.YtjngnigelkgekaaGreatW.PrintWords Go.Proofs.YtjngnigelkgekaaGreatW.PrintLast Go.Proofs.YtjngnigelkgekaaGreatW.PrintMore Go.Proofs.YtjngnigelkgekaaGreat.Kit Go.Proofs.YtjngnigelkgekaaGreat.Base Go.Proofs.YtjngnigelkgekaaGreat.Plain Go.Proofs.YtjngnigelkgekaaGreat.Root
open Go.Proofs.YtjngnigelkgekaaGreat.Home (K2 infoS)
theorem okR_none {b : List Int} {ep sq : Int} {e : Ending} {w w' : World} (h : readF b ep sq = none) (ho : okR b ep sq e w w') : e = .returned (.tuple #[.slice none 0 0, .int .i64 0, .bool false]) ∧ Below w.heap.size w w' := by
  unfold okR at ho
  rw [h] at ho
  exact ho
theorem okR_some {b x : List Int} {ep sq : Int} {e : Ending} {w w' : World} (h : readF b ep sq = some x) (ho : okR b ep sq e w w') : ∃ v, e = .returned (.tuple #[v, .int .i64 ((16 + x.length : Nat) : Int), .bool true]) ∧ Sep w w' [Row U8 5 v x] := by
  unfold okR at ho
  rw [h] at ho
  exact ho
theorem sc_nums {at_ K n : Nat} (h1 : at_ + K ≤ n) (hn : n ≤ 1000000) : wrap64 ((at_ : Int) + (K : Int)) = (at_ : Int) + (K : Int) ∧ IntKind.i64.wrap ((at_ : Int) + (K : Int)) = (at_ : Int) + (K : Int) := ⟨IntWalk.wrap64_in _ (by omega), by rw [IntKind.wrap_i64]; omega⟩
theorem sc_u32 {k at_ n : Nat} (h : 16 * k ≤ at_) (h2 : at_ ≤ n) (hn : n ≤ 1000000) : IntKind.u32.wrap (k : Int) = (k : Int) ∧ (k + 1) * 24 ≤ 140737488355328 ∧ k < 140737488355328 := ⟨by rw [IntKind.wrap_u32]; omega, by omega, by omega⟩
set_option maxHeartbeats 1600000 in
set_option maxRecDepth 100000 in
theorem fscan_ {A : Option Addr} {n c : Nat} {l : List Int} {w : World} (hr : U8.C w A n l) (hc : n ≤ c) (hb : Bytes l) (hn : n ≤ 1000000) (ep : Int) :
    Calls Tryz.prog 134 #[.slice A n c, .int .u32 ep] w fun e w' => ∃ v, e = .returned (.tuple #[v, .int .i64 ((scanR l ep).2 : Int)]) ∧ Sep w w' [Row K2 24 v (scanR l ep).1] := by
  have HR := Aside0.mk (And.intro hr (And.intro hc hb))
  have HL := Aside0.mk hr.1
  have HN := Aside0.mk hn
  have B0 := Aside0.mk ((Sep.start w).nilRow K2 24)
  have HS := Aside0.mk (scan_start l ep)
  clear hr hc hb hn
  go_enter Tryz.func134, Tryz.ntmps134
  go_wp2_with fail
  go_loopg [6, 7] (l.length + 1) (fun k_ v p wr => ∃ (rs : List (List Int)) (at_ : Nat), p = .int .i64 (at_ : Int) ∧ ScanAt l ep rs at_ k_ ∧ Sep w wr [Row K2 24 v rs])
  case atStart => exact ⟨[], 0, rfl, HS.out, B0.out⟩
  case round =>
    obtain ⟨rs, at_, rfl, hsa, hS⟩ := hrel
    have AS := Aside0.mk hS
    have HSA := Aside0.mk hsa
    obtain ⟨K, hK_⟩ : ∃ K, rs.length = K := ⟨_, rfl⟩
    obtain ⟨A3, c3, rfl⟩ := hS.rowN (n := K) hK_
    have HK := Aside0.mk hK_
    have han : at_ ≤ n := by have := hsa.le; rw [HL.out] at this; exact this
    obtain ⟨hu, hk1, hk2⟩ := sc_u32 (k := K) (by have h1 := longs_len rs; rw [hsa.long, hK_] at h1; exact h1) han HN.out
    have hcut := cutLo Tryz.underlying24 Base.infoB A n c at_ (J := (at_ : Int)) rfl han HR.out.2.1
    have hC := C_lo (a := at_) (c := c) HR.out.1 han HR.out.2.1
    have hC' : U8.C w (if c = at_ then A else A.map (·.add (at_ * 1))) (n - at_) (l.drop at_) := hC
    obtain ⟨AL, hAL⟩ : ∃ AL, (if c = at_ then A else A.map (·.add (at_ * 1))) = AL := ⟨_, rfl⟩
    rw [hAL] at hC'
    simp only [hAL] at hcut
    obtain ⟨M, hM⟩ : ∃ M, n - at_ = M := ⟨_, rfl⟩
    obtain ⟨CM, hCM⟩ : ∃ M, c - at_ = M := ⟨_, rfl⟩
    rw [hM] at hC'
    rw [hM, hCM] at hcut
    have HC := Aside0.mk hC'
    have HM := Aside0.mk (show M ≤ CM ∧ M ≤ 1000000 by have := HN.out; have := HR.out.2.1; omega)
    cases hs : readF (l.drop at_) ep (K : Int) with
    | none =>
      have HV : Aside0 (scanR l ep = (rs, at_)) := ⟨scan_none hsa (by rw [HK.out]; exact hs)⟩
      have HSS := Aside0.mk hs
      clear hS hsa hK_ hC hC' hAL hM hCM hs
      go_wp2_with fail
      refine (fread_ (l := l.drop at_) (Kd.C_below HC.out AS.out.toBelow) HM.out.1 (HR.out.2.2.drop _) HM.out.2 ep (K : Int)).mono ?_
      rintro e w2 ho
      obtain ⟨rfl, hb2⟩ := okR_none HSS.out ho
      have A2 := Aside0.mk (AS.out.below hb2)
      clear ho hb2
      go_wp2_with fail
      go_ret2
      exact ⟨_, by rw [HV.out]; first | rfl | (simp; done), by rw [HV.out]; exact A2.out⟩
    | some x =>
      obtain ⟨hnx, hk⟩ := scan_some hsa HR.out.2.2 (by rw [HK.out]; exact hs)
      have HNX := Aside0.mk hnx
      have HSS := Aside0.mk hs
      have hsz := hnx.le
      obtain ⟨KX, hKX⟩ : ∃ K, 16 + x.length = K := ⟨_, rfl⟩
      rw [hKX, HL.out] at hsz
      obtain ⟨y1, y2⟩ := sc_nums hsz HN.out
      have HKX := Aside0.mk hKX
      clear hS hsa hK_ hC hC' hAL hM hCM hs hnx hKX hsz
      go_wp2_with fail
      refine (fread_ (l := l.drop at_) (Kd.C_below HC.out AS.out.toBelow) HM.out.1 (HR.out.2.2.drop _) HM.out.2 ep (K : Int)).mono ?_
      rintro e w2 ho
      obtain ⟨v2, rfl, hS2⟩ := okR_some HSS.out ho
      rw [HKX.out]
      obtain ⟨A4, c4, rfl⟩ := hS2.rowV
      have L3 := Aside0.mk ((AS.out.lift1 hS2).elSlice.at2)
      clear ho hS2
      go_wp2_with (first | (refine gate_builtin (b := .append) (xs := #[.tmp 27, .tmp 29]) rfl ?_; go_loud (refine L3.out.appendDeep rfl (.tmp 27) (.tmp 29) 49 _ 24 rfl Tryz.underlying49 infoS rfl (by decide) (by decide) rfl rfl (by rw [HK.out]; exact hk1) ?_; intro v6 w6 hs6 hS6; have A6 := Aside0.mk hS6; clear hS6)))
      go_roundg (gk - 1)
      case measure => exact Nat.sub_lt hk Nat.one_pos
      case rel => exact ⟨rs ++ [x], at_ + KX, by go_num, by rw [← HKX.out]; exact HNX.out, A6.out⟩
set_option maxHeartbeats 1600000 in
set_option maxRecDepth 100000 in
theorem rscan_ {A : Option Addr} {n c : Nat} {l : List Int} {w : World} (hr : U8.C w A n l) (hc : n ≤ c) (hb : Bytes l) (hn : n ≤ 1000000) (ep : Int) :
    Calls Tryz.prog 75 #[.slice A n c, .int .u32 ep] w fun e w' => ∃ v, e = .returned (.tuple #[v, .int .i64 ((scanR l ep).2 : Int)]) ∧ Sep w w' [Row K2 24 v (scanR l ep).1] := by
  have HR := Aside0.mk (And.intro hr (And.intro hc hb))
  have HL := Aside0.mk hr.1
  have HN := Aside0.mk hn
  have B0 := Aside0.mk ((Sep.start w).nilRow K2 24)
  have HS := Aside0.mk (scan_start l ep)
  clear hr hc hb hn
  go_enter Tryz.func75, Tryz.ntmps75
  go_wp2_with fail
  go_loopg [6, 7] (l.length + 1) (fun k_ v p wr => ∃ (rs : List (List Int)) (at_ : Nat), p = .int .i64 (at_ : Int) ∧ ScanAt l ep rs at_ k_ ∧ Sep w wr [Row K2 24 v rs])
  case atStart => exact ⟨[], 0, rfl, HS.out, B0.out⟩
  case round =>
    obtain ⟨rs, at_, rfl, hsa, hS⟩ := hrel
    have AS := Aside0.mk hS
    have HSA := Aside0.mk hsa
    obtain ⟨K, hK_⟩ : ∃ K, rs.length = K := ⟨_, rfl⟩
    obtain ⟨A3, c3, rfl⟩ := hS.rowN (n := K) hK_
    have HK := Aside0.mk hK_
    have han : at_ ≤ n := by have := hsa.le; rw [HL.out] at this; exact this
    obtain ⟨hu, hk1, hk2⟩ := sc_u32 (k := K) (by have h1 := longs_len rs; rw [hsa.long, hK_] at h1; exact h1) han HN.out
    have hcut := cutLo Tryz.underlying24 Base.infoB A n c at_ (J := (at_ : Int)) rfl han HR.out.2.1
    have hC := C_lo (a := at_) (c := c) HR.out.1 han HR.out.2.1
    have hC' : U8.C w (if c = at_ then A else A.map (·.add (at_ * 1))) (n - at_) (l.drop at_) := hC
    obtain ⟨AL, hAL⟩ : ∃ AL, (if c = at_ then A else A.map (·.add (at_ * 1))) = AL := ⟨_, rfl⟩
    rw [hAL] at hC'
    simp only [hAL] at hcut
    obtain ⟨M, hM⟩ : ∃ M, n - at_ = M := ⟨_, rfl⟩
    obtain ⟨CM, hCM⟩ : ∃ M, c - at_ = M := ⟨_, rfl⟩
    rw [hM] at hC'
    rw [hM, hCM] at hcut
    have HC := Aside0.mk hC'
    have HM := Aside0.mk (show M ≤ CM ∧ M ≤ 1000000 by have := HN.out; have := HR.out.2.1; omega)
    cases hs : readF (l.drop at_) ep (K : Int) with
    | none =>
      have HV : Aside0 (scanR l ep = (rs, at_)) := ⟨scan_none hsa (by rw [HK.out]; exact hs)⟩
      have HSS := Aside0.mk hs
      clear hS hsa hK_ hC hC' hAL hM hCM hs
      go_wp2_with fail
      refine (rread_ (l := l.drop at_) (Kd.C_below HC.out AS.out.toBelow) HM.out.1 (HR.out.2.2.drop _) HM.out.2 ep (K : Int)).mono ?_
      rintro e w2 ho
      obtain ⟨rfl, hb2⟩ := okR_none HSS.out ho
      have A2 := Aside0.mk (AS.out.below hb2)
      clear ho hb2
      go_wp2_with fail
      go_ret2
      exact ⟨_, by rw [HV.out]; first | rfl | (simp; done), by rw [HV.out]; exact A2.out⟩
    | some x =>
      obtain ⟨hnx, hk⟩ := scan_some hsa HR.out.2.2 (by rw [HK.out]; exact hs)
      have HNX := Aside0.mk hnx
      have HSS := Aside0.mk hs
      have hsz := hnx.le
      obtain ⟨KX, hKX⟩ : ∃ K, 16 + x.length = K := ⟨_, rfl⟩
      rw [hKX, HL.out] at hsz
      obtain ⟨y1, y2⟩ := sc_nums hsz HN.out
      have HKX := Aside0.mk hKX
      clear hS hsa hK_ hC hC' hAL hM hCM hs hnx hKX hsz
      go_wp2_with fail
      refine (rread_ (l := l.drop at_) (Kd.C_below HC.out AS.out.toBelow) HM.out.1 (HR.out.2.2.drop _) HM.out.2 ep (K : Int)).mono ?_
      rintro e w2 ho
      obtain ⟨v2, rfl, hS2⟩ := okR_some HSS.out ho
      rw [HKX.out]
      obtain ⟨A4, c4, rfl⟩ := hS2.rowV
      have L3 := Aside0.mk ((AS.out.lift1 hS2).elSlice.at2)
      clear ho hS2
      go_wp2_with (first | (refine gate_builtin (b := .append) (xs := #[.tmp 27, .tmp 29]) rfl ?_; go_loud (refine L3.out.appendDeep rfl (.tmp 27) (.tmp 29) 49 _ 24 rfl Tryz.underlying49 infoS rfl (by decide) (by decide) rfl rfl (by rw [HK.out]; exact hk1) ?_; intro v6 w6 hs6 hS6; have A6 := Aside0.mk hS6; clear hS6)))
      go_roundg (gk - 1)
      case measure => exact Nat.sub_lt hk Nat.one_pos
      case rel => exact ⟨rs ++ [x], at_ + KX, by go_num, by rw [← HKX.out]; exact HNX.out, A6.out⟩
end Go.Proofs.YtjngnigelkgekaaGreat.Frame
namespace Go.Proofs.YtjngnigelkgekaaGreat.Frame
open Go.RowKit Go.Proofs.YtjngnigelkgekaaGreatW.PrintWords Go.Proofs.YtjngnigelkgekaaGreatW.PrintLast Go.Proofs.YtjngnigelkgekaaGreatW.PrintMore Go.Proofs.YtjngnigelkgekaaGreat.Kit Go.Proofs.YtjngnigelkgekaaGreat.Base Go.Proofs.YtjngnigelkgekaaGreat.Plain Go.Proofs.YtjngnigelkgekaaGreat.Root
def frameF (ep sq : Int) (b : List Int) : List Int :=
  let h := put4 ep ++ put4 sq ++ put4 (b.length : Int) ++ b
  h ++ put4 (sumF h)
theorem put4_len (n : Int) : (put4 n).length = 4 := rfl
theorem frameF_len (ep sq : Int) (b : List Int) : (frameF ep sq b).length = 16 + b.length := by
  simp only [frameF, List.length_append, put4_len]; omega
theorem frameF_bytes (ep sq : Int) {b : List Int} (hb : Bytes b) : Bytes (frameF ep sq b) := by
  unfold frameF
  exact ((((put4_bytes _).app (put4_bytes _)).app (put4_bytes _)).app hb).app (put4_bytes _)
set_option maxHeartbeats 1600000 in
set_option maxRecDepth 100000 in
theorem rframe_ {A : Option Addr} {n c : Nat} {b : List Int} {w : World} (hr : U8.C w A n b) (hn : n ≤ 1000000) {ep sq : Int} (he : 0 ≤ ep ∧ ep ≤ 4294967295) (hs : 0 ≤ sq ∧ sq ≤ 4294967295) :
    Calls Tryz.prog 85 #[.int .u32 ep, .int .u32 sq, .slice A n c] w fun e w' => ∃ v, e = .returned v ∧ Sep w w' [Row U8 5 v (frameF ep sq b)] := by
  have hbl := hr.1
  have HR := Aside0.mk hr
  have HS := Aside0.mk hs
  have HE := Aside0.mk he
  have HBL := Aside0.mk hbl
  have HN := Aside0.mk hn
  have hu : IntKind.u32.wrap (n : Int) = (n : Int) := by rw [IntKind.wrap_u32]; omega
  have HU : Aside0 (0 ≤ (n : Int) ∧ (n : Int) ≤ 4294967295) := ⟨by omega⟩
  clear hr hs he hbl hn
  go_enter Tryz.func85, Tryz.ntmps85
  go_wp2_with fail
  refine (rput_ (n := 0) (c := 0) (l := []) (m := ep) (Kd.C_nil _ _) HE.out (by decide)).mono ?_
  rintro e w1 ⟨v1, rfl, hS1⟩
  obtain ⟨A1, c1, rfl⟩ := hS1.rowN (n := 4) rfl
  have B1 := Aside0.mk hS1
  clear hS1
  go_wp2_with fail
  refine (rput_ (m := sq) B1.out.rowC' HS.out (by decide)).mono ?_
  rintro e w2 ⟨v2, rfl, hS2⟩
  have B2 := Aside0.mk (B1.out.lift1 hS2)
  obtain ⟨A2, c2, rfl⟩ := hS2.rowN (n := 8) rfl
  clear hS2
  go_wp2_with fail
  refine (rput_ (m := (n : Int)) B2.out.rowC' HU.out (by decide)).mono ?_
  rintro e w3 ⟨v3, rfl, hS3⟩
  have B3 := Aside0.mk (B2.out.lift1 hS3)
  obtain ⟨A3, c3, rfl⟩ := hS3.rowN (n := 12) rfl
  clear hS3
  go_wp2_with (first | (refine gate_builtin (b := .append) (xs := #[.tmp 15, .tmp 16]) rfl ?_; go_loud (refine B3.out.appendRow rfl (.tmp 15) (.tmp 16) 24 (.int .u8 0) 1 rfl Tryz.underlying24 Base.infoB rfl (by decide) A n c rfl rfl (Kd.C_below HR.out B3.out.toBelow) (by have := HN.out; have := HBL.out; simp only [List.length_append, put4_len, List.length_nil]; omega) ?_; intro v4 w4 hS4; have B4 := Aside0.mk hS4; clear hS4)))
  obtain ⟨h, hh⟩ : ∃ h, ([] ++ put4 ep ++ put4 sq ++ put4 (n : Int)) ++ b = h := ⟨_, rfl⟩
  have HH : Aside0 (frameF ep sq b = h ++ put4 (sumF h)) := ⟨by rw [← hh]; unfold frameF; rw [HBL.out]; rfl⟩
  have HHL : Aside0 (h.length = 12 + n) := ⟨by rw [← hh]; simp only [List.length_append, put4_len, List.length_nil, HBL.out]⟩
  rw [hh] at B4
  obtain ⟨N, hN⟩ : ∃ N, 12 + n = N := ⟨_, rfl⟩
  rw [hN] at HHL
  have HN2 : Aside0 (N ≤ 1000012) := ⟨by have := HN.out; omega⟩
  obtain ⟨A4, c4, rfl⟩ := B4.out.rowN HHL.out
  have B5 := Aside0.mk B4.out
  clear hh hN hu
  go_wp2_with fail
  refine (rsum_ (l := h) B4.out.rowC').mono ?_
  rintro e w5 ⟨rfl, rfl⟩
  go_wp2_with fail
  refine (rput_ (m := sumF h) B4.out.rowC' (Sum.sumF_in _) (by have := HN2.out; omega)).mono ?_
  rintro e w6 ⟨v6, rfl, hS6⟩
  have B6 := Aside0.mk (B4.out.lift1 hS6)
  clear hS6
  go_wp2_with fail
  go_ret
  exact ⟨_, by first | rfl | (simp; done), by rw [HH.out]; exact B6.out.drop2.drop2.drop2⟩
end Go.Proofs.YtjngnigelkgekaaGreat.Frame
namespace Go.Proofs.YtjngnigelkgekaaGreat.Frame
open Go.RowKit Go.Proofs.YtjngnigelkgekaaGreatW.PrintWords Go.Proofs.YtjngnigelkgekaaGreatW.PrintLast Go.Proofs.YtjngnigelkgekaaGreatW.PrintMore Go.Proofs.YtjngnigelkgekaaGreat.Kit Go.Proofs.YtjngnigelkgekaaGreat.Base Go.Proofs.YtjngnigelkgekaaGreat.Plain Go.Proofs.YtjngnigelkgekaaGreat.Root
set_option maxHeartbeats 1600000 in
set_option maxRecDepth 100000 in
theorem fbytes_ {A : Option Addr} {n c : Nat} {b : List Int} {w : World} (hr : U8.C w A n b) (hn : n ≤ 1000000) {ep sq : Int} (he : 0 ≤ ep ∧ ep ≤ 4294967295) (hs : 0 ≤ sq ∧ sq ≤ 4294967295) :
    Calls Tryz.prog 71 #[.int .u32 ep, .int .u32 sq, .slice A n c] w fun e w' => ∃ v, e = .returned v ∧ Sep w w' [Row U8 5 v (frameF ep sq b)] := by
  have hbl := hr.1
  have HR := Aside0.mk hr
  have HS := Aside0.mk hs
  have HE := Aside0.mk he
  have HBL := Aside0.mk hbl
  have HN := Aside0.mk hn
  have hu : IntKind.u32.wrap (n : Int) = (n : Int) := by rw [IntKind.wrap_u32]; omega
  have HU : Aside0 (0 ≤ (n : Int) ∧ (n : Int) ≤ 4294967295) := ⟨by omega⟩
  clear hr hs he hbl hn
  go_enter Tryz.func71, Tryz.ntmps71
  go_wp2_with fail
  refine (Sum.put_ (n := 0) (c := 0) (l := []) (m := ep) (Kd.C_nil _ _) HE.out (by decide)).mono ?_
  rintro e w1 ⟨v1, rfl, hS1⟩
  obtain ⟨A1, c1, rfl⟩ := hS1.rowN (n := 4) rfl
  have B1 := Aside0.mk hS1
  clear hS1
  go_wp2_with fail
  refine (Sum.put_ (m := sq) B1.out.rowC' HS.out (by decide)).mono ?_
  rintro e w2 ⟨v2, rfl, hS2⟩
  have B2 := Aside0.mk (B1.out.lift1 hS2)
  obtain ⟨A2, c2, rfl⟩ := hS2.rowN (n := 8) rfl
  clear hS2
  go_wp2_with fail
  refine (Sum.put_ (m := (n : Int)) B2.out.rowC' HU.out (by decide)).mono ?_
  rintro e w3 ⟨v3, rfl, hS3⟩
  have B3 := Aside0.mk (B2.out.lift1 hS3)
  obtain ⟨A3, c3, rfl⟩ := hS3.rowN (n := 12) rfl
  clear hS3
  go_wp2_with (first | (refine gate_builtin (b := .append) (xs := #[.tmp 16, .tmp 17]) rfl ?_; go_loud (refine B3.out.appendRow rfl (.tmp 16) (.tmp 17) 24 (.int .u8 0) 1 rfl Tryz.underlying24 Base.infoB rfl (by decide) A n c rfl rfl (Kd.C_below HR.out B3.out.toBelow) (by have := HN.out; have := HBL.out; simp only [List.length_append, put4_len, List.length_nil]; omega) ?_; intro v4 w4 hS4; have B4 := Aside0.mk hS4; clear hS4)))
  obtain ⟨h, hh⟩ : ∃ h, ([] ++ put4 ep ++ put4 sq ++ put4 (n : Int)) ++ b = h := ⟨_, rfl⟩
  have HH : Aside0 (frameF ep sq b = h ++ put4 (sumF h)) := ⟨by rw [← hh]; unfold frameF; rw [HBL.out]; rfl⟩
  have HHL : Aside0 (h.length = 12 + n) := ⟨by rw [← hh]; simp only [List.length_append, put4_len, List.length_nil, HBL.out]⟩
  rw [hh] at B4
  obtain ⟨N, hN⟩ : ∃ N, 12 + n = N := ⟨_, rfl⟩
  rw [hN] at HHL
  have HN2 : Aside0 (N ≤ 1000012) := ⟨by have := HN.out; omega⟩
  obtain ⟨A4, c4, rfl⟩ := B4.out.rowN HHL.out
  have B5 := Aside0.mk B4.out
  clear hh hN hu
  go_wp2_with fail
  refine (Sum.of_ (l := h) B4.out.rowC').mono ?_
  rintro e w5 ⟨rfl, rfl⟩
  go_wp2_with fail
  refine (Sum.put_ (m := sumF h) B4.out.rowC' (Sum.sumF_in _) (by have := HN2.out; omega)).mono ?_
  rintro e w6 ⟨v6, rfl, hS6⟩
  have B6 := Aside0.mk (B4.out.lift1 hS6)
  clear hS6
  go_wp2_with fail
  go_ret
  exact ⟨_, by first | rfl | (simp; done), by rw [HH.out]; exact B6.out.drop2.drop2.drop2⟩
end Go.Proofs.YtjngnigelkgekaaGreat.Frame
namespace Go.Proofs.YtjngnigelkgekaaGreat.Redo
open Go.RowKit Go.Proofs.YtjngnigelkgekaaGreatW.PrintWords Go.Proofs.YtjngnigelkgekaaGreatW.PrintLast Go.Proofs.YtjngnigelkgekaaGreatW.PrintMore Go.Proofs.YtjngnigelkgekaaGreat.Kit Go.Proofs.YtjngnigelkgekaaGreat.Plain Go.Proofs.YtjngnigelkgekaaGreat.Disk Go.Proofs.YtjngnigelkgekaaGreat.Root Go.Proofs.YtjngnigelkgekaaGreat.Frame
open Go.Proofs.YtjngnigelkgekaaGreat.Home (K2)
open Go.Proofs.YtjngnigelkgekaaGreat.Delta (Chg KC undeltaF)
abbrev K3 : Kd (List Chg) := Kd.slice 75 KC
theorem infoK : (Tryz.prog.info? 60).map (fun i => (i.zero, i.size, i.bytes)) = some (some (.slice none 0 0), 1, 24) := by kernel_rfl
theorem slice_at {β : Type} {e : Nat} {d : Kd β} {W : World} {A : Option Addr} {n : Nat} {l : List (List β)} (h : (Kd.slice e d).C W A n l) {j : Nat} (hj : j < n) : ∃ (hx : j < l.length) (ad : Addr) (B : Option Addr) (c : Nat), A = some ad ∧ W.cell? (ad.add j) = some (.slice B (l[j]).length c) ∧ (l[j]).length ≤ c ∧ d.C W B (l[j]).length l[j] := by
  obtain ⟨hx, ad, cs, he, hk, hc0, _⟩ := elem_ h hj
  obtain ⟨B, c, hcs, hmc, hC⟩ := hk
  subst hcs
  have := hc0 _ rfl
  rw [show j * (Kd.slice e d).sz = j from Nat.mul_one j] at this
  exact ⟨hx, ad, B, c, he, this, hmc, hC⟩
def recR (n : Nat) (las : List Int) (wt : Wt) (a b c : Int) : List (List Chg) × Nat := recsF b (scanR (logF n las wt a b c) c).1
theorem rc_nums {t x n T2 : Nat} (h : t + (16 + x) ≤ n) (hn : n ≤ 1000000) (hT : t + (16 + x) = T2) : wrap64 ((t : Int) + 16) = (t : Int) + 16 ∧ wrap64 ((t : Int) + 16 + (x : Int)) = (T2 : Int) ∧ ∃ X : Nat, wrap64 (16 + (x : Int)) = (X : Int) ∧ wrap64 ((t : Int) + (X : Int)) = (T2 : Int) :=
  ⟨IntWalk.wrap64_in _ (by omega), by rw [IntWalk.wrap64_in _ (by omega)]; omega, 16 + x, by rw [IntWalk.wrap64_in _ (by omega)]; omega, by rw [IntWalk.wrap64_in _ (by omega)]; omega⟩
theorem long_at {rows : List (List Int)} {j : Nat} (h : j < rows.length) : 16 + rows[j].length ≤ longs rows := by
  have h2 := longs_app (rows.take j) (rows.drop j)
  rw [List.take_append_drop, List.drop_eq_getElem_cons h] at h2
  simp only [longs] at h2
  omega
theorem dread_none {A : Option Addr} {n c : Nat} {b : List Int} {w : World} {pages : Int} (hu : undeltaF b pages = none) (hr : (Kd.int .u8).C w A n b) (hc : n ≤ c) (hb : Bytes b) (hl : n ≤ 1000000) :
    Calls Tryz.prog 136 #[.slice A n c, .int .i64 pages] w fun e w' => ∃ v, e = .returned (.tuple #[v, .bool false]) ∧ Below w.heap.size w w' := by
  refine (Delta.read_ hr hc hb hl pages).mono ?_
  rintro e w' ⟨v, rfl, hS⟩
  rw [hu]
  exact ⟨v, rfl, hS.toBelow⟩
theorem dread_some {A : Option Addr} {n c : Nat} {b : List Int} {w : World} {pages : Int} {x : List Chg} (hu : undeltaF b pages = some x) (hr : (Kd.int .u8).C w A n b) (hc : n ≤ c) (hb : Bytes b) (hl : n ≤ 1000000) :
    Calls Tryz.prog 136 #[.slice A n c, .int .i64 pages] w fun e w' => ∃ v, e = .returned (.tuple #[v, .bool true]) ∧ Sep w w' [Row KC 75 v x] := by
  refine (Delta.read_ hr hc hb hl pages).mono ?_
  rintro e w' ⟨v, rfl, hS⟩
  rw [hu] at hS ⊢
  exact ⟨v, rfl, hS⟩
theorem log_len {n : Nat} {las : List Int} {wt : Wt} (hl : las.length = 64 * n) (hn : n ≤ 160) (hw : ∀ i b, wt i = some b → b.length = 64) (a b c : Int) : (logF n las wt a b c).length ≤ 10240 := by
  unfold logF
  cases hr : rightR a b c n with
  | false => simp
  | true =>
    have h1 := of_decide_eq_true hr
    rw [if_pos rfl, secs_len (fun i hi => by rw [secF_len hl hw, if_pos (by omega)])]
    omega
section
variable {w0 W : World} {F : List HP} {g n : Nat} {las : List Int} {wt : Wt}
set_option maxHeartbeats 1600000 in
set_option maxRecDepth 100000 in
theorem records_ (h : Sep w0 W (Dsk g las wt :: F)) (hl : las.length = 64 * n) (hn : n ≤ 160) (hw : ∀ i b, wt i = some b → b.length = 64) (a b c : Int) (hb : Bytes (logF n las wt a b c)) :
    Calls Tryz.prog 124 #[.pointer (some ⟨g, 0, none⟩), .agg #[.int .i64 a, .int .i64 b, .int .u32 c]] W fun e w' => ∃ v, e = .returned (.tuple #[v, .int .i64 ((recR n las wt a b c).2 : Int)]) ∧ Sep w0 w' (Row K3 60 v (recR n las wt a b c).1 :: Dsk g las wt :: F) := by
  have A0 := Aside0.mk (h.newBlk 80 #[.int .i64 a, .int .i64 b, .int .u32 c]).drew
  have HL := Aside0.mk (And.intro hl (And.intro hw (And.intro (log_len hl hn hw a b c) hb)))
  clear h hl hw hb hn
  go_enter Tryz.func124, Tryz.ntmps124
  go_wp2_with fail
  refine start_ (n := 11) (S := fun w' => w'.cell? ⟨W.heap.size, 0, none⟩ = some (.int .i64 a) ∧ w'.cell? ⟨W.heap.size, 1, none⟩ = some (.int .i64 b) ∧ w'.cell? ⟨W.heap.size, 2, none⟩ = some (.int .u32 c)) (ds := []) #[false, false, false, false, false, false, false, false, false, false, false] (by kernel_rfl) rfl rfl ⟨(A0.out.cell 0).trans rfl, (A0.out.cell 1).trans rfl, (A0.out.cell 2).trans rfl⟩ (fun hHeld => ?_)
  refine pure_ (i := 0) (N := some 15) (v := ?_) (a' := ?_) #[true, false, false, false, false, false, false, false, false, false, false] rfl rfl (by kernel_rfl) (fun _ _ _ h => h) (Or.inl ⟨by rfl, ?_⟩) ?_ ?_
  rotate_left
  · intro w'
    go_simp
    with_reducible rfl
  rotate_left
  · simp only [Act.put, sIB, sCz, sCs, i64_w, i32_w]
    rfl
  refine pure_ (i := 3) (N := some 18) (v := ?_) (a' := ?_) #[true, false, false, true, false, false, false, false, false, false, false] rfl rfl (by kernel_rfl) (fun _ _ _ h => h) (Or.inl ⟨by rfl, ?_⟩) ?_ ?_
  rotate_left
  · intro w'
    go_simp
    with_reducible rfl
  rotate_left
  · simp only [Act.put, sIB, sCz, sCs, i64_w, i32_w]
    rfl
  refine take_ (i := 1) (N := some 16) (v := ?_) (a' := ?_) #[true, true, false, true, false, false, false, false, false, false, false] rfl rfl (by kernel_rfl) (fun _ _ _ h => h) (Or.inl ⟨by rfl, ?_⟩) hHeld ?_ ?_
  rotate_left
  · rintro w' ⟨s0, s1, s2⟩
    go_simp
    with_reducible rfl
  rotate_left
  · simp only [Act.put, sIB, sCz, sCs, i64_w, i32_w]
    rfl
  refine take_ (i := 4) (N := some 19) (v := ?_) (a' := ?_) #[true, true, false, true, true, false, false, false, false, false, false] rfl rfl (by kernel_rfl) (fun _ _ _ h => h) (Or.inl ⟨by rfl, ?_⟩) hHeld ?_ ?_
  rotate_left
  · rintro w' ⟨s0, s1, s2⟩
    go_simp
    with_reducible rfl
  rotate_left
  · simp only [Act.put, sIB, sCz, sCs, i64_w, i32_w]
    rfl
  refine one_ (i := 2) (N := some 17) #[true, true, true, true, true, false, false, false, false, false, false] rfl rfl (by kernel_rfl) (by decide) (fun K hK => ?_)
  refine goes_ Tryz.func135 (by kernel_rfl) rfl #[.pointer (some ⟨g, 0, none⟩), .agg #[.int .i64 a, .int .i64 b, .int .u32 c]] (by rfl) rfl rfl (by simp only [List.map_toArray, List.map_cons, List.map_nil]; rfl) ?_
  with_reducible refine (bytes_ A0.out.at2 HL.out.1 HL.out.2.1 a b c).mono ?_
  rintro e w3 ⟨v3, rfl, hS3⟩
  refine ⟨_, rfl, ?_⟩
  obtain ⟨A3, c3, rfl⟩ := hS3.rowV
  have B3 := Aside0.mk hS3
  clear hS3
  refine hK.out _ _ ⟨(B3.out.at3.cell 0).trans rfl, (B3.out.at3.cell 1).trans rfl, (B3.out.at3.cell 2).trans rfl⟩ (fun hHeld => ?_)
  clear hK K
  refine norm_ (a' := ?_) ?_ ?_
  rotate_left
  · show Act.put _ (some 17) _ = _
    simp only [Act.put, sIB, sCz, sCs, i64_w, i32_w]
    rfl
  refine one_ (i := 5) (N := some 20) #[true, true, true, true, true, true, false, false, false, false, false] rfl rfl (by kernel_rfl) (by decide) (fun K hK => ?_)
  refine goes_ Tryz.func134 (by kernel_rfl) rfl #[.slice A3 (logF n las wt a b c).length c3, .int .u32 c] (by rfl) rfl rfl (by simp only [List.map_toArray, List.map_cons, List.map_nil]; rfl) ?_
  with_reducible refine (fscan_ B3.out.rowC' B3.out.rowC.2.1 HL.out.2.2.2 (by have := HL.out.2.2.1; omega) c).mono ?_
  rintro e w4 ⟨v4, rfl, hS4⟩
  refine ⟨_, rfl, ?_⟩
  have B4 := Aside0.mk (B3.out.lift1 hS4)
  clear hS4
  refine hK.out _ _ ⟨(B4.out.at4.cell 0).trans rfl, (B4.out.at4.cell 1).trans rfl, (B4.out.at4.cell 2).trans rfl⟩ (fun hHeld => ?_)
  clear hK K
  refine norm_ (a' := ?_) ?_ ?_
  rotate_left
  · show Act.put _ (some 20) _ = _
    simp only [Act.put, sIB, sCz, sCs, i64_w, i32_w]
    rfl
  refine pure_ (i := 6) (N := some 14) (v := ?_) (a' := ?_) #[true, true, true, true, true, true, true, false, false, false, false] rfl rfl (by kernel_rfl) (fun _ _ _ h => h) (Or.inl ⟨by rfl, ?_⟩) ?_ ?_
  rotate_left
  · intro w'
    go_simp
    with_reducible rfl
  rotate_left
  · simp only [Act.put, sIB, sCz, sCs, i64_w, i32_w]
    rfl
  refine pure_ (i := 7) (N := some 21) (v := ?_) (a' := ?_) #[true, true, true, true, true, true, true, true, false, false, false] rfl rfl (by kernel_rfl) (fun _ _ _ h => h) (Or.inl ⟨by rfl, ?_⟩) ?_ ?_
  rotate_left
  · intro w'
    go_simp
    with_reducible rfl
  rotate_left
  · simp only [Act.put, sIB, sCz, sCs, i64_w, i32_w]
    rfl
  refine pure_ (i := 8) (N := some 22) (v := ?_) (a' := ?_) #[true, true, true, true, true, true, true, true, true, false, false] rfl rfl (by kernel_rfl) (fun _ _ _ h => h) (Or.inl ⟨by rfl, ?_⟩) ?_ ?_
  rotate_left
  · intro w'
    go_simp
    with_reducible rfl
  rotate_left
  · simp only [Act.put, sIB, sCz, sCs, i64_w, i32_w]
    rfl
  refine pure_ (i := 9) (N := some 6) (v := ?_) (a' := ?_) #[true, true, true, true, true, true, true, true, true, true, false] rfl rfl (by kernel_rfl) (fun _ _ _ h => h) (Or.inl ⟨by rfl, ?_⟩) ?_ ?_
  rotate_left
  · intro w'
    go_simp
    with_reducible rfl
  rotate_left
  · simp only [Act.put, sIB, sCz, sCs, i64_w, i32_w]
    rfl
  refine pure_ (i := 10) (N := some 7) (v := ?_) (a' := ?_) #[true, true, true, true, true, true, true, true, true, true, true] rfl rfl (by kernel_rfl) (fun _ _ _ h => h) (Or.inl ⟨by rfl, ?_⟩) ?_ ?_
  rotate_left
  · intro w'
    go_simp
    with_reducible rfl
  rotate_left
  · simp only [Act.put, sIB, sCz, sCs, i64_w, i32_w]
    rfl
  refine done_ (by kernel_rfl) ?_
  have HSF := Aside0.mk (scan_facts HL.out.2.2.2 c)
  obtain ⟨rows, hrows⟩ : ∃ r, (scanR (logF n las wt a b c) c).1 = r := ⟨_, rfl⟩
  have HR : Aside0 (recR n las wt a b c = recsF b rows) := ⟨by unfold recR; rw [hrows]⟩
  have HLG : Aside0 (longs rows ≤ 10240) := ⟨by rw [← hrows, HSF.out.2.1]; exact Nat.le_trans HSF.out.2.2 HL.out.2.2.1⟩
  have HBR : Aside0 (∀ x ∈ rows, Bytes x) := ⟨by rw [← hrows]; exact HSF.out.1⟩
  rw [hrows] at B4
  obtain ⟨N, hN⟩ : ∃ N, rows.length = N := ⟨_, rfl⟩
  have HN := Aside0.mk hN
  obtain ⟨A4, c4, rfl⟩ := B4.out.rowN (n := N) hN
  have B5 := Aside0.mk (B4.out.nilRow K3 60)
  have hN2 : N ≤ 10240 := by have := longs_len rows; have := HLG.out; omega
  clear hrows hN
  go_wp2_with fail
  go_loopg [8, 9, 25] N (fun k_ v s p wr => ∃ (out : List (List Chg)) (tot j : Nat), s = .int .i64 (tot : Int) ∧ p = .int .i64 (j : Int) ∧ j + k_ = N ∧ RecAt b rows out tot j ∧ Sep w0 wr (Row K3 60 v out :: Row K2 24 (.slice A4 N c4) rows :: Row U8 5 (.slice A3 (logF n las wt a b c).length c3) (logF n las wt a b c) :: Dsk g las wt :: Blk W.heap.size 80 #[.int .i64 a, .int .i64 b, .int .u32 c] :: F))
  case atStart => exact ⟨[], 0, 0, rfl, rfl, by omega, rec_start b rows, B5.out⟩
  case round =>
    obtain ⟨out, tot, j, rfl, rfl, hjm, hra, hS⟩ := hrel
    have AK := Aside0.mk hjm
    have AS := Aside0.mk hS
    have HRA := Aside0.mk hra
    obtain ⟨A6, c6, rfl⟩ := hS.rowN (n := j) hra.num
    clear hS hra
    by_cases cj : j < N
    case neg =>
      obtain rfl : j = N := by omega
      have hjl : ¬ (j : Int) < (j : Int) := by omega
      have HV : Aside0 (recR n las wt a b c = (out, tot)) := ⟨HR.out.trans (rec_end HRA.out (by rw [HN.out]; exact Nat.le_refl _))⟩
      clear hjm cj
      go_wp2_with fail
      go_ret2
      exact ⟨_, by rw [HV.out]; first | rfl | (simp; done), by rw [HV.out]; exact AS.out.drop2.drop2.at3.tail⟩
    case pos =>
    have hjl : (j : Int) < (N : Int) := by omega
    obtain ⟨hx, ad, B, cB, rfl, hcell, hlc, hCB⟩ := slice_at AS.out.at2.rowC' cj
    have z0 := (AS.out.at5.cell 0).trans rfl
    have z1 := (AS.out.at5.cell 1).trans rfl
    have z2 := (AS.out.at5.cell 2).trans rfl
    obtain ⟨XL, hXL⟩ : ∃ L, rows[j].length = L := ⟨_, rfl⟩
    rw [hXL] at hcell hlc hCB
    have hbx := HBR.out _ (List.getElem_mem hx)
    have hla := long_at hx
    rw [hXL] at hla
    have HX := Aside0.mk (And.intro hlc (And.intro hCB (And.intro hbx (show XL ≤ 1000000 by have := HLG.out; omega))))
    cases hu : undeltaF rows[j] b with
    | none =>
      have HU := Aside0.mk hu
      have HV : Aside0 (recR n las wt a b c = (out, tot)) := ⟨HR.out.trans (rec_none HRA.out hx hu)⟩
      clear hjm hu hla hXL hlc hCB hbx
      go_wp2_with fail
      refine (dread_none HU.out HX.out.2.1 HX.out.1 HX.out.2.2.1 HX.out.2.2.2).mono ?_
      rintro e w6 ⟨v6, rfl, hb6⟩
      have B6 := Aside0.mk (AS.out.below hb6)
      clear hb6
      go_wp2_with fail
      go_ret2
      exact ⟨_, by rw [HV.out]; first | rfl | (simp; done), by rw [HV.out]; exact B6.out.drop2.drop2.at3.tail⟩
    | some x =>
      have HU := Aside0.mk hu
      have hra2 := rec_some HRA.out hx hu
      have hrt := rec_tot hra2
      rw [hXL] at hra2 hrt
      obtain ⟨T2, hT2⟩ : ∃ T, tot + (16 + XL) = T := ⟨_, rfl⟩
      obtain ⟨y1, y2, X16, y3, y4⟩ := rc_nums (t := tot) (x := XL) (n := 10240) (Nat.le_trans hrt HLG.out) (by decide) hT2
      rw [hT2] at hra2
      have HR2 := Aside0.mk hra2
      have hj2 : (j + 1) * 24 ≤ 140737488355328 := by omega
      have HJ2 := Aside0.mk hj2
      clear hjm hu hla hXL hlc hCB hbx hra2 hrt hj2 hT2
      go_wp2_with fail
      refine (dread_some HU.out HX.out.2.1 HX.out.1 HX.out.2.2.1 HX.out.2.2.2).mono ?_
      rintro e w6 ⟨v6, rfl, hS6⟩
      have L6 := Aside0.mk ((AS.out.lift1 hS6).elSlice.at2)
      obtain ⟨A7, c7, rfl⟩ := hS6.rowV
      clear hS6
      go_wp2_with (first | (refine gate_builtin (b := .append) (xs := #[.tmp 38, .tmp 40]) rfl ?_; go_loud (refine L6.out.appendDeep rfl (.tmp 38) (.tmp 40) 124 _ 24 rfl Tryz.underlying124 infoK rfl (by decide) (by decide) rfl rfl (by rw [HRA.out.num]; exact HJ2.out) ?_; intro v8 w8 hs8 hS8; have B8 := Aside0.mk hS8; clear hS8)))
      go_roundg (gk - 1)
      case measure => have := AK.out; omega
      case rel => exact ⟨out ++ [x], T2, j + 1, by go_num, by go_num, by have := AK.out; omega, HR2.out, B8.out⟩
end
end Go.Proofs.YtjngnigelkgekaaGreat.Redo
namespace Go.Proofs.YtjngnigelkgekaaGreat.Redo
open Go.RowKit Go.Proofs.YtjngnigelkgekaaGreatW.PrintWords Go.Proofs.YtjngnigelkgekaaGreatW.PrintLast Go.Proofs.YtjngnigelkgekaaGreatW.PrintMore Go.Proofs.YtjngnigelkgekaaGreat.Kit Go.Proofs.YtjngnigelkgekaaGreat.Plain Go.Proofs.YtjngnigelkgekaaGreat.Disk Go.Proofs.YtjngnigelkgekaaGreat.Root
def appI (las : List Int) (wt : Wt) (at_ : Nat) (b : List Int) (i : Nat) : Wt := fun j => if j < 2 + i then appW las wt at_ b j else wt j
theorem appI_zero (las : List Int) (wt : Wt) (at_ : Nat) (b : List Int) : appI las wt at_ b 0 = wt := by
  funext j
  unfold appI appW
  by_cases h : j < 2 + 0
  · rw [if_pos h, if_neg (by omega)]
  · rw [if_neg h]
theorem appI_no {las : List Int} {wt : Wt} {at_ i : Nat} {b : List Int} (h : ¬ (b ≠ [] ∧ 64 * i < at_ + b.length ∧ at_ < 64 * (i + 1))) : appI las wt at_ b (i + 1) = appI las wt at_ b i := by
  funext j
  unfold appI
  by_cases h1 : j < 2 + i
  · rw [if_pos h1, if_pos (by omega)]
  · rw [if_neg h1]
    by_cases h2 : j < 2 + (i + 1)
    · rw [if_pos h2]
      unfold appW
      exact if_neg (fun h3 => h ⟨h3.1, by omega, by omega⟩)
    · rw [if_neg h2]
theorem appI_yes {las : List Int} {wt : Wt} {at_ i : Nat} {b : List Int} (h : b ≠ [] ∧ 64 * i < at_ + b.length ∧ at_ < 64 * (i + 1)) : appI las wt at_ b (i + 1) = fun j => if j = 2 + i then some (sec (over (flushed las wt) (128 + at_) b) (2 + i)) else appI las wt at_ b i j := by
  funext j
  unfold appI
  by_cases h1 : j < 2 + i
  · rw [if_pos (by omega), if_neg (by omega), if_pos h1]
  · by_cases h2 : j = 2 + i
    · subst h2
      rw [if_pos (by omega), if_pos rfl]
      unfold appW
      exact if_pos ⟨h.1, by omega, by omega⟩
    · rw [if_neg (by omega), if_neg h2, if_neg h1]
theorem appI_all {las : List Int} {wt : Wt} {at_ a : Nat} {b : List Int} (h : at_ + b.length ≤ 64 * a) : appI las wt at_ b a = appW las wt at_ b := by
  funext j
  unfold appI
  by_cases h1 : j < 2 + a
  · rw [if_pos h1]
  · rw [if_neg h1]
    unfold appW
    rw [if_neg (by omega)]
theorem appI_nil {las : List Int} {wt : Wt} {at_ i : Nat} : appI las wt at_ [] i = wt := by
  funext j
  unfold appI
  rw [appW_nil]
  split <;> rfl
theorem cut_over {G b : List Int} {at_ N : Nat} (h : 128 + at_ + b.length ≤ N) (hG : N ≤ G.length) : over ((G.take N).drop 128) at_ b = ((over G (128 + at_) b).take N).drop 128 := by
  apply List.ext_getElem?
  intro j
  rw [over_get (by rw [List.length_drop, List.length_take]; omega), List.getElem?_drop, List.getElem?_take, List.getElem?_drop, List.getElem?_take, over_get (by omega)]
  by_cases h1 : at_ ≤ j ∧ j < at_ + b.length
  · rw [if_pos h1, if_pos (by omega), if_pos (by omega), show 128 + j - (128 + at_) = j - at_ by omega]
  · rw [if_neg h1, if_neg (show ¬ (128 + at_ ≤ 128 + j ∧ 128 + j < 128 + at_ + b.length) by omega)]
theorem sec_cut {X : List Int} {i a : Nat} (h : i < a) (hX : 64 * (2 + a) ≤ X.length) : sec ((X.take (64 * (2 + a))).drop 128) i = sec X (2 + i) := by
  apply List.ext_getElem?
  intro j
  by_cases hj : j < 64
  · rw [sec_get _ _ _ hj, sec_get _ _ _ hj, List.getElem?_drop, List.getElem?_take, if_pos (by omega)]
    congr 1
    omega
  · rw [List.getElem?_eq_none (by unfold sec; rw [List.length_take]; omega), List.getElem?_eq_none (by unfold sec; rw [List.length_take]; omega)]
theorem sec_log {G b : List Int} {at_ i a : Nat} (h : at_ + b.length ≤ 64 * a) (hG : 64 * (2 + a) ≤ G.length) (hi : i < a) : sec (over ((G.take (64 * (2 + a))).drop 128) at_ b) i = sec (over G (128 + at_) b) (2 + i) := by
  rw [cut_over (by omega) hG]
  exact sec_cut hi (by rw [over_len (by omega)]; exact hG)
theorem mid_sec (l : List Int) (i : Nat) : (l.take (64 * i + 64)).drop (64 * i) = sec l i := by
  unfold sec
  rw [List.drop_take]
  congr 1
  omega
end Go.Proofs.YtjngnigelkgekaaGreat.Redo
namespace Go.Proofs.YtjngnigelkgekaaGreat.Redo
open Go.RowKit Go.Proofs.YtjngnigelkgekaaGreatW.PrintWords Go.Proofs.YtjngnigelkgekaaGreatW.PrintLast Go.Proofs.YtjngnigelkgekaaGreatW.PrintMore Go.Proofs.YtjngnigelkgekaaGreat.Kit Go.Proofs.YtjngnigelkgekaaGreat.Plain Go.Proofs.YtjngnigelkgekaaGreat.Disk Go.Proofs.YtjngnigelkgekaaGreat.Root
theorem over_bytes {xs ys : List Int} {o : Nat} (h : Bytes xs) (k : Bytes ys) : Bytes (over xs o ys) := by
  unfold over
  exact ((h.take _).app k).app (h.drop _)
theorem secs_bytes {f : Nat → List Int} : ∀ {n : Nat}, (∀ i, i < n → Bytes (f i)) → Bytes (secs n f)
  | 0, _ => by unfold secs; exact Bytes.nil
  | n + 1, h => by
    rw [secs_succ]
    exact (secs_bytes (fun i hi => h i (by omega))).app (h n (by omega))
theorem flushed_bytes {las : List Int} {wt : Wt} (hl : Bytes las) (hw : ∀ i b, wt i = some b → Bytes b) : Bytes (flushed las wt) := by
  unfold flushed
  refine secs_bytes (fun i _ => ?_)
  cases h : wt i with
  | none => exact (hl.drop _).take _
  | some b => exact hw i b h
theorem logF_bytes {n : Nat} {las : List Int} {wt : Wt} (hl : Bytes las) (hw : ∀ i b, wt i = some b → Bytes b) (a b c : Int) : Bytes (logF n las wt a b c) := by
  unfold logF
  split
  · exact secs_bytes (fun i _ => secF_bytes hl hw _)
  · exact Bytes.nil
def WtOk (wt : Wt) : Prop := (∀ i b, wt i = some b → b.length = 64) ∧ ∀ i b, wt i = some b → Bytes b
theorem appR_ok {n : Nat} {las : List Int} {wt : Wt} {a b c at_ : Int} {xs : List Int} (hl : las.length = 64 * n) (hb : Bytes las) (hw : WtOk wt) (hx : Bytes xs) : WtOk (appR n las wt a b c at_ xs) := by
  unfold appR
  split
  · rename_i h
    have h1 := ok_in h
    refine ⟨appW_len hl hw.1 (by omega), fun i y hy => ?_⟩
    unfold appW at hy
    split at hy
    · injection hy with hy
      rw [← hy]
      exact ((over_bytes (flushed_bytes hb hw.2) hx).drop _).take _
    · exact hw.2 i y hy
  · exact hw
end Go.Proofs.YtjngnigelkgekaaGreat.Redo
namespace Go.Proofs.YtjngnigelkgekaaGreat.Redo
open Go.RowKit Go.Proofs.YtjngnigelkgekaaGreatW.PrintWords Go.Proofs.YtjngnigelkgekaaGreatW.PrintLast Go.Proofs.YtjngnigelkgekaaGreatW.PrintMore Go.Proofs.YtjngnigelkgekaaGreat.Kit Go.Proofs.YtjngnigelkgekaaGreat.Plain Go.Proofs.YtjngnigelkgekaaGreat.Disk Go.Proofs.YtjngnigelkgekaaGreat.Root
open Go.Proofs.YtjngnigelkgekaaGreat.Home (RTL)
section
variable {w0 W : World} {F : List HP} {g n : Nat} {left d : Int} {las : List Int} {wt : Wt}
theorem lg_nums {j Lg : Nat} (h : j ≤ Lg) (hL : Lg ≤ 64) : wrap64 (2 + (Lg : Int)) = 2 + (Lg : Int) ∧ wrap64 ((j : Int) + 1) = (j : Int) + 1 := ⟨IntWalk.wrap64_in _ (by omega), IntWalk.wrap64_in _ (by omega)⟩
set_option maxHeartbeats 1600000 in
set_option maxRecDepth 100000 in
theorem rlog_no (h : Sep w0 W (RTL g n las wt left d :: F)) (hl : las.length = 64 * n) (hw : ∀ i b, wt i = some b → b.length = 64) (a b c : Int) (hr : rightR a b c n = false) :
    Calls Tryz.prog 76 #[.pointer (some ⟨g, 0, none⟩), .agg #[.int .i64 a, .int .i64 b, .int .u32 c]] W fun e w' => e = .returned (.slice none 0 0) ∧ Sep w0 w' (RTL g n las wt left d :: F) := by
  have A0 := Aside0.mk (h.newBlk 80 #[.int .i64 a, .int .i64 b, .int .u32 c]).drew
  have HL := Aside0.mk (And.intro hl hw)
  clear h hl hw
  have HRT := Aside0.mk hr
  clear hr
  go_enter Tryz.func76, Tryz.ntmps76
  go_wp2_with fail
  refine start_ (n := 5) (S := fun w' => w'.cell? ⟨W.heap.size, 0, none⟩ = some (.int .i64 a) ∧ w'.cell? ⟨W.heap.size, 1, none⟩ = some (.int .i64 b) ∧ w'.cell? ⟨W.heap.size, 2, none⟩ = some (.int .u32 c)) (ds := [3]) #[false, false, false, false, false] (by kernel_rfl) rfl rfl ⟨(A0.out.cell 0).trans rfl, (A0.out.cell 1).trans rfl, (A0.out.cell 2).trans rfl⟩ (fun hHeld => ?_)
  refine pure_ (i := 1) (N := some 10) (v := ?_) (a' := ?_) #[false, true, false, false, false] rfl rfl (by kernel_rfl) (fun _ _ _ h => h) (Or.inl ⟨by rfl, ?_⟩) ?_ ?_
  rotate_left
  · intro w'
    go_simp
    with_reducible rfl
  rotate_left
  · simp only [Act.put, sIB, sCz, sCs, i64_w, i32_w]
    rfl
  refine take_ (i := 0) (N := some 9) (v := ?_) (a' := ?_) #[true, true, false, false, false] rfl rfl (by kernel_rfl) (fun _ _ _ h => h) (Or.inl ⟨by rfl, ?_⟩) hHeld ?_ ?_
  rotate_left
  · rintro w' ⟨s0, s1, s2⟩
    go_simp
    with_reducible rfl
  rotate_left
  · simp only [Act.put, sIB, sCz, sCs, i64_w, i32_w]
    rfl
  refine one_ (i := 2) (N := some 11) #[true, true, true, false, false] rfl rfl (by kernel_rfl) (by decide) (fun K hK => ?_)
  refine goes_ Tryz.func78 (by kernel_rfl) rfl #[.pointer (some ⟨g, 0, none⟩)] (by rfl) rfl rfl (by simp only [List.map_toArray, List.map_cons, List.map_nil]; rfl) ?_
  with_reducible refine (Ref.len_ A0.out.at2).mono ?_
  rintro e w4 ⟨rfl, rfl⟩
  refine ⟨_, rfl, ?_⟩
  refine hK.out _ _ ⟨(A0.out.cell 0).trans rfl, (A0.out.cell 1).trans rfl, (A0.out.cell 2).trans rfl⟩ (fun hHeld => ?_)
  clear hK K
  refine norm_ (a' := ?_) ?_ ?_
  rotate_left
  · show Act.put _ (some 11) _ = _
    simp only [Act.put, sIB, sCz, sCs, i64_w, i32_w]
    rfl
  refine last_ (i := 3) (N := some 12) #[true, true, true, true, false] rfl rfl (by kernel_rfl) (by decide) (fun K hK => ?_)
  refine goes_ Tryz.func77 (by kernel_rfl) rfl #[.agg #[.int .i64 a, .int .i64 b, .int .u32 c], .int .i64 (n : Int)] (by rfl) rfl rfl (by simp only [List.map_toArray, List.map_cons, List.map_nil]; rfl) ?_
  with_reducible refine (rright_ a b c (n : Int) _).mono ?_
  rintro e w5 ⟨rfl, hb5⟩
  refine ⟨_, rfl, ?_⟩
  rw [HRT.out]
  have A5 := Aside0.mk (A0.out.below hb5)
  clear hb5
  refine hK.out _ _ ?_
  clear hK K
  refine norm_ (a' := ?_) ?_ ?_
  rotate_left
  · show Act.put _ (some 12) _ = _
    simp only [Act.put, sIB, sCz, sCs, i64_w, i32_w]
    rfl
  refine pure_ (i := 4) (N := some 13) (v := ?_) (a' := ?_) #[true, true, true, true, true] rfl rfl (by kernel_rfl) (fun _ _ _ h => h) (Or.inl ⟨by rfl, ?_⟩) ?_ ?_
  rotate_left
  · intro w'
    go_simp
    with_reducible rfl
  rotate_left
  · simp only [Act.put, sIB, sCz, sCs, i64_w, i32_w]
    rfl
  refine done_ (by kernel_rfl) ?_
  go_wp2_with fail
  go_ret
  exact ⟨by first | rfl | (simp; done), A5.out.tail⟩
set_option maxHeartbeats 1600000 in
set_option maxRecDepth 100000 in
theorem rlog_yes (h : Sep w0 W (RTL g n las wt left d :: F)) (hl : las.length = 64 * n) (hw : ∀ i b, wt i = some b → b.length = 64) (a b c : Int) (hr : rightR a b c n = true) :
    Calls Tryz.prog 76 #[.pointer (some ⟨g, 0, none⟩), .agg #[.int .i64 a, .int .i64 b, .int .u32 c]] W fun e w' => ∃ v, e = .returned v ∧ Sep w0 w' (Row U8 5 v (logF n las wt a b c) :: RTL g n las wt left d :: F) := by
  have A0 := Aside0.mk (h.newBlk 80 #[.int .i64 a, .int .i64 b, .int .u32 c]).drew
  have HL := Aside0.mk (And.intro hl hw)
  clear h hl hw
  have HRT := Aside0.mk hr
  have h1 := of_decide_eq_true hr
  obtain ⟨Lg, rfl⟩ := Int.eq_ofNat_of_zero_le (show 0 ≤ a by omega)
  have HP : Aside0 (logF n las wt (Lg : Int) b c = secs Lg (fun i => secF n las wt (2 + i))) := ⟨by unfold logF; rw [if_pos hr, Int.toNat_natCast]⟩
  have hK : Lg ≤ 64 := by omega
  have HK := Aside0.mk hK
  have HKN : Aside0 (2 + Lg ≤ n) := ⟨by omega⟩
  clear hr h1
  go_enter Tryz.func76, Tryz.ntmps76
  go_wp2_with fail
  refine start_ (n := 5) (S := fun w' => w'.cell? ⟨W.heap.size, 0, none⟩ = some (.int .i64 (Lg : Int)) ∧ w'.cell? ⟨W.heap.size, 1, none⟩ = some (.int .i64 b) ∧ w'.cell? ⟨W.heap.size, 2, none⟩ = some (.int .u32 c)) (ds := [3]) #[false, false, false, false, false] (by kernel_rfl) rfl rfl ⟨(A0.out.cell 0).trans rfl, (A0.out.cell 1).trans rfl, (A0.out.cell 2).trans rfl⟩ (fun hHeld => ?_)
  refine pure_ (i := 1) (N := some 10) (v := ?_) (a' := ?_) #[false, true, false, false, false] rfl rfl (by kernel_rfl) (fun _ _ _ h => h) (Or.inl ⟨by rfl, ?_⟩) ?_ ?_
  rotate_left
  · intro w'
    go_simp
    with_reducible rfl
  rotate_left
  · simp only [Act.put, sIB, sCz, sCs, i64_w, i32_w]
    rfl
  refine take_ (i := 0) (N := some 9) (v := ?_) (a' := ?_) #[true, true, false, false, false] rfl rfl (by kernel_rfl) (fun _ _ _ h => h) (Or.inl ⟨by rfl, ?_⟩) hHeld ?_ ?_
  rotate_left
  · rintro w' ⟨s0, s1, s2⟩
    go_simp
    with_reducible rfl
  rotate_left
  · simp only [Act.put, sIB, sCz, sCs, i64_w, i32_w]
    rfl
  refine one_ (i := 2) (N := some 11) #[true, true, true, false, false] rfl rfl (by kernel_rfl) (by decide) (fun K hK => ?_)
  refine goes_ Tryz.func78 (by kernel_rfl) rfl #[.pointer (some ⟨g, 0, none⟩)] (by rfl) rfl rfl (by simp only [List.map_toArray, List.map_cons, List.map_nil]; rfl) ?_
  with_reducible refine (Ref.len_ A0.out.at2).mono ?_
  rintro e w4 ⟨rfl, rfl⟩
  refine ⟨_, rfl, ?_⟩
  refine hK.out _ _ ⟨(A0.out.cell 0).trans rfl, (A0.out.cell 1).trans rfl, (A0.out.cell 2).trans rfl⟩ (fun hHeld => ?_)
  clear hK K
  refine norm_ (a' := ?_) ?_ ?_
  rotate_left
  · show Act.put _ (some 11) _ = _
    simp only [Act.put, sIB, sCz, sCs, i64_w, i32_w]
    rfl
  refine last_ (i := 3) (N := some 12) #[true, true, true, true, false] rfl rfl (by kernel_rfl) (by decide) (fun K hK => ?_)
  refine goes_ Tryz.func77 (by kernel_rfl) rfl #[.agg #[.int .i64 (Lg : Int), .int .i64 b, .int .u32 c], .int .i64 (n : Int)] (by rfl) rfl rfl (by simp only [List.map_toArray, List.map_cons, List.map_nil]; rfl) ?_
  with_reducible refine (rright_ (Lg : Int) b c (n : Int) _).mono ?_
  rintro e w5 ⟨rfl, hb5⟩
  refine ⟨_, rfl, ?_⟩
  rw [HRT.out]
  have A5 := Aside0.mk (A0.out.below hb5)
  clear hb5
  refine hK.out _ _ ?_
  clear hK K
  refine norm_ (a' := ?_) ?_ ?_
  rotate_left
  · show Act.put _ (some 12) _ = _
    simp only [Act.put, sIB, sCz, sCs, i64_w, i32_w]
    rfl
  refine pure_ (i := 4) (N := some 13) (v := ?_) (a' := ?_) #[true, true, true, true, true] rfl rfl (by kernel_rfl) (fun _ _ _ h => h) (Or.inl ⟨by rfl, ?_⟩) ?_ ?_
  rotate_left
  · intro w'
    go_simp
    with_reducible rfl
  rotate_left
  · simp only [Act.put, sIB, sCz, sCs, i64_w, i32_w]
    rfl
  refine done_ (by kernel_rfl) ?_
  have A6 := Aside0.mk (A5.out.nilRow U8 5)
  go_wp2_with fail
  go_loopg [5, 6] Lg (fun m v p wr => ∃ j i : Nat, p = .int .i64 (i : Int) ∧ i = 2 + j ∧ j + m = Lg ∧ Sep w0 wr (Row U8 5 v (secs j (fun i => secF n las wt (2 + i))) :: Blk W.heap.size 80 #[.int .i64 (Lg : Int), .int .i64 b, .int .u32 c] :: RTL g n las wt left d :: F))
  case atStart => exact ⟨0, 2, rfl, rfl, by omega, A6.out⟩
  case round =>
    obtain ⟨j, i, rfl, hij, hjm, hS⟩ := hrel
    have AK := Aside0.mk (And.intro hjm hij)
    have AS := Aside0.mk hS
    have HSL : Aside0 (j ≤ Lg → (secs j (fun i => secF n las wt (2 + i))).length = 64 * j) := ⟨fun h => secs_len (fun i hi => by rw [secF_len HL.out.1 HL.out.2, if_pos (by have := HKN.out; omega)])⟩
    clear hS
    have z0 := (AS.out.at2.cell 0).trans rfl
    have z1 := (AS.out.at2.cell 1).trans rfl
    have z2 := (AS.out.at2.cell 2).trans rfl
    obtain ⟨A3, c3, rfl⟩ := AS.out.rowN (n := 64 * j) (HSL.out (by omega))
    have hwL := (lg_nums (j := j) (by omega) HK.out).1
    by_cases hj : j < Lg
    · have hjl : (i : Int) < 2 + (Lg : Int) := by omega
      have hjld : decide ((i : Int) < 2 + (Lg : Int)) = true := decide_eq_true hjl
      have HSN : Aside0 (secs (j + 1) (fun i => secF n las wt (2 + i)) = secs j (fun i => secF n las wt (2 + i)) ++ secF n las wt i) := ⟨by rw [hij]; exact secs_succ _ _⟩
      have HIN : Aside0 (i < n) := ⟨by have := HKN.out; omega⟩
      have HXL : Aside0 ((secF n las wt i).length = 64) := ⟨by rw [secF_len HL.out.1 HL.out.2, if_pos HIN.out]⟩
      have hw1 : wrap64 ((i : Int) + 1) = (i : Int) + 1 := IntWalk.wrap64_in _ (by omega)
      clear hjm hij
      go_wp2_with fail
      refine (Ref.rread_ AS.out.at3 HL.out.1 HL.out.2 i HIN.out).mono ?_
      rintro e w3 ⟨v3, rfl, hS3⟩
      have hsf : (wt i).getD (sec las i) = secF n las wt i := by unfold secF; rw [if_pos HIN.out]
      rw [hsf] at hS3
      obtain ⟨A4, c4, rfl⟩ := hS3.rowN (n := 64) HXL.out
      have L3 : Aside0 (Sep w0 w3 (Row U8 5 (.slice A3 (64 * j) c3) (secs j (fun i => secF n las wt (2 + i))) :: Row U8 5 (.slice A4 64 c4) (secF n las wt i) :: Blk W.heap.size 80 #[.int .i64 (Lg : Int), .int .i64 b, .int .u32 c] :: RTL g n las wt left d :: F)) := ⟨hS3.at3.perm (.cons _ (.cons _ (.swap _ _ _)))⟩
      clear hS3 hsf z0 z1 z2
      go_wp2_with (first | (refine gate_builtin (b := .append) (xs := #[.tmp 27, .tmp 28]) rfl ?_; go_loud (refine L3.out.appendRow rfl (.tmp 27) (.tmp 28) 24 (.int .u8 0) 1 rfl Tryz.underlying24 Base.infoB rfl (by decide) A4 64 c4 rfl rfl L3.out.at2.rowC' (by rw [HSL.out (by omega), HXL.out]; omega) ?_; intro v6 w6 hS6; have B6 := Aside0.mk hS6; clear hS6)))
      go_roundg (gk - 1)
      case measure => have := AK.out; omega
      case rel => exact ⟨j + 1, i + 1, by go_num, by have := AK.out; omega, by have := AK.out; omega, by rw [HSN.out]; exact B6.out.drop2⟩
    · obtain rfl : j = Lg := by omega
      have hjl : ¬ (i : Int) < 2 + (j : Int) := by omega
      have hjld : decide ((i : Int) < 2 + (j : Int)) = false := decide_eq_false hjl
      clear hjm hij
      go_wp2_with fail
      go_ret
      exact ⟨_, by first | rfl | (simp; done), by rw [HP.out]; exact AS.out.drop2⟩
theorem rlog_ (h : Sep w0 W (RTL g n las wt left d :: F)) (hl : las.length = 64 * n) (hw : ∀ i b, wt i = some b → b.length = 64) (a b c : Int) :
    Calls Tryz.prog 76 #[.pointer (some ⟨g, 0, none⟩), .agg #[.int .i64 a, .int .i64 b, .int .u32 c]] W fun e w' => ∃ v, e = .returned v ∧ Sep w0 w' (Row U8 5 v (logF n las wt a b c) :: RTL g n las wt left d :: F) := by
  cases hr : rightR a b c n with
  | false =>
    refine (rlog_no h hl hw a b c hr).mono ?_
    rintro e w' ⟨rfl, hS⟩
    exact ⟨_, rfl, by rw [show logF n las wt a b c = [] by unfold logF; rw [hr]; rfl]; exact hS.nilRow _ _⟩
  | true => exact rlog_yes h hl hw a b c hr
end
end Go.Proofs.YtjngnigelkgekaaGreat.Redo
