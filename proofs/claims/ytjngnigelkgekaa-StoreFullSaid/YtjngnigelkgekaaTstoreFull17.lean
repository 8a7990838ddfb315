/- StFull, Open: what StoreFull needs. -/
import Derived.Test.YtjngnigelkgekaaTstoreFull16
import Derived.Test.YtjngnigelkgekaaProg
import Derived.WalkKit
import Derived.ProofKit
import Derived.OpenShut
import Derived.ShutString
import Derived.ChangeOld
import Derived.Below
import Derived.SizedLaws
namespace Go.Proofs.Ytjngnigelkgekaa.Full
set_option linter.unusedVariables false
set_option linter.unusedSimpArgs false
open Go.RowKit Go.Proofs.YtjngnigelkgekaaW.PrintWords Go.Proofs.YtjngnigelkgekaaW.PrintLast Go.Proofs.YtjngnigelkgekaaW.PrintMore Go.Proofs.Ytjngnigelkgekaa.Kit Go.Proofs.Ytjngnigelkgekaa.Plain Go.Proofs.Ytjngnigelkgekaa.Disk Go.Proofs.Ytjngnigelkgekaa.Root
open Go.Proofs.Ytjngnigelkgekaa.Delta (Chg KC deltaF rightF okF)
open Go.Proofs.Ytjngnigelkgekaa.Redo (appR sizeF TpX tpx_shut changesX_)
open Go.Proofs.Ytjngnigelkgekaa.Tape (good)
open Go.Proofs.Ytjngnigelkgekaa.Store hiding join_
theorem strV {w0 W : World} {F : List HP} {v : Value} {xs : List Int} (h : Sep w0 W (Row U8 5 v xs :: F)) : (convert 30 9 v).run Try.prog W = .ok (.string (strOfNums xs)) W := by
  obtain ⟨A, c, rfl⟩ := h.rowV
  exact Str.strC h.rowC.2.2
structure Inv (lg : Int) (e i : Nat) (ep : Int) (pages : List (List Int)) (named : List Int) (used seq : Nat) (las : List Int) (wt : Wt) : Prop where
  len : las.length = 64 * 40
  wl : ∀ i b, wt i = some b → b.length = 64
  ep0 : 0 ≤ ep
  ep1 : ep ≤ (e : Int)
  pl : pages.length = 6
  pb : ∀ p ∈ pages, p.length ≤ 1000000
  nk : ∀ k ∈ named, 0 ≤ k ∧ k < 6
  nl : named.length ≤ 6 * i
  us : (used : Int) ≤ sizeF lg
  sq : seq ≤ i
theorem Inv.ok {lg ep : Int} {e i used seq n2 : Nat} {pages : List (List Int)} {named : List Int} {las : List Int} {wt : Wt} {l : List Chg} {x : List Int} (h : Inv lg e i ep pages named used seq las wt) (hg : good 6 l) (hn : l.length = n2) (hf : fitsF lg used n2 = true) :
    Inv lg e (i + 1) ep (applyF pages l) (insAll named l) (used + (18 + 66 * n2)) (seq + 1) las (appR 40 las wt lg 6 ep (used : Int) x) := by
  have hr := right_in (good_right hg)
  refine ⟨h.len, appR_len h.len h.wl, h.ep0, h.ep1, by rw [applyF_len]; exact h.pl, applyF_le h.pb (fun c hc => by have := (hr.2 c hc).2.2; omega), fun k hk => ?_, ?_, ?_, by have := h.sq; omega⟩
  · rcases insAll_mem l hk with h1 | ⟨c, hc, rfl⟩
    · exact h.nk k h1
    · exact ⟨(hr.2 c hc).1, (hr.2 c hc).2.1⟩
  · have h1 := insAll_len l named
    have h2 := h.nl
    have h3 := hg.2.2
    omega
  · have h1 := (fits_in hf).2
    omega
theorem Inv.chk {lg ep : Int} {e i used seq : Nat} {pages : List (List Int)} {named : List Int} {las : List Int} {wt : Wt} (h : Inv lg e i ep pages named used seq las wt) :
    Inv lg (e + 1) 0 (ep + 1) pages [] 0 0 (chkL 40 las wt lg 6 ep pages named) noW :=
  ⟨chk_len h.len h.wl, Ref.none_len, by have := h.ep0; omega, by have := h.ep1; omega, h.pl, h.pb, fun k hk => (by cases hk), by simp, by have := Redo.sizeF_in lg; omega, Nat.le_refl _⟩
theorem Inv.up {lg ep : Int} {e i e' i' used seq : Nat} {pages : List (List Int)} {named : List Int} {las : List Int} {wt : Wt} (h : Inv lg e i ep pages named used seq las wt) (he : e ≤ e') (hi : i ≤ i') :
    Inv lg e' i' ep pages named used seq las wt :=
  ⟨h.len, h.wl, h.ep0, by have := h.ep1; omega, h.pl, h.pb, h.nk, by have := h.nl; omega, h.us, by have := h.sq; omega⟩
theorem inv_start {lg : Nat} {L : List Int} (hL : L.length = 64 * 40) : Inv (lg : Int) 2 0 2 yps [] 0 0 L noW :=
  ⟨hL, Ref.none_len, by decide, by decide, rfl, by decide, fun k hk => (by cases hk), by simp, by have := Redo.sizeF_in (lg : Int); omega, Nat.le_refl _⟩
section
variable {w0 W : World} {F : List HP} {gs g m : Nat} {a b ep : Int} {pages : List (List Int)} {named : List Int} {used seq : Nat}
theorem usedQ_ (h : Sep w0 W (StB gs g m a b ep pages named used seq :: F)) : Calls Try.prog 31 #[.pointer (some ⟨gs, 0, none⟩)] W fun e w' => ∃ r : Nat, e = .returned (.int .i64 (r : Int)) ∧ (r = used ∧ W = w') :=
  (used_ h).mono (by rintro e w' ⟨rfl, rfl⟩; exact ⟨used, rfl, rfl, rfl⟩)
theorem seqQ_ (h : Sep w0 W (StB gs g m a b ep pages named used seq :: F)) : Calls Try.prog 32 #[.pointer (some ⟨gs, 0, none⟩)] W fun e w' => ∃ r : Nat, e = .returned (.int .u32 (r : Int)) ∧ (r = seq ∧ W = w') :=
  (seq_ h).mono (by rintro e w' ⟨rfl, rfl⟩; exact ⟨seq, rfl, rfl, rfl⟩)
end
set_option maxHeartbeats 3200000 in
set_option maxRecDepth 100000 in
theorem storeFull_ {A0 : Option Addr} {n0 c0 : Nat} {tape : List Int} {log : Int} {w : World} (ht : I64.C w A0 n0 tape) :
    Calls Try.prog 4 #[.int .i64 log, .slice A0 n0 c0] w fun e w' => e = .returned (.bool true) ∧ Below w.heap.size w w' := by
  have HT := Aside0.mk ht
  have hlg := Book.withinF_in (n := log) (lo := 1) (hi := 12) (by decide)
  obtain ⟨lg, hlg2⟩ := Int.eq_ofNat_of_zero_le (show 0 ≤ Book.withinF log 1 12 by omega)
  have HLG : Aside0 (Book.withinF log 1 12 = (lg : Int) ∧ 1 ≤ lg ∧ lg ≤ 12) := ⟨⟨hlg2, by omega, by omega⟩⟩
  clear ht hlg hlg2
  go_enter Try.func4, Try.ntmps4
  go_wp2_with fail
  refine (new_ok (n := 40) (by decide) (by decide)).mono ?_
  rintro e w1 ⟨g, rfl, hS1⟩
  have B1 := Aside0.mk hS1
  clear hS1
  go_wp2_with fail
  refine (Book.within_ log 1 12 _ (by decide) (by decide) (by decide)).mono ?_
  rintro e w2 ⟨rfl, rfl⟩
  rw [HLG.out.1]
  go_wp2_with fail
  refine (f_new B1.out HLG.out.2.1 HLG.out.2.2).mono ?_
  rintro e w3 ⟨rfl, hS3⟩
  have B3 := Aside0.mk hS3
  clear hS3
  go_wp2_with fail
  refine (f_open B3.out HLG.out.2.1 HLG.out.2.2).mono ?_
  rintro e w4 ⟨gs, m, L, rfl, hL, hS4⟩
  have HL := Aside0.mk (inv_start (lg := lg) hL)
  obtain ⟨gt, hgt⟩ : ∃ q, w4.heap.size = q := ⟨_, rfl⟩
  have B4 := Aside0.mk (tpx_shut (Int.le_refl 0) (hS4.newBlk 46 #[.slice A0 n0 c0, .int .i64 0]))
  rw [hgt] at B4
  clear hS4 hL
  go_wp2_with fail
  clear hgt
  go_loopg [9] 12 (fun k_ p wr => ∃ (i : Nat) (ep : Int) (pages : List (List Int)) (named : List Int) (used seq : Nat) (las : List Int) (wt : Wt), p = .int .i64 (i : Int) ∧ i + k_ = 12 ∧ Inv (lg : Int) (2 + i) i ep pages named used seq las wt ∧ Sep w wr [TpX gt A0 n0 c0, StB gs g m (lg : Int) 6 ep pages named used seq, Dsk g las wt])
  case atStart => exact ⟨0, 2, _, _, 0, 0, _, _, rfl, by omega, HL.out, B4.out⟩
  case round =>
    obtain ⟨i, ep, pages, named, used, seq, las, wt, rfl, hik, hI, hS⟩ := hrel
    obtain ⟨w5, rfl⟩ : ∃ x, x = wr := ⟨_, rfl⟩
    have AK := Aside0.mk hik
    have AI := Aside0.mk hI
    have AS := Aside0.mk hS
    clear hS hI HL B4 B3 B1
    by_cases ci : i < 12
    case neg =>
      obtain rfl : i = 12 := by omega
      clear hik ci
      go_wp2_with fail
      refine (Store.known_ _).mono ?_
      rintro e w6 ⟨rfl, hb6⟩
      have B6 := Aside0.mk (AS.out.below hb6)
      clear hb6
      go_wp2_with fail
      go_ret
      exact ⟨by first | rfl | (simp; done), B6.out.toBelow⟩
    case pos =>
    have hil : (i : Int) < 12 := by omega
    clear hik ci
    go_wp2_with fail
    refine (changesX_ HT.out AS.out 6 (by decide)).mono ?_
    rintro e w6 ⟨v6, l, rfl, hg, hS6⟩
    obtain ⟨n2, hn2⟩ : ∃ n, l.length = n := ⟨_, rfl⟩
    obtain ⟨A6, c6, rfl⟩ := hS6.rowN hn2
    have HG := Aside0.mk (And.intro hg hn2)
    have B6 := Aside0.mk hS6.at4.at4
    have BD := Aside0.mk B6.out.drew
    clear hS6 hg hn2
    obtain ⟨FL, hFL⟩ : ∃ x, flushed las wt = x := ⟨_, rfl⟩
    obtain ⟨s5, hs5⟩ : ∃ s, joinF pages = s := ⟨_, rfl⟩
    obtain ⟨s6, hs6⟩ : ∃ s, strOfNums FL = s := ⟨_, rfl⟩
    have HFL := Aside0.mk hFL
    have HS5 := Aside0.mk hs5
    have HS6 := Aside0.mk hs6
    clear hFL hs5 hs6
    go_wp2_with fail
    refine start_ (n := 14) (S := fun w' => True) (ds := []) #[false, false, false, false, false, false, false, false, false, false, false, false, false, false] (by kernel_rfl) rfl rfl trivial (fun hHeld => ?_)
    refine pure_ (i := 0) (N := some 47) (v := ?_) (a' := ?_) #[true, false, false, false, false, false, false, false, false, false, false, false, false, false] rfl rfl (by kernel_rfl) (fun _ _ _ h => h) (Or.inl ⟨by rfl, ?_⟩) ?_ ?_
    rotate_left
    · intro w'
      go_simp
      with_reducible rfl
    rotate_left
    · simp only [Act.put, List.setIfInBounds_toArray, List.set_cons_zero, List.set_cons_succ, i64_w, i32_w]
      rfl
    refine pure_ (i := 3) (N := some 50) (v := ?_) (a' := ?_) #[true, false, false, true, false, false, false, false, false, false, false, false, false, false] rfl rfl (by kernel_rfl) (fun _ _ _ h => h) (Or.inl ⟨by rfl, ?_⟩) ?_ ?_
    rotate_left
    · intro w'
      go_simp
      with_reducible rfl
    rotate_left
    · simp only [Act.put, List.setIfInBounds_toArray, List.set_cons_zero, List.set_cons_succ, i64_w, i32_w]
      rfl
    refine pure_ (i := 6) (N := some 53) (v := ?_) (a' := ?_) #[true, false, false, true, false, false, true, false, false, false, false, false, false, false] rfl rfl (by kernel_rfl) (fun _ _ _ h => h) (Or.inl ⟨by rfl, ?_⟩) ?_ ?_
    rotate_left
    · intro w'
      go_simp
      with_reducible rfl
    rotate_left
    · simp only [Act.put, List.setIfInBounds_toArray, List.set_cons_zero, List.set_cons_succ, i64_w, i32_w]
      rfl
    refine pure_ (i := 8) (N := some 55) (v := ?_) (a' := ?_) #[true, false, false, true, false, false, true, false, true, false, false, false, false, false] rfl rfl (by kernel_rfl) (fun _ _ _ h => h) (Or.inl ⟨by rfl, ?_⟩) ?_ ?_
    rotate_left
    · intro w'
      go_simp
      with_reducible rfl
    rotate_left
    · simp only [Act.put, List.setIfInBounds_toArray, List.set_cons_zero, List.set_cons_succ, i64_w, i32_w]
      rfl
    refine one_ (i := 1) (N := some 48) #[true, true, false, true, false, false, true, false, true, false, false, false, false, false] rfl rfl (by kernel_rfl) (by decide) (fun K hK => ?_)
    refine goes_ Try.func30 (by kernel_rfl) rfl #[.pointer (some ⟨gs, 0, none⟩)] (by rfl) rfl rfl (by simp only [List.map_toArray, List.map_cons, List.map_nil]; rfl) ?_
    with_reducible refine (all_ BD.out (by rw [AI.out.pl]; decide) AI.out.pb).mono ?_
    rintro e w7 ⟨v7, rfl, hS7⟩
    refine ⟨_, rfl, ?_⟩
    obtain ⟨A7, c7, rfl⟩ := Sep.rowVN hS7 AI.out.pl
    have B7 := Aside0.mk hS7
    clear hS7
    refine hK.out _ _ trivial (fun hHeld => ?_)
    clear hK K
    refine norm_ (a' := ?_) ?_ ?_
    rotate_left
    · show Act.put _ (some 48) _ = _
      simp only [Act.put, List.setIfInBounds_toArray, List.set_cons_zero, List.set_cons_succ, i64_w, i32_w]
      rfl
    refine one_ (i := 2) (N := some 49) #[true, true, true, true, false, false, true, false, true, false, false, false, false, false] rfl rfl (by kernel_rfl) (by decide) (fun K hK => ?_)
    refine goes_ Try.func29 (by kernel_rfl) rfl #[.slice A7 6 c7] (by rfl) rfl rfl (by simp only [List.map_toArray, List.map_cons, List.map_nil]; rfl) ?_
    with_reducible refine (Store.join_ (l := pages) (by have h := (Sep.rowVC rfl B7.out).2.2; exact h) (by decide) AI.out.pb).mono ?_
    rintro e w8 ⟨rfl, hw8⟩
    refine ⟨_, rfl, ?_⟩
    rw [HS5.out]
    have B8 := Aside0.mk B7.out.tail
    rw [hw8] at B8
    clear hw8
    refine hK.out _ _ trivial (fun hHeld => ?_)
    clear hK K
    refine norm_ (a' := ?_) ?_ ?_
    rotate_left
    · show Act.put _ (some 49) _ = _
      simp only [Act.put, List.setIfInBounds_toArray, List.set_cons_zero, List.set_cons_succ, i64_w, i32_w]
      rfl
    refine one_ (i := 4) (N := some 51) #[true, true, true, true, true, false, true, false, true, false, false, false, false, false] rfl rfl (by kernel_rfl) (by decide) (fun K hK => ?_)
    refine goes_ Try.func24 (by kernel_rfl) rfl #[.pointer (some ⟨g, 0, none⟩)] (by rfl) rfl rfl (by simp only [List.map_toArray, List.map_cons, List.map_nil]; rfl) ?_
    with_reducible refine (seen_ B8.out.at2).mono ?_
    rintro e w9 ⟨v9, rfl, hS9⟩
    refine ⟨_, rfl, ?_⟩
    rw [HFL.out] at hS9
    have B9 := Aside0.mk hS9
    clear hS9
    refine hK.out _ _ trivial (fun hHeld => ?_)
    clear hK K
    refine norm_ (a' := ?_) ?_ ?_
    rotate_left
    · show Act.put _ (some 51) _ = _
      simp only [Act.put, List.setIfInBounds_toArray, List.set_cons_zero, List.set_cons_succ, i64_w, i32_w]
      rfl
    refine join_ (σ := Value × Nat × Nat) 3 #[true, true, true, true, true, true, true, true, true, true, true, false, false, false] (fun s_ => [(52, s_.1), (54, .int .i64 ((s_.2.1 : Nat) : Int)), (56, .int .u32 ((s_.2.2 : Nat) : Int)), (11, .string s5)]) (fun s_ w' => Sep w w' ((Pu ((s_.1) = .string s6)) :: (Pu ((s_.2.1) = used)) :: (Pu ((s_.2.2) = seq)) :: [Row U8 5 v9 FL, Dsk g las wt, StB gs g m (lg : Int) 6 ep pages named used seq, Row KC 106 (.slice A6 n2 c6) l, TpX gt A0 n0 c0])) ?_ ?_
    rotate_left
    · intro hJ5_7_9
      refine join_ (σ := Value × Nat) 5 #[true, true, true, true, true, true, true, true, true, false, false, false, false, false] (fun s_ => [(52, s_.1), (54, .int .i64 ((s_.2 : Nat) : Int))]) (fun s_ w' => Sep w w' ((Pu ((s_.1) = .string s6)) :: (Pu ((s_.2) = used)) :: [Row U8 5 v9 FL, Dsk g las wt, StB gs g m (lg : Int) 6 ep pages named used seq, Row KC 106 (.slice A6 n2 c6) l, TpX gt A0 n0 c0])) ?_ ?_
      rotate_left
      · intro hJ5_7
        refine join_ (σ := Nat × Nat) 4 #[true, true, true, true, true, false, true, true, true, true, true, false, false, false] (fun s_ => [(54, .int .i64 ((s_.1 : Nat) : Int)), (56, .int .u32 ((s_.2 : Nat) : Int)), (11, .string s5)]) (fun s_ w' => Sep w w' ((Pu ((s_.1) = used)) :: (Pu ((s_.2) = seq)) :: [Row U8 5 v9 FL, Dsk g las wt, StB gs g m (lg : Int) 6 ep pages named used seq, Row KC 106 (.slice A6 n2 c6) l, TpX gt A0 n0 c0])) ?_ ?_
        rotate_left
        · intro hJ7_9
          refine join_ (σ := Value) 6 #[true, true, true, true, true, true, true, false, true, false, false, false, false, false] (fun s_ => [(52, s_)]) (fun s_ w' => Sep w w' ((Pu ((s_) = .string s6)) :: [Row U8 5 v9 FL, Dsk g las wt, StB gs g m (lg : Int) 6 ep pages named used seq, Row KC 106 (.slice A6 n2 c6) l, TpX gt A0 n0 c0])) ?_ ?_
          rotate_left
          · intro hJ5
            refine join_ (σ := Nat) 6 #[true, true, true, true, true, false, true, true, true, false, false, false, false, false] (fun s_ => [(54, .int .i64 ((s_ : Nat) : Int))]) (fun s_ w' => Sep w w' ((Pu ((s_) = used)) :: [Row U8 5 v9 FL, Dsk g las wt, StB gs g m (lg : Int) 6 ep pages named used seq, Row KC 106 (.slice A6 n2 c6) l, TpX gt A0 n0 c0])) ?_ ?_
            rotate_left
            · intro hJ7
              refine two_ (i := 5) (j := 7) (Ni := some 52) (Nj := some 54) #[true, true, true, true, true, true, true, false, true, false, false, false, false, false] #[true, true, true, true, true, false, true, true, true, false, false, false, false, false] rfl rfl rfl rfl (by kernel_rfl) (by decide) (by decide) (fun K hK => ?_) (fun K hK => ?_)
              · skip
                have hs_ : (convert 30 9 v9).run Try.prog w9 = .ok (.string s6) w9 := by rw [← HS6.out]; first | exact strV (B9.out) | exact strV (B9.out).at2 | exact strV (B9.out).at3
                refine value_ (w1 := ?_) (v := ?_) (by rfl) rfl ?_ ?_
                rotate_left 2
                · go_simp
                  constructor
                  · rfl
                  · rfl
                have hN := (B9.out).unpu (rfl : (Value.string s6 = .string s6))
                refine hK.out _ _ trivial (fun hHeld => ?_)
                clear hK K
                refine norm_ (a' := ?_) ?_ ?_
                rotate_left
                · show Act.put _ (some 52) _ = _
                  simp only [Act.put, List.setIfInBounds_toArray, List.set_cons_zero, List.set_cons_succ, i64_w, i32_w]
                  rfl
                exact norm_ (by first | (simp only [putAll, Act.put, List.setIfInBounds_toArray, List.set_cons_zero, List.set_cons_succ]; done) | (simp only [putAll, Act.put, List.setIfInBounds_toArray, List.set_cons_zero, List.set_cons_succ]; rfl)) (hJ5 (.string s6) _ hN)
              · skip
                refine goes_ Try.func31 (by kernel_rfl) rfl #[.pointer (some ⟨gs, 0, none⟩)] (by rfl) rfl rfl (by simp only [List.map_toArray, List.map_cons, List.map_nil]; rfl) ?_
                with_reducible refine (usedQ_ (w0 := w) (gs := gs) (g := g) (m := m) (a := (lg : Int)) (b := 6) (ep := ep) (pages := pages) (named := named) (used := used) (seq := seq) (by first | exact (B9.out).at3 | exact (B9.out).at4 | exact (B9.out).at5)).mono ?_
                rintro e wn_ ⟨vn_, rfl, hS_⟩
                refine ⟨_, rfl, ?_⟩
                have hu_ := hS_.1
                have hw_ := hS_.2
                subst hw_
                have hN := (B9.out).unpu hu_
                clear hS_
                refine hK.out _ _ trivial (fun hHeld => ?_)
                clear hK K
                refine norm_ (a' := ?_) ?_ ?_
                rotate_left
                · show Act.put _ (some 54) _ = _
                  simp only [Act.put, List.setIfInBounds_toArray, List.set_cons_zero, List.set_cons_succ, i64_w, i32_w]
                  rfl
                exact norm_ (by first | (simp only [putAll, Act.put, List.setIfInBounds_toArray, List.set_cons_zero, List.set_cons_succ]; done) | (simp only [putAll, Act.put, List.setIfInBounds_toArray, List.set_cons_zero, List.set_cons_succ]; rfl)) (hJ7 vn_ _ hN)
            · skip
              rintro v7_ W_ hQ_
              have hSep : Aside0 (Sep w W_ ((Pu ((v7_) = used)) :: [Row U8 5 v9 FL, Dsk g las wt, StB gs g m (lg : Int) 6 ep pages named used seq, Row KC 106 (.slice A6 n2 c6) l, TpX gt A0 n0 c0])) := ⟨hQ_⟩
              clear hQ_
              have hHeld := trivial
              refine norm_ (a' := ?_) ?_ ?_
              rotate_left
              · simp only [putAll, Act.put, List.setIfInBounds_toArray, List.set_cons_zero, List.set_cons_succ]
                rfl
              refine two_ (i := 5) (j := 9) (Ni := some 52) (Nj := some 56) #[true, true, true, true, true, true, true, true, true, false, false, false, false, false] #[true, true, true, true, true, false, true, true, true, true, false, false, false, false] rfl rfl rfl rfl (by kernel_rfl) (by decide) (by decide) (fun K hK => ?_) (fun K hK => ?_)
              · skip
                have hs_ : (convert 30 9 v9).run Try.prog W_ = .ok (.string s6) W_ := by rw [← HS6.out]; first | exact strV (hSep.out) | exact strV (hSep.out).at2 | exact strV (hSep.out).at3
                refine value_ (w1 := ?_) (v := ?_) (by rfl) rfl ?_ ?_
                rotate_left 2
                · go_simp
                  constructor
                  · rfl
                  · rfl
                have hN := (hSep.out).unpu (rfl : (Value.string s6 = .string s6))
                refine hK.out _ _ trivial (fun hHeld => ?_)
                clear hK K
                refine norm_ (a' := ?_) ?_ ?_
                rotate_left
                · show Act.put _ (some 52) _ = _
                  simp only [Act.put, List.setIfInBounds_toArray, List.set_cons_zero, List.set_cons_succ, i64_w, i32_w]
                  rfl
                exact norm_ (by first | (simp only [putAll, Act.put, List.setIfInBounds_toArray, List.set_cons_zero, List.set_cons_succ]; done) | (simp only [putAll, Act.put, List.setIfInBounds_toArray, List.set_cons_zero, List.set_cons_succ]; rfl)) (hJ5_7 (.string s6, v7_) _ hN)
              · skip
                refine goes_ Try.func32 (by kernel_rfl) rfl #[.pointer (some ⟨gs, 0, none⟩)] (by rfl) rfl rfl (by simp only [List.map_toArray, List.map_cons, List.map_nil]; rfl) ?_
                with_reducible refine (seqQ_ (w0 := w) (gs := gs) (g := g) (m := m) (a := (lg : Int)) (b := 6) (ep := ep) (pages := pages) (named := named) (used := used) (seq := seq) (by first | exact (hSep.out).at3 | exact (hSep.out).at4 | exact (hSep.out).at5)).mono ?_
                rintro e wn_ ⟨vn_, rfl, hS_⟩
                refine ⟨_, rfl, ?_⟩
                have hu_ := hS_.1
                have hw_ := hS_.2
                subst hw_
                have hN := (hSep.out).unpu hu_
                clear hS_
                refine hK.out _ _ trivial (fun hHeld => ?_)
                clear hK K
                refine norm_ (a' := ?_) ?_ ?_
                rotate_left
                · show Act.put _ (some 56) _ = _
                  simp only [Act.put, List.setIfInBounds_toArray, List.set_cons_zero, List.set_cons_succ, i64_w, i32_w]
                  rfl
                refine pure_ (i := 10) (N := some 11) (v := ?_) (a' := ?_) #[true, true, true, true, true, false, true, true, true, true, true, false, false, false] rfl rfl (by kernel_rfl) (fun _ _ _ h => h) (Or.inl ⟨by rfl, ?_⟩) ?_ ?_
                rotate_left
                · intro w'
                  go_simp
                  with_reducible rfl
                rotate_left
                · simp only [Act.put, List.setIfInBounds_toArray, List.set_cons_zero, List.set_cons_succ, i64_w, i32_w]
                  rfl
                exact norm_ (by first | (simp only [putAll, Act.put, List.setIfInBounds_toArray, List.set_cons_zero, List.set_cons_succ]; done) | (simp only [putAll, Act.put, List.setIfInBounds_toArray, List.set_cons_zero, List.set_cons_succ]; rfl)) (hJ7_9 (v7_, vn_) _ hN.at2)
          · skip
            rintro v5_ W_ hQ_
            have hSep : Aside0 (Sep w W_ ((Pu ((v5_) = .string s6)) :: [Row U8 5 v9 FL, Dsk g las wt, StB gs g m (lg : Int) 6 ep pages named used seq, Row KC 106 (.slice A6 n2 c6) l, TpX gt A0 n0 c0])) := ⟨hQ_⟩
            clear hQ_
            have hHeld := trivial
            refine norm_ (a' := ?_) ?_ ?_
            rotate_left
            · simp only [putAll, Act.put, List.setIfInBounds_toArray, List.set_cons_zero, List.set_cons_succ]
              rfl
            refine one_ (i := 7) (N := some 54) #[true, true, true, true, true, true, true, true, true, false, false, false, false, false] rfl rfl (by kernel_rfl) (by decide) (fun K hK => ?_)
            refine goes_ Try.func31 (by kernel_rfl) rfl #[.pointer (some ⟨gs, 0, none⟩)] (by rfl) rfl rfl (by simp only [List.map_toArray, List.map_cons, List.map_nil]; rfl) ?_
            with_reducible refine (usedQ_ (w0 := w) (gs := gs) (g := g) (m := m) (a := (lg : Int)) (b := 6) (ep := ep) (pages := pages) (named := named) (used := used) (seq := seq) (by first | exact (hSep.out).at3 | exact (hSep.out).at4 | exact (hSep.out).at5)).mono ?_
            rintro e wn_ ⟨vn_, rfl, hS_⟩
            refine ⟨_, rfl, ?_⟩
            have hu_ := hS_.1
            have hw_ := hS_.2
            subst hw_
            have hN := (hSep.out).unpu hu_
            clear hS_
            refine hK.out _ _ trivial (fun hHeld => ?_)
            clear hK K
            refine norm_ (a' := ?_) ?_ ?_
            rotate_left
            · show Act.put _ (some 54) _ = _
              simp only [Act.put, List.setIfInBounds_toArray, List.set_cons_zero, List.set_cons_succ, i64_w, i32_w]
              rfl
            exact norm_ (by first | (simp only [putAll, Act.put, List.setIfInBounds_toArray, List.set_cons_zero, List.set_cons_succ]; done) | (simp only [putAll, Act.put, List.setIfInBounds_toArray, List.set_cons_zero, List.set_cons_succ]; rfl)) (hJ5_7 (v5_, vn_) _ hN.at2)
        · skip
          rintro ⟨v7_, v9_⟩ W_ hQ_
          have hSep : Aside0 (Sep w W_ ((Pu ((v7_) = used)) :: (Pu ((v9_) = seq)) :: [Row U8 5 v9 FL, Dsk g las wt, StB gs g m (lg : Int) 6 ep pages named used seq, Row KC 106 (.slice A6 n2 c6) l, TpX gt A0 n0 c0])) := ⟨hQ_⟩
          clear hQ_
          have hHeld := trivial
          refine norm_ (a' := ?_) ?_ ?_
          rotate_left
          · simp only [putAll, Act.put, List.setIfInBounds_toArray, List.set_cons_zero, List.set_cons_succ]
            rfl
          refine one_ (i := 5) (N := some 52) #[true, true, true, true, true, true, true, true, true, true, true, false, false, false] rfl rfl (by kernel_rfl) (by decide) (fun K hK => ?_)
          have hs_ : (convert 30 9 v9).run Try.prog W_ = .ok (.string s6) W_ := by rw [← HS6.out]; first | exact strV (hSep.out) | exact strV (hSep.out).at2 | exact strV (hSep.out).at3
          refine value_ (w1 := ?_) (v := ?_) (by rfl) rfl ?_ ?_
          rotate_left 2
          · go_simp
            constructor
            · rfl
            · rfl
          have hN := (hSep.out).unpu (rfl : (Value.string s6 = .string s6))
          refine hK.out _ _ trivial (fun hHeld => ?_)
          clear hK K
          refine norm_ (a' := ?_) ?_ ?_
          rotate_left
          · show Act.put _ (some 52) _ = _
            simp only [Act.put, List.setIfInBounds_toArray, List.set_cons_zero, List.set_cons_succ, i64_w, i32_w]
            rfl
          exact norm_ (by first | (simp only [putAll, Act.put, List.setIfInBounds_toArray, List.set_cons_zero, List.set_cons_succ]; done) | (simp only [putAll, Act.put, List.setIfInBounds_toArray, List.set_cons_zero, List.set_cons_succ]; rfl)) (hJ5_7_9 (.string s6, v7_, v9_) _ hN)
      · skip
        rintro ⟨v5_, v7_⟩ W_ hQ_
        have hSep : Aside0 (Sep w W_ ((Pu ((v5_) = .string s6)) :: (Pu ((v7_) = used)) :: [Row U8 5 v9 FL, Dsk g las wt, StB gs g m (lg : Int) 6 ep pages named used seq, Row KC 106 (.slice A6 n2 c6) l, TpX gt A0 n0 c0])) := ⟨hQ_⟩
        clear hQ_
        have hHeld := trivial
        refine norm_ (a' := ?_) ?_ ?_
        rotate_left
        · simp only [putAll, Act.put, List.setIfInBounds_toArray, List.set_cons_zero, List.set_cons_succ]
          rfl
        refine one_ (i := 9) (N := some 56) #[true, true, true, true, true, true, true, true, true, true, false, false, false, false] rfl rfl (by kernel_rfl) (by decide) (fun K hK => ?_)
        refine goes_ Try.func32 (by kernel_rfl) rfl #[.pointer (some ⟨gs, 0, none⟩)] (by rfl) rfl rfl (by simp only [List.map_toArray, List.map_cons, List.map_nil]; rfl) ?_
        with_reducible refine (seqQ_ (w0 := w) (gs := gs) (g := g) (m := m) (a := (lg : Int)) (b := 6) (ep := ep) (pages := pages) (named := named) (used := used) (seq := seq) (by first | exact (hSep.out).at3 | exact (hSep.out).at4 | exact (hSep.out).at5)).mono ?_
        rintro e wn_ ⟨vn_, rfl, hS_⟩
        refine ⟨_, rfl, ?_⟩
        have hu_ := hS_.1
        have hw_ := hS_.2
        subst hw_
        have hN := (hSep.out).unpu hu_
        clear hS_
        refine hK.out _ _ trivial (fun hHeld => ?_)
        clear hK K
        refine norm_ (a' := ?_) ?_ ?_
        rotate_left
        · show Act.put _ (some 56) _ = _
          simp only [Act.put, List.setIfInBounds_toArray, List.set_cons_zero, List.set_cons_succ, i64_w, i32_w]
          rfl
        refine pure_ (i := 10) (N := some 11) (v := ?_) (a' := ?_) #[true, true, true, true, true, true, true, true, true, true, true, false, false, false] rfl rfl (by kernel_rfl) (fun _ _ _ h => h) (Or.inl ⟨by rfl, ?_⟩) ?_ ?_
        rotate_left
        · intro w'
          go_simp
          with_reducible rfl
        rotate_left
        · simp only [Act.put, List.setIfInBounds_toArray, List.set_cons_zero, List.set_cons_succ, i64_w, i32_w]
          rfl
        exact norm_ (by first | (simp only [putAll, Act.put, List.setIfInBounds_toArray, List.set_cons_zero, List.set_cons_succ]; done) | (simp only [putAll, Act.put, List.setIfInBounds_toArray, List.set_cons_zero, List.set_cons_succ]; rfl)) (hJ5_7_9 (v5_, v7_, vn_) _ hN.to3)
    rintro ⟨v5_, v7_, v9_⟩ W_ hQ_
    have hSep : Aside0 (Sep w W_ ((Pu ((v5_) = .string s6)) :: (Pu ((v7_) = used)) :: (Pu ((v9_) = seq)) :: [Row U8 5 v9 FL, Dsk g las wt, StB gs g m (lg : Int) 6 ep pages named used seq, Row KC 106 (.slice A6 n2 c6) l, TpX gt A0 n0 c0])) := ⟨hQ_⟩
    clear hQ_
    have hHeld := trivial
    obtain ⟨h5_, hT_⟩ := hSep.out.pu
    obtain ⟨h7_, hT2_⟩ := hT_.pu
    obtain ⟨h9_, hT3_⟩ := hT2_.pu
    have h5s := h5_.symm
    have h7s := h7_.symm
    have h9s := h9_.symm
    subst h5s h7s h9s
    have B10 := Aside0.mk hT3_.tail.at2
    refine norm_ (a' := ?_) ?_ ?_
    rotate_left
    · simp only [putAll, Act.put, List.setIfInBounds_toArray, List.set_cons_zero, List.set_cons_succ]
      rfl
    refine pure_ (i := 11) (N := some 12) (v := ?_) (a' := ?_) #[true, true, true, true, true, true, true, true, true, true, true, true, false, false] rfl rfl (by kernel_rfl) (fun _ _ _ h => h) (Or.inl ⟨by rfl, ?_⟩) ?_ ?_
    rotate_left
    · intro w'
      go_simp
      with_reducible rfl
    rotate_left
    · simp only [Act.put, List.setIfInBounds_toArray, List.set_cons_zero, List.set_cons_succ, i64_w, i32_w]
      rfl
    refine pure_ (i := 12) (N := some 13) (v := ?_) (a' := ?_) #[true, true, true, true, true, true, true, true, true, true, true, true, true, false] rfl rfl (by kernel_rfl) (fun _ _ _ h => h) (Or.inl ⟨by rfl, ?_⟩) ?_ ?_
    rotate_left
    · intro w'
      go_simp
      with_reducible rfl
    rotate_left
    · simp only [Act.put, List.setIfInBounds_toArray, List.set_cons_zero, List.set_cons_succ, i64_w, i32_w]
      rfl
    refine pure_ (i := 13) (N := some 14) (v := ?_) (a' := ?_) #[true, true, true, true, true, true, true, true, true, true, true, true, true, true] rfl rfl (by kernel_rfl) (fun _ _ _ h => h) (Or.inl ⟨by rfl, ?_⟩) ?_ ?_
    rotate_left
    · intro w'
      go_simp
      with_reducible rfl
    rotate_left
    · simp only [Act.put, List.setIfInBounds_toArray, List.set_cons_zero, List.set_cons_succ, i64_w, i32_w]
      rfl
    refine done_ (by kernel_rfl) ?_
    have hoo : (fitsF (lg : Int) used n2 == fitsF (lg : Int) used n2) = true := by simp
    clear hoo
    by_cases hf : fitsF (lg : Int) used n2 = true
    case pos =>
      have HF := Aside0.mk hf
      clear hf
      go_wp2_with fail
      refine (commit_ok (n := 40) (l := l) (n2 := n2) (c2 := c6) B10.out AI.out.len (by decide) AI.out.wl (fun W' hW => hW.rowC') (good_right HG.out.1) AI.out.us HF.out ⟨AI.out.ep0, by have := AI.out.ep1; have := AK.out; omega⟩ (by have := AI.out.sq; have := AK.out; omega) (by rw [AI.out.pl]; decide) AI.out.pb (by have := AI.out.nl; have := AK.out; omega)).mono ?_
      rintro e w12 ⟨rfl, hS12⟩
      have HI := Aside0.mk (AI.out.ok (x := Frame.frameF ep (seq : Int) (deltaF l)) HG.out.1 HG.out.2 HF.out)
      have B12 := Aside0.mk hS12.at3.tail.at3
      clear hS12
      go_wp2_with fail
      go_roundg (gk - 1)
      case measure => have := AK.out; omega
      case rel => exact ⟨i + 1, ep, _, _, _, _, las, _, by go_num, by have := AK.out; omega, HI.out.up (by omega) (Nat.le_refl _), B12.out⟩
    case neg =>
    have HF := Aside0.mk (Bool.eq_false_iff.2 hf)
    clear hf
    go_wp2_with fail
    refine (commit_full (l := l) (n2 := n2) (c2 := c6) B10.out B10.out.at3.rowC' (good_right HG.out.1) AI.out.us HF.out).mono ?_
    rintro e w12 ⟨rfl, hS12⟩
    have B12 := Aside0.mk hS12
    clear hS12
    go_wp2_with fail
    refine (all_ B12.out (by rw [AI.out.pl]; decide) AI.out.pb).mono ?_
    rintro e w13 ⟨v13, rfl, hS13⟩
    obtain ⟨A13, c13, rfl⟩ := Sep.rowVN hS13 AI.out.pl
    have B13 := Aside0.mk hS13
    clear hS13
    go_wp2_with fail
    refine (Store.join_ (l := pages) (by have h := (Sep.rowVC rfl B13.out).2.2; exact h) (by decide) AI.out.pb).mono ?_
    rintro e w14 ⟨rfl, hw14⟩
    rw [HS5.out]
    have B14 := Aside0.mk B13.out.tail
    rw [hw14] at B14
    clear hw14
    go_wp2_with fail
    refine (seen_ B14.out.at2).mono ?_
    rintro e w15 ⟨v15, rfl, hS15⟩
    rw [HFL.out] at hS15
    have B15 := Aside0.mk hS15
    clear hS15
    have hs15 : (convert 30 9 v15).run Try.prog w15 = .ok (.string s6) w15 := by rw [← HS6.out]; exact strV B15.out
    go_wp2_with fail
    refine (used_ B15.out.at3).mono ?_
    rintro e w16 ⟨rfl, rfl⟩
    go_wp2_with fail
    refine (seq_ B15.out.at3).mono ?_
    rintro e w16 ⟨rfl, rfl⟩
    go_wp2_with fail
    refine (check_ (n := 40) B15.out.tail.at2 AI.out.len (by decide) AI.out.wl ⟨AI.out.ep0, by have := AI.out.ep1; have := AK.out; omega⟩ (fun k hk => by have := AI.out.nk k hk; rw [AI.out.pl]; exact this) (by rw [AI.out.pl]; decide)).mono ?_
    rintro e w17 ⟨rfl, hS17⟩
    have HI2' := AI.out.chk
    obtain ⟨CL, hCL⟩ : ∃ x, chkL 40 las wt (lg : Int) 6 ep pages named = x := ⟨_, rfl⟩
    obtain ⟨E, hE⟩ : ∃ x, ep + 1 = x := ⟨_, rfl⟩
    rw [hCL, hE] at hS17 HI2'
    have HI2 := Aside0.mk HI2'
    have B17 := Aside0.mk hS17
    clear hS17 HI2' hCL hE hs15
    by_cases hf : fitsF (lg : Int) 0 n2 = true
    case pos =>
      have HF2 := Aside0.mk hf
      clear hf
      go_wp2_with fail
      refine (commit_ok (n := 40) (l := l) (n2 := n2) (c2 := c6) (used := 0) (seq := 0) B17.out HI2.out.len (by decide) HI2.out.wl (fun W' hW => hW.rowC') (good_right HG.out.1) HI2.out.us HF2.out ⟨HI2.out.ep0, by have := HI2.out.ep1; have := AK.out; omega⟩ (by decide) (by rw [HI2.out.pl]; decide) HI2.out.pb (by decide)).mono ?_
      rintro e w18 ⟨rfl, hS18⟩
      have HI3 := Aside0.mk (HI2.out.ok (x := Frame.frameF E ((0 : Nat) : Int) (deltaF l)) HG.out.1 HG.out.2 HF2.out)
      have B18 := Aside0.mk hS18
      clear hS18
      go_wp2_with fail
      refine (root_ B18.out).mono ?_
      rintro e w19 ⟨rfl, hb19⟩
      have B19 := Aside0.mk (B18.out.below hb19)
      clear hb19
      go_wp2_with fail
      refine (most_ (lg : Int) E 6 (by decide) _).mono ?_
      rintro e w20 ⟨mo, rfl, hmo, hb20⟩
      have hle : (n2 : Int) ≤ mo := (hmo.2.2 n2 (by have := HG.out.1.2.2; have := HG.out.2; omega)).1 HF2.out
      have hled : decide ((n2 : Int) ≤ mo) = true := decide_eq_true hle
      have B20 := Aside0.mk (B19.out.below hb20).at3.tail.at3
      clear hb20 hmo
      go_wp2_with fail
      go_roundg (gk - 1)
      case measure => have := AK.out; omega
      case rel => exact ⟨i + 1, E, _, _, _, _, CL, _, by go_num, by have := AK.out; omega, HI3.out.up (by omega) (by omega), B20.out⟩
    case neg =>
    have HF2 := Aside0.mk (Bool.eq_false_iff.2 hf)
    clear hf
    go_wp2_with fail
    refine (commit_full (l := l) (n2 := n2) (c2 := c6) (used := 0) B17.out B17.out.at3.rowC' (good_right HG.out.1) HI2.out.us HF2.out).mono ?_
    rintro e w18 ⟨rfl, hS18⟩
    have B18 := Aside0.mk hS18
    clear hS18
    go_wp2_with fail
    refine (root_ B18.out).mono ?_
    rintro e w19 ⟨rfl, hb19⟩
    have B19 := Aside0.mk (B18.out.below hb19)
    clear hb19
    go_wp2_with fail
    refine (most_ (lg : Int) E 6 (by decide) _).mono ?_
    rintro e w20 ⟨mo, rfl, hmo, hb20⟩
    have hle : ¬ (n2 : Int) ≤ mo := fun h => by
      have h1 := (hmo.2.2 n2 (by have := HG.out.1.2.2; have := HG.out.2; omega)).2 h
      rw [HF2.out] at h1
      cases h1
    have hled : decide ((n2 : Int) ≤ mo) = false := decide_eq_false hle
    have B20 := Aside0.mk (B19.out.below hb20).at3.tail.at3
    clear hb20 hmo
    go_wp2_with fail
    go_roundg (gk - 1)
    case measure => have := AK.out; omega
    case rel => exact ⟨i + 1, E, _, _, _, _, CL, _, by go_num, by have := AK.out; omega, HI2.out.up (by omega) (by omega), B20.out⟩
end Go.Proofs.Ytjngnigelkgekaa.Full
namespace Go.Proofs.Ytjngnigelkgekaa.Kit
open Go.ChangeShapes Go.WideShapes Go.ChangeAt Go.RowKit Go.Proofs.YtjngnigelkgekaaW.PrintWords
set_option linter.unusedVariables false
section
variable {H : Type} {enc : TypeId × Value → H} {P : Program} {W : World} {base : Nat} {sp : Nat → Bool} {held : Bool}
/-- A slice of whole numbers. -/
theorem ints_C {T E : TypeId} {k : IntKind} {a : Option Addr} {len cap : Nat} {d : DataW H} {p : List MemPlace} (hT : P.underlying T = some (.slice E)) (hE : P.underlying E = some (.int k)) (hc : P.cellsOf E = 1)
    (h : DataW.Trod enc P W base (fun _ => true) held T (.slice a len cap) d p) : ∃ xs : List Int, len ≤ cap ∧ (Kd.int k).C W a len xs ∧ ∀ n ∈ xs, (Lit.int k n).wf = true := by
  obtain ⟨fuel, hf⟩ := h
  rcases open_ints hT hE hc hf with ⟨hcs, _⟩ | ⟨x, l, c, zs, hcs, _, hl, hm, hz, _, hcell, hwz⟩
  · simp [Value.cells] at hcs
    obtain ⟨rfl, rfl, rfl⟩ := hcs
    exact ⟨[], Nat.le_refl _, Kd.C_nil _ _, by simp⟩
  · simp [Value.cells] at hcs
    obtain ⟨rfl, rfl, rfl⟩ := hcs
    simp at hz
    simp only [maxLen] at hm
    refine ⟨zs.take len, hl, Kd.C_of_reads (d := (0 : Int)) (h1 := fun _ => rfl) ⟨by rw [List.length_take]; omega, by omega, fun h0 => ⟨x, rfl, fun j hj => ?_⟩⟩, fun n hn => hwz n (List.mem_of_mem_take hn)⟩
    rw [hcell j (by omega), List.getD_eq_getElem?_getD, List.getD_eq_getElem?_getD, List.getElem?_take, if_pos hj]
end
end Go.Proofs.Ytjngnigelkgekaa.Kit
