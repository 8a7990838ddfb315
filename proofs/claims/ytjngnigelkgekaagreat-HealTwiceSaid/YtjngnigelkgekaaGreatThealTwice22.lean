/- StOpen2, Heal1, Heal2, HealP, HealQ: what HealTwice needs. -/
import Derived.Test.YtjngnigelkgekaaGreatThealTwice21
import Derived.Deep.Cut
set_option linter.unusedVariables false
set_option linter.unusedSimpArgs false
namespace Go.Proofs.YtjngnigelkgekaaGreat.RStore
open Go.RowKit Go.Proofs.YtjngnigelkgekaaGreatW.PrintWords Go.Proofs.YtjngnigelkgekaaGreatW.PrintLast Go.Proofs.YtjngnigelkgekaaGreatW.PrintMore Go.Proofs.YtjngnigelkgekaaGreat.Kit Go.Proofs.YtjngnigelkgekaaGreat.Plain Go.Proofs.YtjngnigelkgekaaGreat.Disk Go.Proofs.YtjngnigelkgekaaGreat.Root
open Go.Proofs.YtjngnigelkgekaaGreat.Delta (Chg KC deltaF rightF)
open Go.Proofs.YtjngnigelkgekaaGreat.Store (KP StB applyF pgAll pgAll_len openN insAll chkL open_ok open_none open_full check_ check_full commit_ok fitsF)
open Go.Proofs.YtjngnigelkgekaaGreat.Home (RT RTL pagesF)
open Go.Proofs.YtjngnigelkgekaaGreat.Redo (appR sizeF recR)
open Go.Proofs.YtjngnigelkgekaaGreat.Frame (frameF)
open Go.Proofs.YtjngnigelkgekaaGreat.Deed
def NoOpen (n : Nat) (las : List Int) (wt : Wt) (er : Int) : Prop := (er = 22 ∧ decide (0 < (bestTo n (secF n las wt) 2).2.2) = false) ∨ (er = 24 ∧ (bestTo n (secF n las wt) 2).2.2 = 4294967295)
theorem NoOpen.ne {n : Nat} {las : List Int} {wt : Wt} {er : Int} (h : NoOpen n las wt er) : 22 ≤ er ∧ er ≤ 24 := by rcases h with ⟨rfl, _⟩ | ⟨rfl, _⟩ <;> omega
theorem open_cases {n : Nat} {las : List Int} {wt : Wt} (h : Dk n las wt) (hn : n ≤ 160) : (∃ er, NoOpen n las wt er) ∨ ∃ (a b : Nat) (E : Int), Any n las wt a b E ∧ E < 4294967295 := by
  by_cases h0 : 0 < (bestTo (n : Int) (secF n las wt) 2).2.2
  · by_cases h1 : (bestTo (n : Int) (secF n las wt) 2).2.2 = 4294967295
    · exact .inl ⟨24, .inr ⟨rfl, h1⟩⟩
    · obtain ⟨a, b, E, ha⟩ := any_of h hn h0
      have h2 := ha.best
      have h3 := ha.e32
      rw [h2] at h1
      have h4 : ¬ E = 4294967295 := h1
      exact .inr ⟨a, b, E, ha, by omega⟩
  · exact .inl ⟨22, .inl ⟨rfl, decide_eq_false h0⟩⟩
section
variable {w0 W : World} {F : List HP} {g gr n : Nat} {las : List Int} {wt : Wt}
theorem sopen_nil {er : Int} (h : Sep w0 W (Dsk g las wt :: F)) (hd : Dk n las wt) (hn : n ≤ 160) (hno : NoOpen n las wt er) :
    Calls Tryz.prog 24 #[.pointer (some ⟨g, 0, none⟩)] W fun e w' => e = .returned (.tuple #[.pointer none, .int .i64 er]) ∧ Sep w0 w' (Dsk g las wt :: F) := by
  rcases hno with ⟨rfl, h0⟩ | ⟨rfl, h0⟩
  · exact open_none h hd.len hn hd.wl hd.secB h0
  · exact open_full h hd.len hn hd.wl hd.secB h0
theorem ropen_nil {er k : Int} {d : Nat} (h : Sep w0 W (RTL gr n las wt k (d : Int) :: F)) (hd : Dk n las wt) (hno : NoOpen n las wt er) :
    Calls Tryz.prog 40 #[.pointer (some ⟨gr, 0, none⟩)] W fun e w' => e = .returned (.tuple #[.pointer none, .int .i64 er]) ∧ Sep w0 w' (RTL gr n las wt k (d : Int) :: F) := by
  rcases hno with ⟨rfl, h0⟩ | ⟨rfl, h0⟩
  · exact ropen_none h hd h0
  · exact ropen_full h hd h0
theorem sopen_ok {a b : Nat} {E : Int} (h : Sep w0 W (Dsk g las wt :: F)) (ha : Any n las wt a b E) (he : E < 4294967295) :
    Calls Tryz.prog 24 #[.pointer (some ⟨g, 0, none⟩)] W fun e w' => ∃ gs m, e = .returned (.tuple #[.pointer (some ⟨gs, 0, none⟩), .int .i64 0]) ∧ Sep w0 w' (StB gs g m (a : Int) (b : Int) (E + 1) (shownG n a b E las wt) [] 0 0 :: Dsk g (openG n a b E las wt) (fun _ => none) :: F) := by
  have hp := ha.pages
  have hr := ha.rows
  have hn := ha.nums
  exact open_ok h ha.dk.len ha.n160 ha.dk.wl ha.dk.secB (a : Int) (b : Int) E ha.best (by omega) he ha.logB (by rw [hp.1]; omega) (by rw [hp.1]) (fun p hq => by have := (hp.2 p hq).1; omega) hr.1 (fun x hx => (hr.2 x hx).1)
theorem ropen_all {a b d : Nat} {E : Int} (h : Sep w0 W (RT gr n las wt d :: F)) (ha : Any n las wt a b E) (he : E < 4294967295) (hd : d ≤ 1000000) :
    Calls Tryz.prog 40 #[.pointer (some ⟨gr, 0, none⟩)] W fun e w' => ∃ gx, e = .returned (.tuple #[.pointer (some ⟨gx, 0, none⟩), .int .i64 0]) ∧ ∃ d' : Nat, d' ≤ d + 68 ∧ Sep w0 w' (RStB gx gr (a : Int) (b : Int) (E + 1) (shownG n a b E las wt) (List.replicate b false) 0 0 :: RT gr n (openG n a b E las wt) (fun _ => none) d' :: F) := by
  refine (ropen_ok h ha he (by decide) hd).mono ?_
  rintro e w' ⟨gx, rfl, hS⟩
  have hn := ha.nums
  have h1 := rq_all hS.at2
  have h2 : runD (las, wt) (chkD a b E (shownG n a b E las wt) (nmL (nmAllB (List.replicate b false) (rowsG n a b E las wt)) b)) = (openG n a b E las wt, fun _ => none) := ha.st.deeds
  rw [h2] at h1
  refine ⟨gx, rfl, _, ?_, h1.at2⟩
  · rw [chkD_len]
    have := nmL_len (nmAllB (List.replicate b false) (rowsG n a b E las wt)) b
    omega
end
end Go.Proofs.YtjngnigelkgekaaGreat.RStore
namespace Go.Proofs.YtjngnigelkgekaaGreat.Kit.Sep
open Go.RowKit Go.Proofs.YtjngnigelkgekaaGreatW.PrintWords Go.Proofs.YtjngnigelkgekaaGreatW.PrintLast Go.Proofs.YtjngnigelkgekaaGreatW.PrintMore Go.Proofs.YtjngnigelkgekaaGreat.Kit
theorem fxBlk {w0 W : World} {F : List HP} {g : Nat} {t : TypeId} {cs : Array Value} (h : Sep w0 W (Blk g t cs :: F)) : Sep w0 W (Fx (fun W => ∀ i, W.cell? ⟨g, i, none⟩ = cs[i]?) :: F) :=
  h.imp (fun ok hp => ⟨fun W' hm i => cell_of_row W' g i cs t (0, 0) ((hm _ ((hp.1 _).2 rfl)).trans hp.2), fun k hk => by rw [(hp.1 k).1 hk]; exact blk_lt hp.2⟩)
end Go.Proofs.YtjngnigelkgekaaGreat.Kit.Sep
namespace Go.Proofs.YtjngnigelkgekaaGreat.Heal
open Go.RowKit Go.Proofs.YtjngnigelkgekaaGreatW.PrintWords Go.Proofs.YtjngnigelkgekaaGreatW.PrintLast Go.Proofs.YtjngnigelkgekaaGreatW.PrintMore Go.Proofs.YtjngnigelkgekaaGreat.Kit Go.Proofs.YtjngnigelkgekaaGreat.Plain Go.Proofs.YtjngnigelkgekaaGreat.Disk Go.Proofs.YtjngnigelkgekaaGreat.Root
open Go.Proofs.YtjngnigelkgekaaGreat.Store (KP elemP ov_at ov_C)
open Go.Proofs.YtjngnigelkgekaaGreat.Home (putP put_ mayF atF)
open Go.Proofs.YtjngnigelkgekaaGreat.RStore
open Go.Proofs.YtjngnigelkgekaaGreat.Deed
structure HF (g gb gR gP gN : Nat) (js : List Nat) (ks : List Int) (a b : Nat) (E : Int) (Ap : Option Addr) (cp : Nat) (pages : List (List Int)) (cs : List OV) (W : World) : Prop where
  bx : ∀ i, W.cell? ⟨gb, i, none⟩ = #[Value.pointer (some ⟨g, 0, none⟩)][i]?
  rt : ∀ i, W.cell? ⟨gR, i, none⟩ = #[Value.int .i64 (a : Int), Value.int .i64 (b : Int), Value.int .u32 E][i]?
  pg : ∀ i, W.cell? ⟨gP, i, none⟩ = #[Value.slice Ap pages.length cp][i]?
  pc : KV.C W Ap pages.length cs
  pe : EachV KP pages cs W
  nx : ∀ i, W.cell? ⟨gN, i, none⟩ = #[Value.int .i64 (a : Int), Value.int .i64 (b : Int), Value.int .u32 (E + 1)][i]?
  kk : js.length = ks.length ∧ ∀ (j : Nat) q k, js[j]? = some q → ks[j]? = some k → W.cell? ⟨q, 0, none⟩ = some (.int .i64 k)
section
variable {w0 W : World} {F : List HP} {g n gb gR gP gN : Nat} {js : List Nat} {ks : List Int} {a b : Nat} {E : Int} {Ap : Option Addr} {cp : Nat} {pages : List (List Int)} {cs : List OV} {las : List Int} {wt : Wt}
set_option maxHeartbeats 1600000 in
set_option maxRecDepth 100000 in
theorem put97_ (h : Sep w0 W (Dsk g las wt :: Fx (HF g gb gR gP gN js ks a b E Ap cp pages cs) :: F)) (hl : las.length = 64 * n) (hn : n ≤ 160) {j q : Nat} {k : Int} (hq : js[j]? = some q) (hk : ks[j]? = some k) (hkb : 0 ≤ k ∧ k < (pages.length : Int)) (hpb : pages.length ≤ 64) :
    Calls Tryz.prog 97 #[.pointer (some ⟨gb, 0, none⟩), .pointer (some ⟨gR, 0, none⟩), .pointer (some ⟨q, 0, none⟩), .pointer (some ⟨gP, 0, none⟩)] W fun e w' => e = .returned (.tuple #[]) ∧ Sep w0 w' (Dsk g las (putP n wt (a : Int) (b : Int) E k (pages.getD k.toNat [])) :: Fx (HF g gb gR gP gN js ks a b E Ap cp pages cs) :: F) := by
  have B0 := Aside0.mk h.drew
  have hf := B0.out.at2.fx
  obtain ⟨kn, rfl⟩ := Int.eq_ofNat_of_zero_le hkb.1
  have hkn : kn < pages.length := by omega
  obtain ⟨hc', B, cB, hov, hlc⟩ := ov_at hf.pe hkn
  have HX : Aside0 (pages.getD ((kn : Nat) : Int).toNat [] = pages[kn]) := ⟨by rw [Int.toNat_natCast, List.getD_eq_getElem?_getD, List.getElem?_eq_getElem hkn]; rfl⟩
  have HCX : Aside0 (∀ W', Sep w0 W' (Fx (HF g gb gR gP gN js ks a b E Ap cp pages cs) :: F) → (Kd.int .u8).C W' B (pages[kn]).length pages[kn]) := ⟨fun W' hW => ov_C hW.fx.pe hkn hc' hov⟩
  obtain ⟨_, ap, cs1, hAp, hK1, hc0, _⟩ := elem_ (d := KV) hf.pc hkn
  have hK2 : cs1 = [(cs[kn]).1] := hK1
  subst hK2
  have hcell := hc0 _ rfl
  rw [show kn * KV.sz = kn from Nat.mul_one kn, hov] at hcell
  obtain ⟨XL, hXL⟩ : ∃ L, (pages[kn]).length = L := ⟨_, rfl⟩
  obtain ⟨x, hx⟩ : ∃ x, pages[kn] = x := ⟨_, rfl⟩
  rw [hXL] at hcell hlc HCX
  rw [hx] at HCX HX
  have HLC := Aside0.mk hlc
  obtain ⟨N, hN⟩ : ∃ N, pages.length = N := ⟨_, rfl⟩
  have z0 := (hf.bx 0).trans rfl
  have z1 := (hf.rt 0).trans rfl
  have z2 := (hf.rt 1).trans rfl
  have z3 := (hf.rt 2).trans rfl
  have z4 := hf.kk.2 j q _ hq hk
  have z5 := (hf.pg 0).trans rfl
  rw [hN] at z5
  have Z := Aside0.mk (And.intro z0 (And.intro z1 (And.intro z2 (And.intro z3 (And.intro z4 (And.intro z5 hcell))))))
  have HL := Aside0.mk (And.intro hl hn)
  have hkl : (kn : Int) < (N : Int) := by omega
  subst hAp
  clear h hl hn hq hk hkb hpb hf hkn hov hlc hx hXL hc0 hcell hK1 z0 z1 z2 z3 z4 z5 hN hc'
  go_enter Tryz.func97, Tryz.ntmps97
  go_wp2_with fail
  refine start_ (n := 8) (S := fun w' => w'.cell? ⟨gb, 0, none⟩ = some (.pointer (some ⟨g, 0, none⟩)) ∧ w'.cell? ⟨gR, 0, none⟩ = some (.int .i64 (a : Int)) ∧ w'.cell? ⟨gR, 1, none⟩ = some (.int .i64 (b : Int)) ∧ w'.cell? ⟨gR, 2, none⟩ = some (.int .u32 E) ∧ w'.cell? ⟨q, 0, none⟩ = some (.int .i64 (kn : Int)) ∧ w'.cell? ⟨gP, 0, none⟩ = some (.slice (some ap) N cp) ∧ w'.cell? (ap.add kn) = some (.slice B XL cB)) (ds := [7]) #[fF,fF,fF,fF,fF,fF,fF,fF] (by kernel_rfl) rfl rfl ⟨Z.out.1, Z.out.2.1, Z.out.2.2.1, Z.out.2.2.2.1, Z.out.2.2.2.2.1, Z.out.2.2.2.2.2.1, Z.out.2.2.2.2.2.2⟩ (fun hHeld => ?_)
  refine ta_ 0 4 ?_ #[tT,fF,fF,fF,fF,fF,fF,fF] rfl rfl ?_ hHeld ?_ ?_ ?_
  rotate_left
  · rintro w' ⟨s0, s1, s2, s3, s4, s5, s6⟩
    go_simp
    with_reducible rfl
  rotate_left
  · simp only [aP]
    rfl
  refine ta_ 1 5 ?_ #[tT,tT,fF,fF,fF,fF,fF,fF] rfl rfl ?_ hHeld ?_ ?_ ?_
  rotate_left
  · rintro w' ⟨s0, s1, s2, s3, s4, s5, s6⟩
    go_simp
    with_reducible rfl
  rotate_left
  · simp only [aP]
    rfl
  refine ta_ 2 6 ?_ #[tT,tT,tT,fF,fF,fF,fF,fF] rfl rfl ?_ hHeld ?_ ?_ ?_
  rotate_left
  · rintro w' ⟨s0, s1, s2, s3, s4, s5, s6⟩
    go_simp
    with_reducible rfl
  rotate_left
  · simp only [aP]
    rfl
  refine ta_ 3 7 ?_ #[tT,tT,tT,tT,fF,fF,fF,fF] rfl rfl ?_ hHeld ?_ ?_ ?_
  rotate_left
  · rintro w' ⟨s0, s1, s2, s3, s4, s5, s6⟩
    go_simp
    with_reducible rfl
  rotate_left
  · simp only [aP]
    rfl
  refine ta_ 4 8 ?_ #[tT,tT,tT,tT,tT,fF,fF,fF] rfl rfl ?_ hHeld ?_ ?_ ?_
  rotate_left
  · rintro w' ⟨s0, s1, s2, s3, s4, s5, s6⟩
    go_simp
    with_reducible rfl
  rotate_left
  · simp only [aP]
    rfl
  refine pu_ 5 9 ?_ #[tT,tT,tT,tT,tT,tT,fF,fF] rfl rfl ?_ ?_ ?_ ?_
  rotate_left
  · intro w'
    go_simp
    with_reducible rfl
  rotate_left
  · simp only [aP]
    rfl
  refine ta_ 6 10 ?_ #[tT,tT,tT,tT,tT,tT,tT,fF] rfl rfl ?_ hHeld ?_ ?_ ?_
  rotate_left
  · rintro w' ⟨s0, s1, s2, s3, s4, s5, s6⟩
    go_simp
    with_reducible rfl
  rotate_left
  · simp only [aP]
    rfl
  refine last_ (i := 7) (N := some 11) #[tT,tT,tT,tT,tT,tT,tT,tT] rfl rfl (by kernel_rfl) (by decide) (fun K hK => ?_)
  refine goes_ Tryz.func94 (by kernel_rfl) rfl #[.pointer (some ⟨g, 0, none⟩), .agg #[.int .i64 (a : Int), .int .i64 (b : Int), .int .u32 E], .int .i64 (kn : Int), .slice B XL cB] (by rfl) rfl rfl (by simp only [List.map_toArray, List.map_cons, List.map_nil]; rfl) ?_
  with_reducible refine (put_ B0.out HL.out.1 HL.out.2 (a : Int) (b : Int) E (kn : Int) HCX.out HLC.out).mono ?_
  rintro e w6 ⟨rfl, hS6⟩
  refine ⟨_, rfl, ?_⟩
  rw [← HX.out] at hS6
  have B6 := Aside0.mk hS6
  clear hS6
  refine hK.out _ _ ?_
  clear hK K
  refine norm_ (a' := ?_) ?_ ?_
  rotate_left
  · show Act.put _ (some 11) _ = _
    simp only [aP]
    rfl
  refine done_ (by kernel_rfl) ?_
  go_wp2_with fail
  go_end0
  exact ⟨rfl, B6.out⟩
set_option maxHeartbeats 1600000 in
set_option maxRecDepth 100000 in
theorem root98_ (h : Sep w0 W (Dsk g las wt :: Fx (HF g gb gR gP gN js ks a b E Ap cp pages cs) :: F)) (hl : las.length = 64 * n) (hn : n ≤ 160) (hE : 0 ≤ E ∧ E < 4294967295) :
    Calls Tryz.prog 98 #[.pointer (some ⟨gb, 0, none⟩), .pointer (some ⟨gN, 0, none⟩)] W fun e w' => e = .returned (.tuple #[]) ∧ Sep w0 w' (Dsk g las (putW n wt ((E + 1) % 2).toNat (rootF (m32 (a : Int)) (m32 (b : Int)) (E + 1))) :: Fx (HF g gb gR gP gN js ks a b E Ap cp pages cs) :: F) := by
  have B0 := Aside0.mk h.drew
  have hf := B0.out.at2.fx
  obtain ⟨E1, hE1⟩ : ∃ x, E + 1 = x := ⟨_, rfl⟩
  have z0 := (hf.bx 0).trans rfl
  have z1 := (hf.nx 0).trans rfl
  have z2 := (hf.nx 1).trans rfl
  have z3 := (hf.nx 2).trans rfl
  have HQ : Aside0 (∀ W', HF g gb gR gP gN js ks a b E Ap cp pages cs W' → W'.cell? ⟨gb, 0, none⟩ = some (.pointer (some ⟨g, 0, none⟩)) ∧ W'.cell? ⟨gN, 0, none⟩ = some (.int .i64 (a : Int)) ∧ W'.cell? ⟨gN, 1, none⟩ = some (.int .i64 (b : Int)) ∧ W'.cell? ⟨gN, 2, none⟩ = some (.int .u32 E1)) := ⟨fun W' hf => ⟨(hf.bx 0).trans rfl, (hf.nx 0).trans rfl, (hf.nx 1).trans rfl, by rw [← hE1]; exact (hf.nx 2).trans rfl⟩⟩
  have HE1 := Aside0.mk hE1
  have HEB : Aside0 (0 ≤ E1 ∧ E1 ≤ 4294967295) := ⟨by omega⟩
  have HL := Aside0.mk (And.intro hl hn)
  obtain ⟨jj, hjj⟩ := Int.eq_ofNat_of_zero_le (show 0 ≤ E1 % 2 by omega)
  have HJJ : Aside0 (((E + 1) % 2).toNat = jj) := ⟨by rw [hE1, hjj, Int.toNat_natCast]⟩
  have hjt : E1.tmod 2 = (jj : Int) := by rw [Int.tmod_eq_emod_of_nonneg HEB.out.1]; exact hjj
  have hjw : IntKind.i64.wrap (jj : Int) = (jj : Int) := by rw [IntKind.wrap_i64]; omega
  have hjw2 : IntKind.u32.wrap (jj : Int) = (jj : Int) := by rw [IntKind.wrap_u32]; omega
  clear h hl hn hE hf z0 z1 z2 z3 hE1 hjj
  go_enter Tryz.func98, Tryz.ntmps98
  go_wp2_with fail
  refine start_ (n := 8) (S := fun w' => w'.cell? ⟨gb, 0, none⟩ = some (.pointer (some ⟨g, 0, none⟩)) ∧ w'.cell? ⟨gN, 0, none⟩ = some (.int .i64 (a : Int)) ∧ w'.cell? ⟨gN, 1, none⟩ = some (.int .i64 (b : Int)) ∧ w'.cell? ⟨gN, 2, none⟩ = some (.int .u32 E1)) (ds := [7]) #[Z,Z,Z,Z,Z,Z,Z,Z] (by kernel_rfl) rfl rfl ⟨(HQ.out _ B0.out.at2.fx).1, (HQ.out _ B0.out.at2.fx).2.1, (HQ.out _ B0.out.at2.fx).2.2.1, (HQ.out _ B0.out.at2.fx).2.2.2⟩ (fun hHeld => ?_)
  refine pu_ 1 3 ?_ #[Z,J,Z,Z,Z,Z,Z,Z] rfl rfl ?_ ?_ ?_ ?_
  rotate_left
  · intro w'
    go_simp
    with_reducible rfl
  rotate_left
  · simp only [aP]
    rfl
  refine ta_ 0 2 ?_ #[J,J,Z,Z,Z,Z,Z,Z] rfl rfl ?_ hHeld ?_ ?_ ?_
  rotate_left
  · rintro w' ⟨s0, s1, s2, s3⟩
    go_simp
    with_reducible rfl
  rotate_left
  · simp only [aP]
    rfl
  refine ta_ 2 4 ?_ #[J,J,J,Z,Z,Z,Z,Z] rfl rfl ?_ hHeld ?_ ?_ ?_
  rotate_left
  · rintro w' ⟨s0, s1, s2, s3⟩
    go_simp
    with_reducible rfl
  rotate_left
  · simp only [aP]
    rfl
  refine pu_ 3 5 ?_ #[J,J,J,J,Z,Z,Z,Z] rfl rfl ?_ ?_ ?_ ?_
  rotate_left
  · intro w'
    go_simp
    with_reducible rfl
  rotate_left
  · simp only [aP]
    rfl
  refine pu_ 4 6 ?_ #[J,J,J,J,J,Z,Z,Z] rfl rfl ?_ ?_ ?_ ?_
  rotate_left
  · intro w'
    go_simp
    with_reducible rfl
  rotate_left
  · simp only [aP]
    rfl
  refine ta_ 5 7 ?_ #[J,J,J,J,J,J,Z,Z] rfl rfl ?_ hHeld ?_ ?_ ?_
  rotate_left
  · rintro w' ⟨s0, s1, s2, s3⟩
    go_simp
    with_reducible rfl
  rotate_left
  · simp only [aP]
    rfl
  refine one_ (i := 6) (N := some 8) #[J,J,J,J,J,J,J,Z] rfl rfl (by kernel_rfl) (by decide) (fun K hK => ?_)
  refine goes_ Tryz.func68 (by kernel_rfl) rfl #[.agg #[.int .i64 (a : Int), .int .i64 (b : Int), .int .u32 E1]] (by rfl) rfl rfl (by simp only [List.map_toArray, List.map_cons, List.map_nil]; rfl) ?_
  with_reducible refine (Root.bytes_ (a : Int) (b : Int) E1 HEB.out _).mono ?_
  rintro e w6 ⟨v6, rfl, hS6⟩
  refine ⟨_, rfl, ?_⟩
  obtain ⟨R6, hR6⟩ : ∃ R, rootF (m32 (a : Int)) (m32 (b : Int)) E1 = R := ⟨_, rfl⟩
  have HR6 := Aside0.mk hR6
  rw [hR6] at hS6
  obtain ⟨n6, hn6⟩ : ∃ n, R6.length = n := ⟨_, rfl⟩
  obtain ⟨A6, c6, rfl⟩ := hS6.rowN hn6
  have B7 := Aside0.mk (B0.out.lift1 hS6).at2
  clear hS6 hR6 hn6
  refine hK.out _ _ ⟨(HQ.out _ B7.out.at3.fx).1, (HQ.out _ B7.out.at3.fx).2.1, (HQ.out _ B7.out.at3.fx).2.2.1, (HQ.out _ B7.out.at3.fx).2.2.2⟩ (fun hHeld => ?_)
  clear hK K
  refine norm_ (a' := ?_) ?_ ?_
  rotate_left
  · show Act.put _ (some 8) _ = _
    simp only [aP]
    rfl
  refine last_ (i := 7) (N := some 9) #[J,J,J,J,J,J,J,J] rfl rfl (by kernel_rfl) (by decide) (fun K hK => ?_)
  refine goes_ Tryz.func66 (by kernel_rfl) rfl #[.pointer (some ⟨g, 0, none⟩), .int .i64 (jj : Int), .slice A6 n6 c6] (by rfl) rfl rfl (by simp only [List.map_toArray, List.map_cons, List.map_nil]; rfl) ?_
  with_reducible refine (dwrite_ B7.out HL.out.1 HL.out.2 jj B7.out.at2.rowC' B7.out.at2.rowC.2.1).mono ?_
  rintro e w7 ⟨rfl, hS7⟩
  refine ⟨_, rfl, ?_⟩
  rw [← HR6.out, ← HJJ.out, ← HE1.out] at hS7
  have B8 := Aside0.mk hS7.drop2
  clear hS7
  refine hK.out _ _ ?_
  clear hK K
  refine norm_ (a' := ?_) ?_ ?_
  rotate_left
  · show Act.put _ (some 9) _ = _
    simp only [aP]
    rfl
  refine done_ (by kernel_rfl) ?_
  go_wp2_with fail
  go_end0
  exact ⟨rfl, B8.out⟩
end
end Go.Proofs.YtjngnigelkgekaaGreat.Heal
namespace Go.Proofs.YtjngnigelkgekaaGreat.Heal
open Go.RowKit Go.Proofs.YtjngnigelkgekaaGreatW.PrintWords Go.Proofs.YtjngnigelkgekaaGreatW.PrintLast Go.Proofs.YtjngnigelkgekaaGreatW.PrintMore Go.Proofs.YtjngnigelkgekaaGreat.Kit Go.Proofs.YtjngnigelkgekaaGreat.Plain Go.Proofs.YtjngnigelkgekaaGreat.Disk Go.Proofs.YtjngnigelkgekaaGreat.Root
open Go.Proofs.YtjngnigelkgekaaGreat.Store (KP found_none found_full found_ok)
open Go.Proofs.YtjngnigelkgekaaGreat.RStore
open Go.Proofs.YtjngnigelkgekaaGreat.Deed
def flushV (g : Nat) : OV := ⟨.func (.func 67) #[.pointer (some ⟨g, 0, none⟩)] #[], rfl⟩
def putV (gb gR gP q : Nat) : OV := ⟨.func (.func 97) #[] #[.pointer (some ⟨gb, 0, none⟩), .pointer (some ⟨gR, 0, none⟩), .pointer (some ⟨q, 0, none⟩), .pointer (some ⟨gP, 0, none⟩)], rfl⟩
def rootW (gb gN : Nat) : OV := ⟨.func (.func 98) #[] #[.pointer (some ⟨gb, 0, none⟩), .pointer (some ⟨gN, 0, none⟩)], rfl⟩
def deedV (g gb gR gP gN : Nat) (js : List Nat) : List OV := flushV g :: (js.map (putV gb gR gP) ++ [flushV g, rootW gb gN, flushV g])
section
variable {w0 W : World} {F : List HP} {g n : Nat} {las : List Int} {wt : Wt}
set_option maxHeartbeats 800000 in
theorem found_nil (W : World) : Calls Tryz.prog 62 #[.pointer none] W fun e w' => e = .returned (.tuple #[.agg #[.int .i64 0, .int .i64 0, .int .u32 0], .slice none 0 0, .slice none 0 0, .int .i64 1]) ∧ Below W.heap.size W w' := by
  have A1 := Aside0.mk ((Sep.start W).newBlk 80 #[.int .i64 0, .int .i64 0, .int .u32 0])
  have q0 := (A1.out.cell 0).trans rfl
  have q1 := (A1.out.cell 1).trans rfl
  have q2 := (A1.out.cell 2).trans rfl
  go_enter Tryz.func62, Tryz.ntmps62
  go_wp2_with fail
  go_retc4 (.tuple #[.agg #[.int .i64 0, .int .i64 0, .int .u32 0], .slice none 0 0, .slice none 0 0, .int .i64 1])
  exact ⟨rfl, below_alloc (Below.refl _ _) _⟩
theorem found_no {er : Int} (h : Sep w0 W (Dsk g las wt :: F)) (hd : Dk n las wt) (hn : n ≤ 160) (hno : NoOpen n las wt er) :
    Calls Tryz.prog 62 #[.pointer (some ⟨g, 0, none⟩)] W fun e w' => e = .returned (.tuple #[.agg #[.int .i64 0, .int .i64 0, .int .u32 0], .slice none 0 0, .slice none 0 0, .int .i64 er]) ∧ Sep w0 w' (Dsk g las wt :: F) := by
  rcases hno with ⟨rfl, h0⟩ | ⟨rfl, h0⟩
  · exact found_none h hd.len hn hd.wl hd.secB h0
  · exact found_full h hd.len hn hd.wl hd.secB h0
set_option maxHeartbeats 1600000 in
set_option maxRecDepth 100000 in
theorem deeds_none {er : Int} (h : Sep w0 W (Dsk g las wt :: F)) (hd : Dk n las wt) (hn : n ≤ 160) (hno : NoOpen n las wt er) :
    Calls Tryz.prog 61 #[.pointer (some ⟨g, 0, none⟩)] W fun e w' => e = .returned (.slice none 0 0) ∧ Sep w0 w' (Dsk g las wt :: F) := by
  have B0 := Aside0.mk (h.newBlk 29 #[.pointer (some ⟨g, 0, none⟩)])
  have HD := Aside0.mk (And.intro hd (And.intro hn hno))
  have hne := hno.ne
  have he1 : ¬ er = 0 := by omega
  clear h hd hn hno
  go_enter Tryz.func61, Tryz.ntmps61
  go_wp2_with fail
  refine (found_no B0.out.at2 HD.out.1 HD.out.2.1 HD.out.2.2).mono ?_
  rintro e w1 ⟨rfl, hS1⟩
  have B1 := Aside0.mk hS1
  clear hS1
  go_wp2_with fail
  go_ret
  exact ⟨by first | rfl | (simp; done), ((B1.out.newBlk 80 _).newBlk 49 _).tail.tail.drop2⟩
set_option maxHeartbeats 800000 in
theorem deeds_nil (W : World) : Calls Tryz.prog 61 #[.pointer none] W fun e w' => e = .returned (.slice none 0 0) ∧ Below W.heap.size W w' := by
  have B0 := Aside0.mk ((Sep.start W).newBlk 29 #[.pointer none])
  go_enter Tryz.func61, Tryz.ntmps61
  go_wp2_with fail
  refine (found_nil _).mono ?_
  rintro e w1 ⟨rfl, hb1⟩
  have B1 := Aside0.mk (B0.out.below hb1)
  clear hb1
  go_wp2_with fail
  go_ret
  exact ⟨by first | rfl | (simp; done), ((B1.out.newBlk 80 _).newBlk 49 _).toBelow⟩
end
def BX (js : List Nat) (ks : List Int) (W : World) : Prop := js.length = ks.length ∧ ∀ (j : Nat) q k, js[j]? = some q → ks[j]? = some k → W.cell? ⟨q, 0, none⟩ = some (.int .i64 k)
theorem BX.snoc {js : List Nat} {ks : List Int} {W : World} (h : BX js ks W) {q : Nat} {k : Int} (hq : W.cell? ⟨q, 0, none⟩ = some (.int .i64 k)) : BX (js ++ [q]) (ks ++ [k]) W := by
  refine ⟨by rw [List.length_append, List.length_append, h.1]; rfl, fun j q' k' h1 h2 => ?_⟩
  by_cases hj : j < js.length
  · rw [List.getElem?_append_left hj] at h1
    rw [List.getElem?_append_left (by rw [← h.1]; exact hj)] at h2
    exact h.2 j q' k' h1 h2
  · rw [List.getElem?_append_right (by omega)] at h1
    rw [List.getElem?_append_right (by rw [← h.1]; omega), ← h.1] at h2
    match hd : j - js.length with
    | 0 =>
      rw [hd] at h1 h2
      cases h1; cases h2; exact hq
    | m + 1 => rw [hd] at h1; cases h1
theorem infoFn : (Tryz.prog.info? 1).map (fun i => (i.zero, i.size, i.bytes)) = some (some .nilFunc, 1, 8) := by kernel_rfl
section
variable {w0 W : World} {F : List HP} {g n : Nat} {las : List Int} {wt : Wt}
set_option maxHeartbeats 3200000 in
set_option maxRecDepth 100000 in
theorem deeds_ok {a b : Nat} {E : Int} (h : Sep w0 W (Dsk g las wt :: F)) (ha : Any n las wt a b E) (he : E < 4294967295) :
    Calls Tryz.prog 61 #[.pointer (some ⟨g, 0, none⟩)] W fun e w' => ∃ v gb gR gP gN js Ap cp cs, e = .returned v ∧ js.length = (Store.sortK (Store.nmAll [] (rowsG n a b E las wt))).length ∧
      Sep w0 w' (Row KV 1 v (deedV g gb gR gP gN js) :: Dsk g las wt :: Fx (HF g gb gR gP gN js (Store.sortK (Store.nmAll [] (rowsG n a b E las wt))) a b E Ap cp (shownG n a b E las wt) cs) :: F) := by
  have B0 := Aside0.mk (h.newBlk 29 #[.pointer (some ⟨g, 0, none⟩)])
  obtain ⟨gb, hgb⟩ : ∃ x, W.heap.size = x := ⟨_, rfl⟩
  rw [hgb] at B0
  have hnu := ha.nums
  have hp := ha.pages
  have hr := ha.rows
  have HF0 := Aside0.mk (found_ok (w0 := w0) (F := Blk gb 29 #[.pointer (some ⟨g, 0, none⟩)] :: F) B0.out.at2 ha.dk.len ha.n160 ha.dk.wl ha.dk.secB (a : Int) (b : Int) E ha.best (by omega) he ha.logB (by rw [hp.1]; omega) (fun p hq => by have := (hp.2 p hq).1; omega) hr.1 (fun x hx => (hr.2 x hx).1))
  obtain ⟨ks, hks⟩ : ∃ p, Store.sortK (Store.nmAll [] (rowsG n a b E las wt)) = p := ⟨_, rfl⟩
  obtain ⟨ps, hps⟩ : ∃ p, shownG n a b E las wt = p := ⟨_, rfl⟩
  have hks2 : Store.sortK (Store.nmAll [] (Redo.recR n las wt (a : Int) (b : Int) E).1) = ks := hks
  have hps2 : Store.pgAll (Home.pagesF n las wt (a : Int) (b : Int) E) (Redo.recR n las wt (a : Int) (b : Int) E).1 = ps := hps
  rw [hks2, hps2] at HF0
  obtain ⟨nk, hnk⟩ : ∃ x, ks.length = x := ⟨_, rfl⟩
  have hnkb : nk ≤ 64000 := by
    have h1 := Store.nmAll_len 64 (rowsG n a b E las wt) [] (fun x hx => (hr.2 x hx).1)
    have h2 := (Store.sortK_perm (Store.nmAll [] (rowsG n a b E las wt))).length_eq
    rw [hks] at h2
    simp only [List.length_nil] at h1
    have := hr.1
    omega
  have HNK := Aside0.mk hnk
  have HKS := Aside0.mk hks
  have HPS := Aside0.mk hps
  have HE := Aside0.mk (And.intro (show 0 ≤ E by omega) he)
  have hu1 : IntKind.u32.wrap (E + 1) = E + 1 := by rw [IntKind.wrap_u32]; omega
  clear h ha he hnu hp hr hks hps hks2 hps2 hnk
  go_enter Tryz.func61, Tryz.ntmps61
  go_wp2_with fail
  refine HF0.out.mono ?_
  rintro e w1 ⟨v1, v2, rfl, hS1⟩
  obtain ⟨A2, c2, rfl⟩ := hS1.at2.rowN HNK.out
  obtain ⟨cs, hS2⟩ := hS1.rowV_open
  obtain ⟨PL, hPL⟩ : ∃ x, ps.length = x := ⟨_, rfl⟩
  obtain ⟨Ap, cp, rfl⟩ := hS2.rowN (n := PL) (by rw [← hPL]; exact hS2.at2.fx.1.symm)
  obtain ⟨gR, hgR⟩ : ∃ x, w1.heap.size = x := ⟨_, rfl⟩
  have B1 := hS2.newBlk 80 #[.int .i64 (a : Int), .int .i64 (b : Int), .int .u32 E]
  have B2 := B1.newBlk 49 #[.slice Ap PL cp]
  rw [show ∀ o : Obj, (w1.alloc o).heap.size = w1.heap.size + 1 from fun o => by simp, hgR] at B2
  have B2' := Aside0.mk B2
  have HPLL := Aside0.mk hPL
  clear hS1 hS2 B1 B2 hgb
  go_upto_region 4 with fail
  obtain ⟨w2, hw2⟩ : ∃ x, (w1.alloc (.cells #[.int .i64 (a : Int), .int .i64 (b : Int), .int .u32 E] 80)).alloc (.cells #[.slice Ap PL cp] 49) = x := ⟨_, rfl⟩
  rw [hw2] at B2' ⊢
  obtain ⟨gP, hgP⟩ : ∃ x, gR + 1 = x := ⟨_, rfl⟩
  rw [hgP] at B2' ⊢
  clear hw2 hgR hgP
  have B3 : Aside0 (Sep w0 w2 (Blk gb 29 #[.pointer (some ⟨g, 0, none⟩)] :: Fx (BX [] (ks.take 0)) :: Blk gP 49 #[.slice Ap PL cp] :: Blk gR 80 #[.int .i64 (a : Int), .int .i64 (b : Int), .int .u32 E] :: Row KV 24 (.slice Ap PL cp) cs :: Fx (EachV KP ps cs) :: Row I64 3 (.slice A2 nk c2) ks :: Dsk g las wt :: F)) := ⟨((Sep.pull [_, _, _, _, _, _] B2'.out).fxPure (fun W => (show BX [] (ks.take 0) W from ⟨rfl, fun j q k h => by cases h⟩))).at2⟩
  clear B2'
  have L3 := Aside0.mk (B3.out.litRow (enc := fun x : OV => x.1) (h1 := fun x => x.2) (e := 1) [flushV g] (by simp))
  have zb := (B3.out.cell 0).trans rfl
  have hmf : ∀ (fn : Fn) (first cap : Array Value) (w : World), (Instr.makeFunc fn first cap).run Tryz.prog w = .ok (.func fn first cap) w := fun _ _ _ _ => rfl
  go_wp2_with fail
  clear zb
  go_loopg [7, 25] nk (fun k_ v p wr => ∃ (j : Nat) (js : List Nat), p = .int .i64 (j : Int) ∧ j + k_ = nk ∧ js.length = j ∧ Sep w0 wr (Row KV 1 v (flushV g :: js.map (putV gb gR gP)) :: Blk gb 29 #[.pointer (some ⟨g, 0, none⟩)] :: Fx (BX js (ks.take j)) :: Blk gP 49 #[.slice Ap PL cp] :: Blk gR 80 #[.int .i64 (a : Int), .int .i64 (b : Int), .int .u32 E] :: Row KV 24 (.slice Ap PL cp) cs :: Fx (EachV KP ps cs) :: Row I64 3 (.slice A2 nk c2) ks :: Dsk g las wt :: F))
  case atStart => exact ⟨0, [], rfl, by omega, rfl, L3.out⟩
  case round =>
    obtain ⟨j, js, rfl, hjk, hjl0, hS⟩ := hrel
    obtain ⟨w4, rfl⟩ : ∃ x, x = wr := ⟨_, rfl⟩
    have AK := Aside0.mk hjk
    have HJL := Aside0.mk hjl0
    have AS := Aside0.mk hS
    obtain ⟨A4, c4, rfl⟩ := hS.rowN (n := j + 1) (by rw [List.length_cons, List.length_map, hjl0])
    clear hS hjl0 L3
    by_cases cj : j < nk
    case pos =>
      have hjl : (j : Int) < (nk : Int) := by omega
      have hjx : j < ks.length := by rw [HNK.out]; exact cj
      obtain ⟨ad, hA, hcc⟩ := Kd.at_int (Sep.pull [_, _, _, _, _, _, _] AS.out).rowC' (j : Int) (by omega) (by omega)
      rw [Int.toNat_natCast] at hcc
      have hgd : rd ks (j : Int) = ks[j] := by unfold rd; rw [Int.toNat_natCast, List.getD_eq_getElem?_getD, List.getElem?_eq_getElem hjx]; rfl
      obtain ⟨kk, hkk⟩ : ∃ k, ks[j] = k := ⟨_, rfl⟩
      rw [hgd, hkk] at hcc
      have HTK : Aside0 (ks.take (j + 1) = ks.take j ++ [kk]) := ⟨by rw [Store.take_one hjx, hkk]⟩
      subst hA
      obtain ⟨q, hq⟩ : ∃ x, w4.heap.size = x := ⟨_, rfl⟩
      have B4 := AS.out.newBlk 3 #[.int .i64 kk]
      rw [hq] at B4
      have B5 := (Sep.pull [_, _, _] B4.fxBlk).fxAnd.fxImp (ψ := BX (js ++ [q]) (ks.take (j + 1))) (fun W hW => by rw [HTK.out]; exact hW.1.snoc ((hW.2 0).trans rfl))
      have B6 := Sep.push [_, _] B5
      have L6' := B6.litRow (enc := fun x : OV => x.1) (h1 := fun x => x.2) (e := 1) [putV gb gR gP q] (by simp)
      rw [show ∀ o : Obj, (w4.alloc o).heap.size = w4.heap.size + 1 from fun o => by simp, hq] at L6'
      have L6 := Aside0.mk L6'.at2
      have HN64 : Aside0 (nk ≤ 64000) := ⟨hnkb⟩
      clear B4 B5 B6 L6' hjk cj hjx hgd hkk
      go_wp2_with (first | (refine gate_builtin (b := .append) (xs := #[.tmp 29, .tmp 31]) rfl ?_; go_loud (refine L6.out.appendRow rfl (.tmp 29) (.tmp 31) 102 .nilFunc 8 rfl Tryz.underlying102 infoFn rfl (by decide) (some ⟨q + 1, 0, none⟩) 1 1 rfl rfl L6.out.at2.rowC' (by have h1 := HJL.out; have h2 := AK.out; have h3 := HN64.out; simp only [List.length_cons, List.length_map, List.length_nil]; omega) ?_; intro v7 w7 hS7; have B7 := Aside0.mk hS7.drop2; clear hS7)))
      go_roundg (gk - 1)
      case measure => have := AK.out; omega
      case rel => exact ⟨j + 1, js ++ [q], by go_num, by have := AK.out; omega, by rw [List.length_append, HJL.out]; rfl, by rw [List.map_append]; exact B7.out⟩
    case neg =>
    obtain rfl : j = nk := by omega
    have hjl : ¬ (j : Int) < (j : Int) := by omega
    have HTK : Aside0 (ks.take j = ks) := ⟨List.take_of_length_le (by rw [HNK.out]; exact Nat.le_refl _)⟩
    have B8 := Aside0.mk (Sep.pull [_, _, _, _] AS.out)
    rw [HTK.out] at B8
    have z0 := (B8.out.cell 0).trans rfl
    have z1 := (B8.out.cell 1).trans rfl
    have z2 := (B8.out.cell 2).trans rfl
    clear hjk cj
    go_upto_region 12 with fail
    obtain ⟨gN, hgN⟩ : ∃ x, w4.heap.size = x := ⟨_, rfl⟩
    have B9 := B8.out.newBlk 80 #[.int .i64 (a : Int), .int .i64 (b : Int), .int .u32 (E + 1)]
    rw [hgN] at B9
    have B10 := Aside0.mk (Sep.pull [_, _] B9)
    obtain ⟨w5, hw5⟩ : ∃ x, w4.alloc (.cells #[.int .i64 (a : Int), .int .i64 (b : Int), .int .u32 (E + 1)] 80) = x := ⟨_, rfl⟩
    rw [hw5] at B10 ⊢
    first | rw [hgN] | skip
    have zb := ((Sep.pull [_, _, _] B10.out).cell 0).trans rfl
    have L10 := Aside0.mk (B10.out.litRow (enc := fun x : OV => x.1) (h1 := fun x => x.2) (e := 1) [flushV g, rootW gb gN, flushV g] (by simp)).at2
    have HN64 : Aside0 (j ≤ 64000) := ⟨hnkb⟩
    clear B9 hw5 z0 z1 z2 hgN
    go_wp2_with (first | (refine gate_builtin (b := .append) (xs := #[.tmp 39, .tmp 45]) rfl ?_; go_loud (refine L10.out.appendRow rfl (.tmp 39) (.tmp 45) 102 .nilFunc 8 rfl Tryz.underlying102 infoFn rfl (by decide) (some ⟨w5.heap.size, 0, none⟩) 3 3 rfl rfl L10.out.at2.rowC' (by have h1 := HJL.out; have h3 := HN64.out; simp only [List.length_cons, List.length_map, List.length_nil]; omega) ?_; intro v7 w7 hS7; have B7 := Aside0.mk hS7.drop2; clear hS7)))
    go_ret
    obtain rfl := HPLL.out
    have h1 := (Sep.pull [_] B7.out).fxBlk
    have h2 := (Sep.pull [_, _] h1).fxBlk.fxAnd
    have h3 := (Sep.pull [_, _] h2).fxBlk.fxAnd
    have h4 := (Sep.pull [_, _] h3).fxAnd
    have h5 := (Sep.pull [_, _] h4).fxBlk.fxAnd
    have h6 := (Sep.pull [_, _] h5).fxRow.fxAnd
    have h7 := (Sep.pull [_, _] h6).fxAnd
    have h8 := h7.fxImp (ψ := HF g gb gR gP gN js ks a b E Ap cp ps cs) (fun W hW => ⟨hW.2.2.2.2.1, hW.2.2.2.2.2.1, hW.2.2.1, hW.2.1, hW.1, hW.2.2.2.2.2.2, hW.2.2.2.1⟩)
    have h9 := (Sep.pull [_, _] h8).tail
    have h10 := (Sep.pull [_] h9).sw23
    have hjs : js.length = ks.length := by rw [HJL.out, HNK.out]
    rw [HKS.out, HPS.out]
    first
      | exact ⟨_, gb, gR, gP, gN, js, Ap, cp, cs, by first | rfl | (simp; done), hjs, h10⟩
      | exact ⟨_, by first | rfl | (simp; done), gb, gR, gP, gN, js, hjs, Ap, cp, cs, h10⟩
      | exact ⟨_, by first | rfl | (simp; done), gb, gR, gP, gN, js, Ap, cp, cs, hjs, h10⟩
end
end Go.Proofs.YtjngnigelkgekaaGreat.Heal
namespace Go.Proofs.YtjngnigelkgekaaGreat.Heal
open Go.RowKit Go.Proofs.YtjngnigelkgekaaGreat.Kit Go.Proofs.YtjngnigelkgekaaGreat.Plain Go.Proofs.YtjngnigelkgekaaGreat.Disk Go.Proofs.YtjngnigelkgekaaGreat.Root
open Go.Proofs.YtjngnigelkgekaaGreat.Delta (Chg)
open Go.Proofs.YtjngnigelkgekaaGreat.Store (insK insAll nmAll nmAll_mem sortK sortK_perm sortK_sorted insK_mem)
open Go.Proofs.YtjngnigelkgekaaGreat.Home (putP mayF atF pagesF)
open Go.Proofs.YtjngnigelkgekaaGreat.RStore
open Go.Proofs.YtjngnigelkgekaaGreat.Deed
theorem insK_nodup {ks : List Int} (h : ks.Nodup) (k : Int) : (insK ks k).Nodup := by
  unfold insK
  split
  · exact h
  · rename_i hk
    rw [List.nodup_append]
    refine ⟨h, by simp, fun x hx y hy => ?_⟩
    rw [List.mem_singleton.1 hy]
    rintro rfl
    exact hk hx
theorem insAll_nodup : ∀ (l : List Chg) {ks : List Int}, ks.Nodup → (insAll ks l).Nodup
  | [], _, h => h
  | c :: r, _, h => insAll_nodup r (insK_nodup h c.1)
theorem nmAll_nodup : ∀ (rows : List (List Chg)) {ks : List Int}, ks.Nodup → (nmAll ks rows).Nodup
  | [], _, h => h
  | l :: r, _, h => nmAll_nodup r (insAll_nodup l h)
theorem strict_ext : ∀ {xs ys : List Int}, xs.Pairwise (· < ·) → ys.Pairwise (· < ·) → (∀ x, x ∈ xs ↔ x ∈ ys) → xs = ys
  | [], [], _, _, _ => rfl
  | [], y :: t, _, _, h => absurd ((h y).2 (List.mem_cons_self ..)) (by simp)
  | x :: t, [], _, _, h => absurd ((h x).1 (List.mem_cons_self ..)) (by simp)
  | x :: s, y :: t, hx, hy, h => by
    rw [List.pairwise_cons] at hx hy
    have h1 : x = y := by
      rcases List.mem_cons.1 ((h x).1 (List.mem_cons_self ..)) with h1 | h1
      · exact h1
      · rcases List.mem_cons.1 ((h y).2 (List.mem_cons_self ..)) with h2 | h2
        · exact h2.symm
        · have := hx.1 y h2
          have := hy.1 x h1
          omega
    subst h1
    rw [strict_ext hx.2 hy.2 (fun z => ?_)]
    constructor
    · intro hz
      rcases List.mem_cons.1 ((h z).1 (List.mem_cons_of_mem _ hz)) with h1 | h1
      · have := hx.1 z hz; omega
      · exact h1
    · intro hz
      rcases List.mem_cons.1 ((h z).2 (List.mem_cons_of_mem _ hz)) with h1 | h1
      · have := hy.1 z hz; omega
      · exact h1
theorem nmL_strict (nm : List Bool) (b : Nat) : ((nmL nm b).map (fun k : Nat => (k : Int))).Pairwise (· < ·) := by
  rw [List.pairwise_map]
  unfold nmL
  exact (List.pairwise_lt_range.filter _).imp (fun h => by omega)
theorem sorted_strict {ks : List Int} (h : ks.Nodup) : (sortK ks).Pairwise (· < ·) := by
  have h1 : (sortK ks).Nodup := (sortK_perm ks).nodup_iff.1 h
  have h2 := sortK_sorted ks
  exact (List.Pairwise.and h1 h2).imp (fun h => by have := h.1; have := h.2; omega)
section
variable {n a b : Nat} {E : Int} {las : List Int} {wt : Wt}
abbrev keyL (n a b : Nat) (E : Int) (las : List Int) (wt : Wt) : List Nat := nmL (nmAllB (List.replicate b false) (rowsG n a b E las wt)) b
theorem ks_eq (h : Any n las wt a b E) : sortK (nmAll [] (rowsG n a b E las wt)) = (keyL n a b E las wt).map (fun k : Nat => (k : Int)) := by
  have hr := h.rows
  have hrng : ∀ k ∈ nmAll [] (rowsG n a b E las wt), 0 ≤ k ∧ k < (b : Int) := fun k hk =>
    nmAll_mem (P := fun k => 0 ≤ k ∧ k < (b : Int)) (fun k hk => by cases hk) (fun x hx c hc => by have := (hr.2 x hx).2 c hc; exact ⟨this.1, this.2.1⟩) k hk
  have hnb := nb_all (rowsG n a b E las wt) List.length_replicate (nb_none b) (fun l hl c hc => by have := (hr.2 l hl).2 c hc; exact ⟨this.1, this.2.1⟩)
  refine strict_ext (sorted_strict (nmAll_nodup _ (by simp))) (nmL_strict _ b) (fun x => ?_)
  rw [← (sortK_perm _).mem_iff]
  constructor
  · intro hx
    have h1 := hrng x hx
    obtain ⟨k, rfl⟩ := Int.eq_ofNat_of_zero_le h1.1
    refine List.mem_map.2 ⟨k, List.mem_filter.2 ⟨List.mem_range.2 (by omega), ?_⟩, rfl⟩
    exact (hnb k (by omega)).1 hx
  · intro hx
    obtain ⟨k, hk, rfl⟩ := List.mem_map.1 hx
    obtain ⟨h1, h2⟩ := List.mem_filter.1 hk
    exact (hnb k (List.mem_range.1 h1)).2 h2
end
def dsOf (n : Nat) (las : List Int) (wt : Wt) : List Dd :=
  if 0 < (bestTo (n : Int) (secF n las wt) 2).2.2 ∧ (bestTo (n : Int) (secF n las wt) 2).2.2 < 4294967295 then
    chkD (bestTo (n : Int) (secF n las wt) 2).1.toNat (bestTo (n : Int) (secF n las wt) 2).2.1.toNat (bestTo (n : Int) (secF n las wt) 2).2.2
      (shownG n (bestTo (n : Int) (secF n las wt) 2).1.toNat (bestTo (n : Int) (secF n las wt) 2).2.1.toNat (bestTo (n : Int) (secF n las wt) 2).2.2 las wt)
      (keyL n (bestTo (n : Int) (secF n las wt) 2).1.toNat (bestTo (n : Int) (secF n las wt) 2).2.1.toNat (bestTo (n : Int) (secF n las wt) 2).2.2 las wt)
  else []
section
variable {n a b : Nat} {E : Int} {las : List Int} {wt : Wt}
theorem ds_any (h : Any n las wt a b E) (he : E < 4294967295) : dsOf n las wt = chkD a b E (shownG n a b E las wt) (keyL n a b E las wt) := by
  have hn := h.nums
  unfold dsOf
  rw [h.best, if_pos ⟨by show 0 < E; omega, he⟩]
  simp only [Int.toNat_natCast]
theorem ds_no {er : Int} (h : NoOpen n las wt er) : dsOf n las wt = [] := by
  unfold dsOf
  rw [if_neg]
  rintro ⟨h1, h2⟩
  rcases h with ⟨_, h3⟩ | ⟨_, h3⟩
  · exact absurd h1 (of_decide_eq_false h3)
  · rw [h3] at h2; exact absurd h2 (by decide)
theorem ds_ok (hd : Dk n las wt) (hn : n ≤ 160) : OkD n (dsOf n las wt) ∧ (dsOf n las wt).length ≤ 68 := by
  rcases open_cases hd hn with ⟨er, hno⟩ | ⟨a, b, E, ha, he⟩
  · rw [ds_no hno]; exact ⟨OkD.nil, by decide⟩
  · rw [ds_any ha he]
    have hnu := ha.nums
    refine ⟨chkD_ok ha.rgt (ha.st).pg (fun k hk => nmL_lt hk), ?_⟩
    rw [chkD_len]
    have : (keyL n a b E las wt).length ≤ b := nmL_len _ b
    omega
theorem dk_do {S : DS} (h : Dk n S.1 S.2) {x : Dd} (hx : ∀ i c, x = some (i, c) → i < n ∧ c.length = 64 ∧ Bytes c) : Dk n (doD S x).1 (doD S x).2 := by
  match x with
  | none => exact h.flush
  | some (i, c) =>
    have h1 := hx i c rfl
    refine ⟨h.len, Ref.upd_len h.wl h1.2.1, h.byt, fun k y hy => ?_⟩
    by_cases hk : k = i
    · have hy : (if k = i then some c else S.2 k) = some y := hy
      rw [if_pos hk] at hy; cases hy; exact h1.2.2
    · have hy : (if k = i then some c else S.2 k) = some y := hy
      rw [if_neg hk] at hy; exact h.wb k y hy
theorem dk_run : ∀ {ds : List Dd} {S : DS}, Dk n S.1 S.2 → (∀ i c, some (i, c) ∈ ds → i < n ∧ c.length = 64 ∧ Bytes c) → Dk n (runD S ds).1 (runD S ds).2
  | [], _, h, _ => h
  | x :: t, _, h, hd => dk_run (ds := t) (dk_do h (fun i c e => hd i c (by rw [← e]; exact List.mem_cons_self ..))) (fun i c hm => hd i c (List.mem_cons_of_mem _ hm))
theorem ds_bytes (hd : Dk n las wt) (hn : n ≤ 160) : ∀ i c, some (i, c) ∈ dsOf n las wt → i < n ∧ c.length = 64 ∧ Bytes c := fun i c hm => by
  have h0 := (ds_ok hd hn).1 i c hm
  refine ⟨h0.1, h0.2, ?_⟩
  rcases open_cases hd hn with ⟨er, hno⟩ | ⟨a, b, E, ha, he⟩
  · rw [ds_no hno] at hm; cases hm
  · rw [ds_any ha he] at hm
    unfold chkD at hm
    rcases List.mem_cons.1 hm with hm | hm
    · cases hm
    rcases List.mem_append.1 hm with hm | hm
    · unfold homeD at hm
      obtain ⟨k, hk, he2⟩ := List.mem_map.1 hm
      injection he2 with he2
      injection he2 with h1 h2
      rw [← h2]
      exact (ha.st).pgB k
    · rcases List.mem_cons.1 hm with hm | hm
      · cases hm
      rcases List.mem_cons.1 hm with hm | hm
      · unfold rootD at hm
        injection hm with he2
        injection he2 with h1 h2
        rw [h2]
        exact rootF_bytes _ _ _
      · cases List.mem_singleton.1 hm
theorem dk_part (hd : Dk n las wt) (hn : n ≤ 160) (k : Nat) : Dk n (runD (las, wt) ((dsOf n las wt).take k)).1 (runD (las, wt) ((dsOf n las wt).take k)).2 :=
  dk_run (S := (las, wt)) hd (fun i c hm => ds_bytes hd hn i c (List.mem_of_mem_take hm))
end
def partK (m : Int) (L : Nat) : Nat := (max 0 (min m (L : Int))).toNat
theorem partK_le (m : Int) (L : Nat) : partK m L ≤ L := by unfold partK; omega
end Go.Proofs.YtjngnigelkgekaaGreat.Heal
namespace Go.Proofs.YtjngnigelkgekaaGreat.Heal
open Go.RowKit Go.Proofs.YtjngnigelkgekaaGreatW.PrintWords Go.Proofs.YtjngnigelkgekaaGreatW.PrintLast Go.Proofs.YtjngnigelkgekaaGreatW.PrintMore Go.Proofs.YtjngnigelkgekaaGreat.Kit Go.Proofs.YtjngnigelkgekaaGreat.Plain Go.Proofs.YtjngnigelkgekaaGreat.Disk Go.Proofs.YtjngnigelkgekaaGreat.Root
open Go.Proofs.YtjngnigelkgekaaGreat.Delta (Chg)
open Go.Proofs.YtjngnigelkgekaaGreat.Store (Lay noW rowsF shownF pgAll applyF applyOne applyOne_len nmAll nmAll_mem nmAll_new sortK sortK_perm crash_len crash_sec m32_nat homeW_at homeW homeW_len pgAll_out)
open Go.Proofs.YtjngnigelkgekaaGreat.Home (pagesF atF)
open Go.Proofs.YtjngnigelkgekaaGreat.Redo (logF_of logF)
open Go.Proofs.YtjngnigelkgekaaGreat.Frame (readF scanR scan_none scan_start recsF)
open Go.Proofs.YtjngnigelkgekaaGreat.RStore
open Go.Proofs.YtjngnigelkgekaaGreat.Deed
theorem applyF_eq : ∀ (l : List Chg) {ps qs : List (List Int)}, ps.length = qs.length → (∀ j : Nat, ps[j]? = qs[j]? ∨ ∃ c ∈ l, c.1 = (j : Int)) → applyF ps l = applyF qs l
  | [], ps, qs, _, h => List.ext_getElem? (fun j => (h j).resolve_right (by simp))
  | c :: r, ps, qs, hl, h => by
    show applyF (applyOne ps c) r = applyF (applyOne qs c) r
    refine applyF_eq r (by rw [applyOne_len, applyOne_len]; exact hl) (fun j => ?_)
    unfold applyOne
    rw [hl]
    by_cases hc : 0 ≤ c.1 ∧ c.1 < (qs.length : Int)
    · rw [if_pos hc, if_pos hc]
      by_cases hj : c.1.toNat = j
      · left; subst hj; rw [List.getElem?_set_self (by omega), List.getElem?_set_self (by omega)]
      · rw [List.getElem?_set_ne hj, List.getElem?_set_ne hj]
        rcases h j with h1 | ⟨x, hx, he⟩
        · exact .inl h1
        · rcases List.mem_cons.1 hx with rfl | hx
          · omega
          · exact .inr ⟨x, hx, he⟩
    · rw [if_neg hc, if_neg hc]
      rcases h j with h1 | ⟨x, hx, he⟩
      · exact .inl h1
      · rcases List.mem_cons.1 hx with rfl | hx
        · left; rw [List.getElem?_eq_none (by omega), List.getElem?_eq_none (by omega)]
        · exact .inr ⟨x, hx, he⟩
theorem pgAll_flat : ∀ (rows : List (List Chg)) (ps : List (List Int)), pgAll ps rows = applyF ps rows.flatten
  | [], _ => rfl
  | l :: r, ps => by
    show pgAll (applyF ps l) r = _
    rw [pgAll_flat r, List.flatten_cons]
    unfold applyF
    rw [List.foldl_append]
theorem pgAll_eq {rows : List (List Chg)} {ps qs : List (List Int)} (hl : ps.length = qs.length) (h : ∀ j : Nat, ps[j]? = qs[j]? ∨ ∃ l ∈ rows, ∃ c ∈ l, c.1 = (j : Int)) : pgAll ps rows = pgAll qs rows := by
  rw [pgAll_flat, pgAll_flat]
  refine applyF_eq _ hl (fun j => ?_)
  rcases h j with h | ⟨l, hl, c, hc, he⟩
  · exact .inl h
  · exact .inr ⟨c, List.mem_flatten.2 ⟨l, hl, hc⟩, he⟩
def Lg (L : List Int) (E : Int) : Prop := L[128]? = some 0 ∧ L[129]? = some 0 ∧ L[130]? = some 0 ∧ ∃ v, L[131]? = some v ∧ v ≤ E
theorem Lg.le {L : List Int} {E E2 : Int} (h : Lg L E) (he : E ≤ E2) : Lg L E2 := by
  obtain ⟨h0, h1, h2, v, h3, hv⟩ := h
  exact ⟨h0, h1, h2, v, h3, by omega⟩
theorem Lg.sec {L L' : List Int} {E : Int} (h : Lg L E) (hs : sec L' 2 = sec L 2) : Lg L' E := by
  have hg : ∀ j, j < 64 → L'[128 + j]? = L[128 + j]? := fun j hj => by
    have h1 := sec_get L' 2 j hj
    have h2 := sec_get L 2 j hj
    rw [hs, h2] at h1
    exact h1.symm
  obtain ⟨h0, h1, h2, v, h3, hv⟩ := h
  exact ⟨(hg 0 (by decide)).trans h0, (hg 1 (by decide)).trans h1, (hg 2 (by decide)).trans h2, v, (hg 3 (by decide)).trans h3, hv⟩
theorem getF0 {l : List Int} {v : Int} (h0 : l[0]? = some 0) (h1 : l[1]? = some 0) (h2 : l[2]? = some 0) (h3 : l[3]? = some v) : getF l 0 = v := by
  have hl := (List.getElem?_eq_some_iff.1 h3).1
  have e : ∀ (j : Nat) (x : Int), l[j]? = some x → rd l (j : Int) = x := fun j x hx => by
    unfold rd
    rw [Int.toNat_natCast, List.getD_eq_getElem?_getD, hx]; rfl
  have e0 := e 0 _ h0
  have e1 := e 1 _ h1
  have e2 := e 2 _ h2
  have e3 := e 3 _ h3
  unfold getF
  rw [if_neg (by omega)]
  show ((rd l ((0 : Nat) : Int) * 256 + rd l ((1 : Nat) : Int)) * 256 + rd l ((2 : Nat) : Int)) * 256 + rd l ((3 : Nat) : Int) = v
  rw [e0, e1, e2, e3]
  omega
section
variable {n a b : Nat} {E : Int} {P : List (List Int)} {L L' : List Int}
theorem rows_new {E2 : Int} (h : Lay n a b E2 L) (hg : Lg L E) (he : E < E2) : rowsF n a b E2 L = [] := by
  have hr := h.rgt
  have hl := h.len
  obtain ⟨h0, h1, h2, v, h3, hv⟩ := hg
  have hlog : logF n L noW (a : Int) (b : Int) E2 = (L.take (64 * (2 + a))).drop 128 := by
    rw [logF_of hl Ref.none_len h.right, flushed_none hl]
  have hat : ∀ j, j < 64 → (logF n L noW (a : Int) (b : Int) E2)[j]? = L[128 + j]? := fun j hj => by
    rw [hlog, List.getElem?_drop, List.getElem?_take, if_pos (by omega)]
  have hf := getF0 ((hat 0 (by decide)).trans h0) ((hat 1 (by decide)).trans h1) ((hat 2 (by decide)).trans h2) ((hat 3 (by decide)).trans h3)
  have hn : readF ((logF n L noW (a : Int) (b : Int) E2).drop 0) E2 (([] : List (List Int)).length : Int) = none := by
    rw [List.drop_zero]
    unfold readF
    refine if_neg ?_
    rintro ⟨_, h4, _⟩
    omega
  show (recsF (b : Int) (scanR (logF n L noW (a : Int) (b : Int) E2) E2).1).1 = []
  rw [scan_none (scan_start _ _) hn]
  rfl
structure HL0 (n a b : Nat) (E : Int) (P : List (List Int)) (L : List Int) : Prop where
  lay : Lay n a b E L
  lg : Lg L E
  sh : shownF n a b E L = P
structure HL (n a b : Nat) (E : Int) (P : List (List Int)) (L : List Int) : Prop where
  h0 : HL0 n a b E P L
  os : ∃ e : Int, (e = E - 1 ∨ e = E + 1) ∧ (sec L ((E + 1) % 2).toNat).take 16 = headR (a : Int) (b : Int) e
def Named (n a b : Nat) (E : Int) (L : List Int) (k : Nat) : Prop := ∃ l ∈ rowsF n a b E L, ∃ c ∈ l, c.1 = (k : Int)
theorem HL0.plen (h : HL0 n a b E P L) : P.length = b := by rw [← h.sh]; exact h.lay.shown.1
theorem rows_same (hl : Lay n a b E L) (hl2 : Lay n a b E L') (h1 : ∀ i, i < a → sec L' (2 + i) = sec L (2 + i)) : rowsF n a b E L' = rowsF n a b E L := by
  show (recsF (b : Int) (scanR (logF n L' noW (a : Int) (b : Int) E) E).1).1 = (recsF (b : Int) (scanR (logF n L noW (a : Int) (b : Int) E) E).1).1
  rw [hl2.log, hl.log, secs_congr (fun i hi => h1 i hi)]
theorem HL0.homes (h : HL0 n a b E P L) (hl2 : Lay n a b E L') (h1 : ∀ i, i < a → sec L' (2 + i) = sec L (2 + i)) (h2 : ∀ k, k < b → sec L' (2 + a + k) = sec L (2 + a + k) ∨ Named n a b E L k) : HL0 n a b E P L' := by
  have hr := h.lay.rgt
  refine ⟨hl2, h.lg.sec (h1 0 (by omega)), ?_⟩
  rw [← h.sh]
  show pgAll (pagesF n L' noW (a : Int) (b : Int) E) (rowsF n a b E L') = pgAll (pagesF n L noW (a : Int) (b : Int) E) (rowsF n a b E L)
  rw [rows_same h.lay hl2 h1, hl2.pages, h.lay.pages]
  refine pgAll_eq (by simp) (fun j => ?_)
  by_cases hj : j < b
  · rcases h2 j hj with h3 | h3
    · left
      rw [List.getElem?_map, List.getElem?_map, List.getElem?_range hj]
      exact congrArg some h3
    · exact .inr h3
  · left
    rw [List.getElem?_eq_none (by simp; omega), List.getElem?_eq_none (by simp; omega)]
theorem HL0.other (h : HL0 n a b E P L) {k : Nat} (hk : k < b) (hn : ¬ Named n a b E L k) : P.getD k [] = sec L (2 + a + k) := by
  have hn2 : ∀ l ∈ rowsF n a b E L, ∀ c ∈ l, c.1 ≠ (k : Int) := fun l hl c hc he => hn ⟨l, hl, c, hc, he⟩
  rw [← h.sh, List.getD_eq_getElem?_getD, pgAll_out _ hn2, h.lay.pages, List.getElem?_map, List.getElem?_range hk]
  rfl
theorem HL0.next (h : HL0 n a b E P L) (hp : ∀ k, k < b → sec L (2 + a + k) = P.getD k []) (hE : E ≤ 200) (hl : L'.length = 64 * n) (hb : Bytes L') (h1 : ∀ i, i < n → i ≠ ((E + 1) % 2).toNat → sec L' i = sec L i) (hr : sec L' ((E + 1) % 2).toNat = rootF (a : Int) (b : Int) (E + 1)) : HL n a b (E + 1) P L' := by
  have hrg := h.lay.rgt
  obtain ⟨p, hpd⟩ : ∃ p, ((E + 1) % 2).toNat = p := ⟨_, rfl⟩
  obtain ⟨q, hqd⟩ : ∃ q, (E % 2).toNat = q := ⟨_, rfl⟩
  have hpq : p < 2 ∧ q < 2 ∧ q ≠ p ∧ ((E + 1 + 1) % 2).toNat = q := by omega
  have hrt := h.lay.rt
  have hun := h.lay.unroot
  rw [hpd] at h1 hr
  rw [hqd] at hrt hun
  have hq := h1 q (by omega) hpq.2.2.1
  have hlay : Lay n a b (E + 1) L' := by
    refine ⟨hl, hb, by omega, by rw [hpd]; exact hr, ?_⟩
    rw [hpq.2.2.2, hq, hun]
    intro r hr
    cases hr
    show E < E + 1
    omega
  have hlg : Lg L' E := h.lg.sec (h1 2 (by omega) (by omega))
  refine ⟨⟨hlay, hlg.le (by omega), ?_⟩, E, .inl (by omega), ?_⟩
  · show pgAll (pagesF n L' noW (a : Int) (b : Int) (E + 1)) (rowsF n a b (E + 1) L') = P
    rw [rows_new hlay hlg (by omega), hlay.pages]
    show (List.range b).map (fun i : Nat => sec L' (2 + a + i)) = P
    apply List.ext_getElem (by rw [List.length_map, List.length_range, h.plen])
    intro k hk1 hk2
    rw [h.plen] at hk2
    rw [List.getElem_map, List.getElem_range, h1 _ (by omega) (by omega), hp k hk2, List.getD_eq_getElem?_getD, List.getElem?_eq_getElem (by rw [h.plen]; exact hk2)]
    rfl
  · rw [hpq.2.2.2, hq, hrt]
    exact rootF_take _ _ _
theorem root_of {s : List Int} {e : Int} (h : s.take 16 = headR (a : Int) (b : Int) e) (hs : IsRoot s) : s = rootF (a : Int) (b : Int) e := by
  have h1 := hs.2.2.2
  have h2 : headR (getF s 4) (getF s 8) (getF s 12) = headR (a : Int) (b : Int) e := by rw [← rootF_take, ← h1]; exact h
  rw [h1]
  unfold rootF
  rw [h2]
theorem HL.torn (h : HL n a b E P L) (hp : ∀ k, k < b → sec L (2 + a + k) = P.getD k []) (hE : E ≤ 200) (hl : L'.length = 64 * n) (hb : Bytes L') (h1 : ∀ i, i < n → i ≠ ((E + 1) % 2).toNat → sec L' i = sec L i) (hr : ∃ e : Int, (e = E - 1 ∨ e = E + 1) ∧ (sec L' ((E + 1) % 2).toNat).take 16 = headR (a : Int) (b : Int) e) : HL n a b E P L' ∨ HL n a b (E + 1) P L' := by
  by_cases hw : sec L' ((E + 1) % 2).toNat = rootF (a : Int) (b : Int) (E + 1)
  · exact .inr (h.h0.next hp hE hl hb h1 hw)
  left
  have hrg := h.h0.lay.rgt
  have hot : ∀ r, unrootF (sec L' ((E + 1) % 2).toNat) = some r → r.2.2 < E := fun r hu => by
    obtain ⟨e, he, ht⟩ := hr
    have hi : IsRoot (sec L' ((E + 1) % 2).toNat) := by
      unfold unrootF at hu
      split at hu
      · assumption
      · cases hu
    have hs := root_of ht hi
    rcases he with rfl | rfl
    · rw [hs, unroot_root (by omega) (by omega) (by omega) (by omega) (by omega) (by omega)] at hu
      cases hu
      show E - 1 < E
      omega
    · exact absurd hs hw
  have hlay : Lay n a b E L' := ⟨hl, hb, hrg, by rw [h1 _ (by omega) (by omega)]; exact h.h0.lay.rt, hot⟩
  exact ⟨h.h0.homes hlay (fun i hi => h1 _ (by omega) (by omega)) (fun k hk => .inl (h1 _ (by omega) (by omega))), hr⟩
theorem torn_head {s t : List Int} {e1 e2 : Int} (h1 : 0 ≤ e1 ∧ e1 ≤ 255) (h2 : 0 ≤ e2 ∧ e2 ≤ 255) (hs : s.take 16 = headR (a : Int) (b : Int) e1) (ht : t.take 16 = headR (a : Int) (b : Int) e2) (hl : t.length = 64) (k : Nat) : ∃ e : Int, (e = e1 ∨ e = e2) ∧ (t.take k ++ s.drop k).take 16 = headR (a : Int) (b : Int) e := by
  by_cases hk : 16 ≤ k
  · refine ⟨e2, .inr rfl, ?_⟩
    rw [List.take_append_of_le_length (by rw [List.length_take]; omega), List.take_take, Nat.min_eq_left hk]
    exact ht
  · refine ⟨e1, .inl rfl, ?_⟩
    have e3 : ∀ e : Int, 0 ≤ e ∧ e ≤ 255 → headR (a : Int) (b : Int) e = (markL ++ put4 (a : Int) ++ put4 (b : Int) ++ [0, 0, 0]) ++ [e] := fun e he => by
      have : put4 e = [0, 0, 0] ++ [e] := by
        unfold put4
        simp only [List.cons_append, List.nil_append, List.cons.injEq, and_true]
        omega
      unfold headR
      rw [this, ← List.append_assoc]
    obtain ⟨X, hX⟩ : ∃ X, markL ++ put4 (a : Int) ++ put4 (b : Int) ++ [0, 0, 0] = X := ⟨_, rfl⟩
    have hXl : X.length = 15 := by rw [← hX]; rfl
    rw [e3 e1 h1, hX] at hs ⊢
    rw [e3 e2 h2, hX] at ht
    apply List.ext_getElem?
    intro j
    rw [List.getElem?_take]
    by_cases hj : j < 16
    · rw [if_pos hj]
      have hs2 := congrArg (fun l => l[j]?) hs
      have ht2 := congrArg (fun l => l[j]?) ht
      simp only [List.getElem?_take, if_pos hj] at hs2 ht2
      by_cases hjk : j < k
      · rw [List.getElem?_append_left (by rw [List.length_take]; omega), List.getElem?_take, if_pos hjk, ht2, List.getElem?_append_left (by omega), List.getElem?_append_left (by omega)]
      · rw [List.getElem?_append_right (by rw [List.length_take]; omega), List.length_take, List.getElem?_drop, show k + (j - min k t.length) = j by omega, hs2]
    · rw [if_neg hj, List.getElem?_eq_none (by rw [List.length_append, hXl]; show 15 + 1 ≤ j; omega)]
end
end Go.Proofs.YtjngnigelkgekaaGreat.Heal
