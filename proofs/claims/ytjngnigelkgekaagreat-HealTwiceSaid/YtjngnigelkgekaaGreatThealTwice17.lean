/- Tape1, Tape2, Redo12, StCommit, StConv, StPages, StFound: what HealTwice needs. -/
import Derived.Test.YtjngnigelkgekaaGreatThealTwice16
import Derived.Deep.QuietTactic
import Derived.Deep.RegionWith
import Derived.Deep.LoopGhost
import Derived.Deep.CutRange
import Derived.Lib.SlBytesConst
set_option linter.unusedVariables false
set_option linter.unusedSimpArgs false
namespace Go.Proofs.YtjngnigelkgekaaGreat.Tape
open Go.RowKit Go.Proofs.YtjngnigelkgekaaGreatW.PrintWords Go.Proofs.YtjngnigelkgekaaGreatW.PrintLast Go.Proofs.YtjngnigelkgekaaGreatW.PrintMore Go.Proofs.YtjngnigelkgekaaGreat.Kit
abbrev I64 : Kd Int := Kd.int .i64
def okN (n r : Int) : Prop := 0 ≤ r ∧ (1 ≤ n → r < n) ∧ (n < 1 → r = 0)
abbrev Tp (g : Nat) (A : Option Addr) (n c : Nat) (at_ : Int) : HP := Blk g 56 #[.slice A n c, .int .i64 at_]
set_option maxHeartbeats 1600000 in
set_option maxRecDepth 100000 in
theorem next_ {w0 W : World} {F : List HP} {g : Nat} {A : Option Addr} {n c : Nat} {L : List Int} {p : Int} (ht : I64.C w0 A n L) (hp : 0 ≤ p) (h : Sep w0 W (Tp g A n c p :: F)) (k : Int) :
    Calls Tryz.prog 28 #[.pointer (some ⟨g, 0, none⟩), .int .i64 k] W fun e w' => ∃ r p', e = .returned (.int .i64 r) ∧ okN k r ∧ 0 ≤ p' ∧ Sep w0 w' (Tp g A n c p' :: F) := by
  obtain rfl : L.length = n := ht.1
  have hm : L.length ≤ 9223372036854775807 := ht.2.1
  have AH := Aside0.mk h
  have AT := Aside0.mk ht
  have c0 : ∀ q, (W.drewN q).cell? ⟨g, 0, none⟩ = some (.slice A L.length c) := fun q => ((h.drewN q).cell 0).trans rfl
  have c1 : ∀ q, (W.drewN q).cell? ⟨g, 1, none⟩ = some (.int .i64 p) := fun q => ((h.drewN q).cell 1).trans rfl
  clear h ht
  by_cases h1 : (L.length : Int) ≤ p
  · go_enter Tryz.func28, Tryz.ntmps28
    go_wp2_with fail
    go_quiet (fail)
    go_wp2_with fail
    go_ret
    exact ⟨0, p, by first | rfl | (simp; done), ⟨by decide, fun h => by omega, fun _ => rfl⟩, hp, AH.out.drewN _⟩
  · have h1' : decide ((L.length : Int) ≤ p) = false := decide_eq_false h1
    by_cases h2 : k < 1
    · go_enter Tryz.func28, Tryz.ntmps28
      go_wp2_with fail
      go_quiet (fail)
      go_wp2_with fail
      go_ret
      exact ⟨0, p, by first | rfl | (simp; done), ⟨by decide, fun h => by omega, fun _ => rfl⟩, hp, AH.out.drewN _⟩
    · have h2' : decide (k < 1) = false := decide_eq_false h2
      obtain ⟨N, rfl⟩ := Int.eq_ofNat_of_zero_le hp
      have hN : N < L.length := by omega
      obtain ⟨ad, hA, hc⟩ := Kd.at_int AT.out (N : Int) (by omega) (by omega)
      subst hA
      rw [Int.toNat_natCast] at hc
      have HX := Aside0.mk hc
      generalize rd L (N : Int) = x at *
      go_enter Tryz.func28, Tryz.ntmps28
      go_wp2_with fail
      go_quiet (fail)
      have hcell1 := c1 nq
      have hfr : (W.drewN nq).frozen? ⟨g, 1, none⟩ = false := (AH.out.drewN nq).frozen 1
      have hNl : (N : Int) < (L.length : Int) := by omega
      have hw1 : wrap64 ((N : Int) + 1) = (N : Int) + 1 := IntWalk.wrap64_in _ (by omega)
      clear c0 c1 hc
      go_wp2_with fail
      have S3 := (AH.out.drewN nq).setBlk 1 (.int .i64 ((N : Int) + 1))
      obtain ⟨w3, hw3⟩ : ∃ w3, (W.drewN nq).setCell ⟨g, 1, none⟩ (.int .i64 ((N : Int) + 1)) = w3 := ⟨_, rfl⟩
      rw [hw3] at S3 ⊢
      replace S3 : Sep w0 w3 (Tp g (some ad) L.length c ((N : Int) + 1) :: F) := S3
      have d0 : w3.drew.cell? ⟨g, 0, none⟩ = some (.slice (some ad) L.length c) := (S3.drew.cell 0).trans rfl
      have d1 : w3.drew.cell? ⟨g, 1, none⟩ = some (.int .i64 ((N : Int) + 1)) := (S3.drew.cell 1).trans rfl
      have d2 : w3.drew.cell? (ad.add N) = some (.int .i64 x) := cell_later S3.drew.toBelow HX.out
      have A3 := Aside0.mk S3.drew
      have hws : wrap64 (N : Int) = (N : Int) := IntWalk.wrap64_in _ (by omega)
      have hin := Book.withinF_in (n := x) (lo := 0) (hi := 1073741824) (by decide)
      have hr : okN k ((Book.withinF x 0 1073741824).tmod k) := ⟨Int.tmod_nonneg _ hin.1, fun _ => Int.tmod_lt_of_pos _ (by omega), fun h => by omega⟩
      have AR := Aside0.mk hr
      have hk0 : ¬ k = 0 := by omega
      have hb := hin.2
      have ha := hin.1
      clear hin hr hw3 S3 hcell1 hfr hw1
      refine start_ (n := 15) (S := fun w' => w'.cell? ⟨g, 0, none⟩ = some (.slice (some ad) L.length c) ∧ w'.cell? ⟨g, 1, none⟩ = some (.int .i64 ((N : Int) + 1)) ∧ w'.cell? (ad.add N) = some (.int .i64 x)) (ds := [11]) #[Z,Z,Z,Z,Z,Z,Z,Z,Z,Z,Z,Z,Z,Z,Z] (by kernel_rfl) rfl rfl ⟨d0, d1, d2⟩ (fun hHeld => ?_)
      refine pu_ 0 26 ?_ #[J,Z,Z,Z,Z,Z,Z,Z,Z,Z,Z,Z,Z,Z,Z] rfl rfl ?_ ?_ ?_ ?_
      rotate_left
      · intro w'
        go_simp
        with_reducible rfl
      rotate_left
      · simp only [aP]
        rfl
      refine pu_ 1 27 ?_ #[J,J,Z,Z,Z,Z,Z,Z,Z,Z,Z,Z,Z,Z,Z] rfl rfl ?_ ?_ ?_ ?_
      rotate_left
      · intro w'
        go_simp
        with_reducible rfl
      rotate_left
      · simp only [aP]
        rfl
      refine pu_ 2 28 ?_ #[J,J,J,Z,Z,Z,Z,Z,Z,Z,Z,Z,Z,Z,Z] rfl rfl ?_ ?_ ?_ ?_
      rotate_left
      · intro w'
        go_simp
        with_reducible rfl
      rotate_left
      · simp only [aP]
        rfl
      refine pu_ 4 30 ?_ #[J,J,J,Z,J,Z,Z,Z,Z,Z,Z,Z,Z,Z,Z] rfl rfl ?_ ?_ ?_ ?_
      rotate_left
      · intro w'
        go_simp
        with_reducible rfl
      rotate_left
      · simp only [aP]
        rfl
      refine pu_ 5 31 ?_ #[J,J,J,Z,J,J,Z,Z,Z,Z,Z,Z,Z,Z,Z] rfl rfl ?_ ?_ ?_ ?_
      rotate_left
      · intro w'
        go_simp
        with_reducible rfl
      rotate_left
      · simp only [aP]
        rfl
      refine pu_ 6 32 ?_ #[J,J,J,Z,J,J,J,Z,Z,Z,Z,Z,Z,Z,Z] rfl rfl ?_ ?_ ?_ ?_
      rotate_left
      · intro w'
        go_simp
        with_reducible rfl
      rotate_left
      · simp only [aP]
        rfl
      refine pu_ 12 38 ?_ #[J,J,J,Z,J,J,J,Z,Z,Z,Z,Z,J,Z,Z] rfl rfl ?_ ?_ ?_ ?_
      rotate_left
      · intro w'
        go_simp
        with_reducible rfl
      rotate_left
      · simp only [aP]
        rfl
      refine ta_ 3 29 ?_ #[J,J,J,J,J,J,J,Z,Z,Z,Z,Z,J,Z,Z] rfl rfl ?_ hHeld ?_ ?_ ?_
      rotate_left
      · rintro w' ⟨s0, s1, s2⟩
        go_simp
        with_reducible rfl
      rotate_left
      · simp only [aP]
        rfl
      refine ta_ 7 33 ?_ #[J,J,J,J,J,J,J,J,Z,Z,Z,Z,J,Z,Z] rfl rfl ?_ hHeld ?_ ?_ ?_
      rotate_left
      · rintro w' ⟨s0, s1, s2⟩
        go_simp
        with_reducible rfl
      rotate_left
      · simp only [aP]
        rfl
      refine pu_ 8 34 ?_ #[J,J,J,J,J,J,J,J,J,Z,Z,Z,J,Z,Z] rfl rfl ?_ ?_ ?_ ?_
      rotate_left
      · intro w'
        go_simp
        with_reducible rfl
      rotate_left
      · simp only [aP]
        rfl
      refine pu_ 9 35 ?_ #[J,J,J,J,J,J,J,J,J,J,Z,Z,J,Z,Z] rfl rfl ?_ ?_ ?_ ?_
      rotate_left
      · intro w'
        go_simp
        with_reducible rfl
      rotate_left
      · simp only [aP]
        rfl
      refine ta_ 10 36 ?_ #[J,J,J,J,J,J,J,J,J,J,J,Z,J,Z,Z] rfl rfl ?_ hHeld ?_ ?_ ?_
      rotate_left
      · rintro w' ⟨s0, s1, s2⟩
        go_simp
        with_reducible rfl
      rotate_left
      · simp only [aP]
        rfl
      refine last_ (i := 11) (N := some 37) #[J,J,J,J,J,J,J,J,J,J,J,J,J,Z,Z] rfl rfl (by kernel_rfl) (by decide) (fun K hK => ?_)
      refine goes_ Tryz.func10 (by kernel_rfl) rfl #[.int .i64 x, .int .i64 0, .int .i64 1073741824] (by rfl) rfl rfl (by simp only [List.map_toArray, List.map_cons, List.map_nil]; rfl) ?_
      with_reducible refine (Book.within_ _ _ _ _ (by decide) (by decide) (by decide)).mono ?_
      rintro e w4 ⟨rfl, rfl⟩
      refine ⟨_, rfl, ?_⟩
      refine hK.out _ _ ?_
      clear hK K
      refine norm_ (a' := ?_) ?_ ?_
      rotate_left
      · show Act.put _ (some 37) _ = _
        simp only [aP]
        rfl
      refine pu_ 13 39 ?_ #[J,J,J,J,J,J,J,J,J,J,J,J,J,J,Z] rfl rfl ?_ ?_ ?_ ?_
      rotate_left
      · intro w'
        go_simp
        with_reducible rfl
      rotate_left
      · simp only [aP]
        rfl
      refine pu_ 14 4 ?_ #[J,J,J,J,J,J,J,J,J,J,J,J,J,J,J] rfl rfl ?_ ?_ ?_ ?_
      rotate_left
      · intro w'
        go_simp
        with_reducible rfl
      rotate_left
      · simp only [aP]
        rfl
      refine done_ (by kernel_rfl) ?_
      go_wp2_with fail
      go_ret
      exact ⟨_, _, by first | rfl | (simp; done), AR.out, by omega, A3.out⟩
end Go.Proofs.YtjngnigelkgekaaGreat.Tape
namespace Go.Proofs.YtjngnigelkgekaaGreat.Tape
open Go.RowKit Go.Proofs.YtjngnigelkgekaaGreatW.PrintWords Go.Proofs.YtjngnigelkgekaaGreatW.PrintLast Go.Proofs.YtjngnigelkgekaaGreatW.PrintMore Go.Proofs.YtjngnigelkgekaaGreat.Kit Go.Proofs.YtjngnigelkgekaaGreat.Base Go.Proofs.YtjngnigelkgekaaGreat.Plain Go.Proofs.YtjngnigelkgekaaGreat.Delta
theorem okF_more {a b : Int} (h : a ≤ b) : ∀ {l : List Chg} {last : Int}, okF a last l = true → okF b last l = true
  | [], _, _ => rfl
  | c :: r, last, hk => by
    unfold okF at hk ⊢
    rw [Bool.and_eq_true, decide_eq_true_eq] at hk ⊢
    exact ⟨⟨hk.1.1, by omega, hk.1.2.2⟩, okF_more h hk.2⟩
theorem okF_snoc {a : Int} {x : Chg} (hx : x.1 = a) (hb : x.2.length = 64) : ∀ {l : List Chg} {last : Int}, last < a → okF a last l = true → okF (a + 1) last (l ++ [x]) = true
  | [], last, hl, _ => by
    show (decide _ && true) = true
    rw [Bool.and_true, decide_eq_true_eq]
    omega
  | c :: r, last, hl, hk => by
    rw [List.cons_append]
    unfold okF at hk ⊢
    rw [Bool.and_eq_true, decide_eq_true_eq] at hk ⊢
    exact ⟨⟨hk.1.1, by omega, hk.1.2.2⟩, okF_snoc hx hb (by omega) hk.2⟩
theorem bytes_set {l : List Int} (h : Bytes l) {x : Int} (h0 : 0 ≤ x) (h1 : x ≤ 255) (i : Nat) : Bytes (l.set i x) := by
  intro y hy
  rcases List.mem_or_eq_of_mem_set hy with h2 | rfl
  · exact h y h2
  · exact ⟨h0, h1⟩
def good (m : Nat) (l : List Chg) : Prop := okF (m : Int) (-1) l = true ∧ (∀ c ∈ l, Bytes c.2) ∧ l.length ≤ m
theorem good.more {j : Nat} {l : List Chg} (h : good j l) : good (j + 1) l := ⟨okF_more (by omega) h.1, h.2.1, by have := h.2.2; omega⟩
theorem good.snoc {j : Nat} {l : List Chg} (h : good j l) {bs : List Int} (hb : Bytes bs) (hl : bs.length = 64) : good (j + 1) (l ++ [((j : Int), bs)]) :=
  ⟨by have := okF_snoc (x := ((j : Int), bs)) rfl hl (by omega) h.1; rwa [show ((j + 1 : Nat) : Int) = (j : Int) + 1 by omega], fun c hc => by
    rcases List.mem_append.1 hc with h1 | h1
    · exact h.2.1 c h1
    · obtain rfl := List.mem_singleton.1 h1; exact hb, by rw [List.length_append, List.length_singleton]; have := h.2.2; omega⟩
set_option maxHeartbeats 3200000 in
set_option maxRecDepth 100000 in
theorem changes_ {w0 W : World} {F : List HP} {g : Nat} {A : Option Addr} {n c : Nat} {L : List Int} {p : Int} (ht : I64.C w0 A n L) (hp : 0 ≤ p) (h : Sep w0 W (Tp g A n c p :: F)) (m : Nat) (hm : m ≤ 1000) :
    Calls Tryz.prog 31 #[.pointer (some ⟨g, 0, none⟩), .int .i64 (m : Int)] W fun e w' => ∃ v l p', e = .returned v ∧ good m l ∧ 0 ≤ p' ∧ Sep w0 w' (Row KC 75 v l :: Tp g A n c p' :: F) := by
  have A0 := Aside0.mk (h.nilRow KC 75)
  have AT := Aside0.mk ht
  have hmk := make_ (m := 64) (by omega)
  rw [show ((64 : Nat) : Int) = 64 from rfl] at hmk
  clear h ht
  go_enter Tryz.func31, Tryz.ntmps31
  go_wp2_with fail
  go_loopg [5, 6] m (fun k v s wr => ∃ (j : Nat) (l : List Chg) (p : Int), s = .int .i64 (j : Int) ∧ j + k = m ∧ good j l ∧ 0 ≤ p ∧ Sep w0 wr (Row KC 75 v l :: Tp g A n c p :: F))
  case atStart => exact ⟨0, [], p, rfl, by omega, ⟨rfl, (fun _ h => by cases h), Nat.le_refl _⟩, hp, A0.out⟩
  case round =>
    obtain ⟨j, l, p1, rfl, hjm, hg, hp1, hS⟩ := hrel
    obtain ⟨A3, c3, rfl⟩ := hS.rowV
    obtain ⟨G, rfl⟩ : ∃ G, G = gk := ⟨_, rfl⟩
    have AK := Aside0.mk hjm
    have AG := Aside0.mk (And.intro hg hp1)
    have AS := Aside0.mk hS
    clear hS hg hp1 hp
    by_cases hj : j < m
    · clear hjm
      go_wp2_with fail
      refine (next_ AT.out AG.out.2 AS.out.at2 3).mono ?_
      rintro e w1 ⟨r1, p2, rfl, hr1, hp2, hS1⟩
      have A1 := Aside0.mk hS1
      have AP := Aside0.mk hp2
      clear hS1 hp2 hr1
      by_cases hz : r1 = 0
      · subst hz
        have M0 := Aside0.mk (A1.out.madeRow (enc := Value.int .u8) (h1 := fun _ => rfl) (e := 5) (0 : Int) 64 (by omega))
        go_wp2_with fail
        go_loopg [8] 4 (fun k s wx => ∃ (i : Nat) (bs : List Int) (p : Int), s = .int .i64 (i : Int) ∧ i + k = 4 ∧ bs.length = 64 ∧ Bytes bs ∧ 0 ≤ p ∧ Sep w0 wx (Row U8 5 (.slice (some ⟨w1.heap.size, 0, none⟩) 64 64) bs :: Tp g A n c p :: Row KC 75 (.slice A3 l.length c3) l :: F))
        case atStart => exact ⟨0, _, p2, rfl, by omega, List.length_replicate, fun x hx => by rw [(List.mem_replicate.1 hx).2]; decide, AP.out, M0.out⟩
        case round =>
          obtain ⟨i, bs, p3, rfl, hik, hbl, hbs, hp3, hS3⟩ := hrel
          have AI := Aside0.mk hik
          have A3' := Aside0.mk hS3
          have AB := Aside0.mk (And.intro hbl (And.intro hbs hp3))
          clear hS3 hbl hbs hp3
          by_cases hi : i < 4
          · clear hik
            go_wp2_with fail
            refine (next_ AT.out AB.out.2.2 A3'.out.at2 64).mono ?_
            rintro e w4 ⟨r4, p4, rfl, hr4, hp4, hS4⟩
            have A4 := Aside0.mk hS4
            have AP4 := Aside0.mk hp4
            obtain ⟨R, rfl⟩ := Int.eq_ofNat_of_zero_le hr4.1
            have hR : R < 64 := by have := hr4.2.1 (by decide); omega
            clear hS4 hp4 hr4
            go_wp2_with fail
            refine (next_ AT.out AP4.out A4.out 256).mono ?_
            rintro e w5 ⟨r5, p5, rfl, hr5, hp5, hS5⟩
            have hu0 := hr5.1
            have hu1 := hr5.2.1 (by decide)
            have hwu : IntKind.u8.wrap r5 = r5 := by rw [IntKind.wrap_u8]; omega
            obtain ⟨f1, f2⟩ := hS5.at2.rowCell (0 : Int) R hR
            have A5 := Aside0.mk hS5
            have AP5 := Aside0.mk hp5
            have hR2 : (R : Int) < 64 := by omega
            clear hS5 hp5 hr5
            go_wp2
            go_roundg (gk - 1)
            case measure => have := AI.out; omega
            case rel => exact ⟨i + 1, bs.set R r5, p5, by go_num, by have := AI.out; omega, by rw [List.length_set]; exact AB.out.1, bytes_set AB.out.2.1 hu0 (by omega) R, AP5.out, A5.out.at2.putRow (enc := Value.int .u8) R r5⟩
          · have hi4 : i = 4 := by omega
            subst hi4
            have E5 := Aside0.mk ((A3'.out.elSlice.elPair (a := Kd.int .i64) (x := (j : Int)) (p := [.int .i64 (j : Int)]) (fun _ _ _ => rfl)).at3)
            have hll : l.length ≤ 1000 := by have := AG.out.1.2.2; omega
            clear hik
            go_wp2_with (first | (refine gate_builtin (b := .append) (xs := #[.tmp 29, .tmp 33]) rfl ?_; go_loud (refine E5.out.appendDeep rfl (.tmp 29) (.tmp 33) 60 _ 32 rfl Tryz.underlying60 infoCh rfl (by decide) (by decide) rfl rfl (by omega) ?_; intro v6 w6 hs6 hS6; have A6 := Aside0.mk hS6; clear hS6)))
            go_roundg (G - 1)
            case measure => have := AK.out; omega
            case rel => exact ⟨j + 1, l ++ [((j : Int), bs)], p3, by go_num, by have := AK.out; omega, AG.out.1.snoc AB.out.2.1 AB.out.1, AB.out.2.2, A6.out⟩
      · go_wp2_with fail
        go_roundg (G - 1)
        case measure => have := AK.out; omega
        case rel => exact ⟨j + 1, l, p2, by go_num, by have := AK.out; omega, AG.out.1.more, AP.out, A1.out.at2⟩
    · have hjm2 : j = m := by omega
      subst hjm2
      clear hjm
      go_wp2_with fail
      go_ret
      exact ⟨_, l, p1, by first | rfl | (simp; done), AG.out.1, AG.out.2, AS.out⟩
end Go.Proofs.YtjngnigelkgekaaGreat.Tape
namespace Go.Proofs.YtjngnigelkgekaaGreat.Redo
open Go.RowKit Go.Proofs.YtjngnigelkgekaaGreatW.PrintWords Go.Proofs.YtjngnigelkgekaaGreatW.PrintLast Go.Proofs.YtjngnigelkgekaaGreatW.PrintMore Go.Proofs.YtjngnigelkgekaaGreat.Kit Go.Proofs.YtjngnigelkgekaaGreat.Plain Go.Proofs.YtjngnigelkgekaaGreat.Disk Go.Proofs.YtjngnigelkgekaaGreat.Root Go.Proofs.YtjngnigelkgekaaGreat.Frame
open Go.Proofs.YtjngnigelkgekaaGreat.Home (K2 RT)
open Go.Proofs.YtjngnigelkgekaaGreat.Delta (Chg KC deltaF oneF two okF)
open Go.Proofs.YtjngnigelkgekaaGreat.Tape (Tp okN good)
def TpX (g : Nat) (A : Option Addr) (n c : Nat) : HP := Ex fun p : Int => Star [Pu (0 ≤ p), Tp g A n c p]
section
variable {w0 W : World} {F : List HP} {g n c : Nat} {A : Option Addr} {L : List Int}
theorem tpx_open (h : Sep w0 W (TpX g A n c :: F)) : ∃ p : Int, 0 ≤ p ∧ Sep w0 W (Tp g A n c p :: F) := by
  obtain ⟨p, h1⟩ := h.ex
  obtain ⟨h2, h3⟩ := h1.star.pu
  exact ⟨p, h2, h3⟩
theorem tpx_shut {p : Int} (hp : 0 ≤ p) (h : Sep w0 W (Tp g A n c p :: F)) : Sep w0 W (TpX g A n c :: F) := Sep.unex p (Sep.unstar (L := [_, _]) (h.unpu hp))
theorem nextX_ (ht : I64.C w0 A n L) (h : Sep w0 W (TpX g A n c :: F)) (k : Int) :
    Calls Tryz.prog 28 #[.pointer (some ⟨g, 0, none⟩), .int .i64 k] W fun e w' => ∃ r, e = .returned (.int .i64 r) ∧ okN k r ∧ Sep w0 w' (TpX g A n c :: F) := by
  obtain ⟨p, hp, h2⟩ := tpx_open h
  refine (Tape.next_ ht hp h2 k).mono ?_
  rintro e w' ⟨r, p', rfl, ho, hp', hS⟩
  exact ⟨r, rfl, ho, tpx_shut hp' hS⟩
theorem changesX_ (ht : I64.C w0 A n L) (h : Sep w0 W (TpX g A n c :: F)) (m : Nat) (hm : m ≤ 1000) :
    Calls Tryz.prog 31 #[.pointer (some ⟨g, 0, none⟩), .int .i64 (m : Int)] W fun e w' => ∃ v l, e = .returned v ∧ good m l ∧ Sep w0 w' (Row KC 75 v l :: TpX g A n c :: F) := by
  obtain ⟨p, hp, h2⟩ := tpx_open h
  refine (Tape.changes_ ht hp h2 m hm).mono ?_
  rintro e w' ⟨v, l, p', rfl, hg, hp', hS⟩
  exact ⟨v, l, rfl, hg, (tpx_shut hp' hS.at2).at2⟩
end
theorem two_bytes {n : Int} : Bytes (two n) := fun x hx => by
  simp [two] at hx
  omega
theorem flat_bytes : ∀ {l : List Chg}, (∀ c ∈ l, Bytes c.2) → Bytes (l.flatMap oneF)
  | [], _ => Bytes.nil
  | c :: r, h => by
    rw [List.flatMap_cons]
    exact (two_bytes.app (h c (List.mem_cons_self ..))).app (flat_bytes (fun x hx => h x (List.mem_cons_of_mem _ hx)))
theorem okF_len : ∀ {l : List Chg} {pages last : Int}, okF pages last l = true → (l.flatMap oneF).length = 66 * l.length
  | [], _, _, _ => rfl
  | c :: r, pages, last, h => by
    unfold okF at h
    rw [Bool.and_eq_true, decide_eq_true_eq] at h
    rw [List.flatMap_cons, List.length_append, okF_len h.2, oneF, List.length_append, h.1.2.2, List.length_cons]
    simp [two]; omega
end Go.Proofs.YtjngnigelkgekaaGreat.Redo
namespace Go.Proofs.YtjngnigelkgekaaGreat.Store
open Go.RowKit Go.Proofs.YtjngnigelkgekaaGreatW.PrintWords Go.Proofs.YtjngnigelkgekaaGreatW.PrintLast Go.Proofs.YtjngnigelkgekaaGreatW.PrintMore Go.Proofs.YtjngnigelkgekaaGreat.Kit Go.Proofs.YtjngnigelkgekaaGreat.Plain Go.Proofs.YtjngnigelkgekaaGreat.Disk Go.Proofs.YtjngnigelkgekaaGreat.Root
open Go.Proofs.YtjngnigelkgekaaGreat.Delta (Chg KC deltaF rightF okF right_ needF)
open Go.Proofs.YtjngnigelkgekaaGreat.Frame (frameF frameF_len frameF_bytes fbytes_)
open Go.Proofs.YtjngnigelkgekaaGreat.Redo (appR okA append_ sizeF)
def insAll (ks : List Int) (l : List Chg) : List Int := l.foldl (fun ks c => insK ks c.1) ks
theorem insK_len (ks : List Int) (k : Int) : (insK ks k).length ≤ ks.length + 1 := by unfold insK; split <;> simp
theorem insAll_len (l : List Chg) : ∀ ks : List Int, (insAll ks l).length ≤ ks.length + l.length := by
  induction l with
  | nil => intro ks; exact Nat.le_refl _
  | cons c r ih =>
    intro ks
    have h1 := ih (insK ks c.1)
    have h2 := insK_len ks c.1
    show (insAll (insK ks c.1) r).length ≤ _
    rw [List.length_cons]; omega
theorem insAll_snoc (ks : List Int) (l : List Chg) (c : Chg) : insAll ks (l ++ [c]) = insK (insAll ks l) c.1 := by unfold insAll; rw [List.foldl_append]; rfl
theorem insK_mem {ks : List Int} {k x : Int} (h : x ∈ insK ks k) : x ∈ ks ∨ x = k := by
  unfold insK at h
  split at h
  · exact .inl h
  · rcases List.mem_append.1 h with h | h
    · exact .inl h
    · exact .inr (List.mem_singleton.1 h)
theorem insAll_mem {x : Int} (l : List Chg) : ∀ {ks : List Int}, x ∈ insAll ks l → x ∈ ks ∨ ∃ c ∈ l, x = c.1 := by
  induction l with
  | nil => intro ks h; exact .inl h
  | cons c r ih =>
    intro ks h
    rcases ih (ks := insK ks c.1) h with h | ⟨d, hd, hx⟩
    · rcases insK_mem h with h | h
      · exact .inl h
      · exact .inr ⟨c, List.mem_cons_self .., h⟩
    · exact .inr ⟨d, List.mem_cons_of_mem _ hd, hx⟩
theorem right_all : ∀ {l : List Chg} {pages last : Int}, okF pages last l = true → -1 ≤ last → ∀ c ∈ l, 0 ≤ c.1 ∧ c.1 < pages ∧ c.2.length = 64
  | [], _, _, _, _, _, hc => by cases hc
  | c :: r, pages, last, h, hl, x, hx => by
    unfold okF at h
    rw [Bool.and_eq_true, decide_eq_true_eq] at h
    rcases List.mem_cons.1 hx with rfl | hx
    · exact ⟨by omega, by omega, h.1.2.2⟩
    · exact right_all h.2 (by omega) x hx
theorem fits_in {a : Int} {u n : Nat} (h : fitsF a u n = true) : n ≤ 64 ∧ (u : Int) + 18 + 66 * n ≤ sizeF a := by
  unfold fitsF needF at h
  rw [decide_eq_true_eq] at h
  split at h
  · omega
  · omega
section
variable {w0 W : World} {F : List HP} {gs g m n : Nat} {a b ep : Int} {pages : List (List Int)} {named : List Int} {used seq : Nat} {las : List Int} {wt : Wt}
set_option maxHeartbeats 1600000 in
set_option maxRecDepth 100000 in
theorem commit_bad (h : Sep w0 W (StB gs g m a b ep pages named used seq :: F)) {A2 : Option Addr} {n2 c2 : Nat} {l : List Chg} (hC : KC.C W A2 n2 l) (hr : rightF l b = false) :
    Calls Tryz.prog 32 #[.pointer (some ⟨gs, 0, none⟩), .slice A2 n2 c2] W fun e w' => e = .returned (.int .i64 1) ∧ Sep w0 w' (StB gs g m a b ep pages named used seq :: F) := by
  obtain ⟨A, c, hs⟩ := stb_open h
  have H0 := Aside0.mk h
  have HC := Aside0.mk hC
  have HR := Aside0.mk hr
  have z2 := (hs.cell 2).trans rfl
  clear h hs hC hr
  go_enter Tryz.func32, Tryz.ntmps32
  go_wp2_with fail
  refine (right_ HC.out b).mono ?_
  rintro e w1 ⟨rfl, hb1⟩
  rw [HR.out]
  have B1 := Aside0.mk (H0.out.below hb1)
  clear hb1
  go_wp2_with fail
  go_ret
  exact ⟨by first | rfl | (simp; done), B1.out⟩
set_option maxHeartbeats 1600000 in
set_option maxRecDepth 100000 in
theorem commit_full (h : Sep w0 W (StB gs g m a b ep pages named used seq :: F)) {A2 : Option Addr} {n2 c2 : Nat} {l : List Chg} (hC : KC.C W A2 n2 l) (hr : rightF l b = true) (hu : (used : Int) ≤ sizeF a) (hf : fitsF a used n2 = false) :
    Calls Tryz.prog 32 #[.pointer (some ⟨gs, 0, none⟩), .slice A2 n2 c2] W fun e w' => e = .returned (.int .i64 24) ∧ Sep w0 w' (StB gs g m a b ep pages named used seq :: F) := by
  obtain ⟨A, c, hs⟩ := stb_open h
  have HS := Aside0.mk hs
  have HC := Aside0.mk hC
  have HR := Aside0.mk hr
  have HU := Aside0.mk hu
  have HF := Aside0.mk hf
  have hm2 : n2 ≤ 9223372036854775807 := hC.2.1
  have z2 := (hs.cell 2).trans rfl
  clear h hs hC hr hu hf
  go_enter Tryz.func32, Tryz.ntmps32
  go_wp2_with fail
  refine (right_ HC.out b).mono ?_
  rintro e w1 ⟨rfl, hb1⟩
  rw [HR.out]
  have B1 := Aside0.mk (HS.out.below hb1).drew
  clear hb1 z2
  go_wp2_with fail
  refine start_ (n := 13) (S := fun w' => w'.cell? ⟨gs, 1, none⟩ = some (.int .i64 a) ∧ w'.cell? ⟨gs, 2, none⟩ = some (.int .i64 b) ∧ w'.cell? ⟨gs, 3, none⟩ = some (.int .u32 ep) ∧ w'.cell? ⟨gs, 6, none⟩ = some (.int .i64 (used : Int))) (ds := [10]) #[Z,Z,Z,Z,Z,Z,Z,Z,Z,Z,Z,Z,Z] (by kernel_rfl) rfl rfl ⟨(B1.out.cell 1).trans rfl, (B1.out.cell 2).trans rfl, (B1.out.cell 3).trans rfl, (B1.out.cell 6).trans rfl⟩ (fun hHeld => ?_)
  refine pu_ 0 18 ?_ #[J,Z,Z,Z,Z,Z,Z,Z,Z,Z,Z,Z,Z] rfl rfl ?_ ?_ ?_ ?_
  rotate_left
  · intro w'
    go_simp
    with_reducible rfl
  rotate_left
  · simp only [aP]
    rfl
  refine pu_ 1 19 ?_ #[J,J,Z,Z,Z,Z,Z,Z,Z,Z,Z,Z,Z] rfl rfl ?_ ?_ ?_ ?_
  rotate_left
  · intro w'
    go_simp
    with_reducible rfl
  rotate_left
  · simp only [aP]
    rfl
  refine pu_ 2 20 ?_ #[J,J,J,Z,Z,Z,Z,Z,Z,Z,Z,Z,Z] rfl rfl ?_ ?_ ?_ ?_
  rotate_left
  · intro w'
    go_simp
    with_reducible rfl
  rotate_left
  · simp only [aP]
    rfl
  refine pu_ 4 22 ?_ #[J,J,J,Z,J,Z,Z,Z,Z,Z,Z,Z,Z] rfl rfl ?_ ?_ ?_ ?_
  rotate_left
  · intro w'
    go_simp
    with_reducible rfl
  rotate_left
  · simp only [aP]
    rfl
  refine pu_ 5 23 ?_ #[J,J,J,Z,J,J,Z,Z,Z,Z,Z,Z,Z] rfl rfl ?_ ?_ ?_ ?_
  rotate_left
  · intro w'
    go_simp
    with_reducible rfl
  rotate_left
  · simp only [aP]
    rfl
  refine pu_ 6 24 ?_ #[J,J,J,Z,J,J,J,Z,Z,Z,Z,Z,Z] rfl rfl ?_ ?_ ?_ ?_
  rotate_left
  · intro w'
    go_simp
    with_reducible rfl
  rotate_left
  · simp only [aP]
    rfl
  refine pu_ 8 26 ?_ #[J,J,J,Z,J,J,J,Z,J,Z,Z,Z,Z] rfl rfl ?_ ?_ ?_ ?_
  rotate_left
  · intro w'
    go_simp
    with_reducible rfl
  rotate_left
  · simp only [aP]
    rfl
  refine pu_ 9 27 ?_ #[J,J,J,Z,J,J,J,Z,J,J,Z,Z,Z] rfl rfl ?_ ?_ ?_ ?_
  rotate_left
  · intro w'
    go_simp
    with_reducible rfl
  rotate_left
  · simp only [aP]
    rfl
  refine ta_ 3 21 ?_ #[J,J,J,J,J,J,J,Z,J,J,Z,Z,Z] rfl rfl ?_ hHeld ?_ ?_ ?_
  rotate_left
  · rintro w' ⟨s0, s1, s2, s3⟩
    go_simp
    with_reducible rfl
  rotate_left
  · simp only [aP]
    rfl
  refine ta_ 7 25 ?_ #[J,J,J,J,J,J,J,J,J,J,Z,Z,Z] rfl rfl ?_ hHeld ?_ ?_ ?_
  rotate_left
  · rintro w' ⟨s0, s1, s2, s3⟩
    go_simp
    with_reducible rfl
  rotate_left
  · simp only [aP]
    rfl
  refine last_ (i := 10) (N := some 28) #[J,J,J,J,J,J,J,J,J,J,J,Z,Z] rfl rfl (by kernel_rfl) (by decide) (fun K hK => ?_)
  refine goes_ Tryz.func70 (by kernel_rfl) rfl #[.agg #[.int .i64 a, .int .i64 b, .int .u32 ep], .int .i64 (used : Int), .int .i64 (n2 : Int)] (by rfl) rfl rfl (by simp only [List.map_toArray, List.map_cons, List.map_nil]; rfl) ?_
  with_reducible refine (fits_ a b ep used n2 HU.out _).mono ?_
  rintro e w3 ⟨rfl, hb3⟩
  refine ⟨_, rfl, ?_⟩
  rw [HF.out]
  have B3 := Aside0.mk (B1.out.below hb3)
  clear hb3
  refine hK.out _ _ ?_
  clear hK K
  refine norm_ (a' := ?_) ?_ ?_
  rotate_left
  · show Act.put _ (some 28) _ = _
    simp only [aP]
    rfl
  refine pu_ 11 29 ?_ #[J,J,J,J,J,J,J,J,J,J,J,J,Z] rfl rfl ?_ ?_ ?_ ?_
  rotate_left
  · intro w'
    go_simp
    with_reducible rfl
  rotate_left
  · simp only [aP]
    rfl
  refine pu_ 12 17 ?_ #[J,J,J,J,J,J,J,J,J,J,J,J,J] rfl rfl ?_ ?_ ?_ ?_
  rotate_left
  · intro w'
    go_simp
    with_reducible rfl
  rotate_left
  · simp only [aP]
    rfl
  refine done_ (by kernel_rfl) ?_
  go_wp2_with fail
  go_ret
  exact ⟨by first | rfl | (simp; done), stb_shut B3.out⟩
end
end Go.Proofs.YtjngnigelkgekaaGreat.Store
namespace Go.Proofs.YtjngnigelkgekaaGreat.Kit
open Go.RowKit Go.Proofs.YtjngnigelkgekaaGreatW.PrintWords Go.Proofs.YtjngnigelkgekaaGreatW.PrintLast Go.Proofs.YtjngnigelkgekaaGreatW.PrintMore
theorem ovs : ∀ {inner : List Value}, (∀ u ∈ inner, u.oneCell' = true) → ∃ cs : List OV, cs.map (·.1) = inner
  | [], _ => ⟨[], rfl⟩
  | u :: t, h => by
    obtain ⟨cs, hc⟩ := ovs (inner := t) (fun x hx => h x (List.mem_cons_of_mem _ hx))
    exact ⟨⟨u, h u (List.mem_cons_self ..)⟩ :: cs, by rw [List.map_cons, hc]⟩
theorem take1 {α : Type} {l : List α} {j : Nat} {x : α} (h : l[j]? = some x) : (l.drop (j * 1)).take 1 = [x] := by
  obtain ⟨hj, hx⟩ := List.getElem?_eq_some_iff.1 h
  rw [Nat.mul_one, List.drop_eq_getElem_cons hj, hx]
  rfl
theorem Sep.rowToV {w0 W : World} {F : List HP} {α : Type} {d : Kd α} {e : Nat} {v : Value} {xs : List α} (hd : d.sz = 1) (h : Sep w0 W (Row d e v xs :: F)) : Sep w0 W (RowV d e v xs :: F) := by
  obtain ⟨ok, ⟨⟨h0, inner, ho, hr⟩, hb⟩, hdis, hF⟩ := h.sep
  rw [hd] at ho hr
  have hlen : inner.length = xs.length := by have := ho.1; omega
  have hone : ∀ u ∈ inner, u.oneCell' = true := fun u hu => by
    obtain ⟨j, hj, rfl⟩ := List.getElem_of_mem hu
    have hx : j < xs.length := by omega
    have hM := hr.2 j _ (List.getElem?_eq_getElem hx)
    rw [take1 (List.getElem?_eq_getElem hj)] at hM
    exact d.K_one (d.K_of_M hM) _ (List.mem_singleton.2 rfl)
  obtain ⟨cs, hcs⟩ := ovs hone
  have hcl : cs.length = xs.length := by rw [← hlen, ← hcs, List.length_map]
  refine Sep.rowV_shut (cs := cs) ⟨h.os, h.tape, h.output, h.size, h.old, fun k => v.ownBlock = some k, ⟨⟨fun k hk => hk, inner, ?_, ?_⟩, fun k hk => hb k (h0 k hk)⟩, fun k hk => hdis k (h0 k hk), fun k => ok k ∧ some k ≠ v.ownBlock, ⟨fun W' hm => ⟨hcl.symm, fun j x c hx hc => ?_⟩, fun k hk => hb k hk.1⟩, fun k hk ha => ?_, ?_⟩
  · show W.ownsRow 0 e 1 v cs.length inner
    rw [hcl]; exact ho
  · refine ⟨by rw [hlen, hcl]; exact (Nat.mul_one _).symm, fun j c hj => ?_⟩
    have : inner[j]? = some c.1 := by rw [← hcs, List.getElem?_map, hj]; rfl
    show (inner.drop (j * 1)).take 1 = [c.1]
    exact take1 this
  · have hM := hr.2 j x hx
    have hi : inner[j]? = some c.1 := by rw [← hcs, List.getElem?_map, hc]; rfl
    rw [take1 hi] at hM
    exact d.K_of_M (d.M_move (w1 := W') (fun k hk => hm k hk) hM)
  · rcases ha with ha | ha
    · exact hdis k hk.1 ha
    · exact hk.2 ha.symm
  · refine hF.weaken (fun k hk => ?_)
    rcases hk with (hk | hk) | hk
    · exact .inl hk
    · exact .inr (h0 k hk)
    · exact .inr hk.1
end Go.Proofs.YtjngnigelkgekaaGreat.Kit
namespace Go.Proofs.YtjngnigelkgekaaGreat.Store
open Go.RowKit Go.Proofs.YtjngnigelkgekaaGreatW.PrintWords Go.Proofs.YtjngnigelkgekaaGreatW.PrintLast Go.Proofs.YtjngnigelkgekaaGreatW.PrintMore Go.Proofs.YtjngnigelkgekaaGreat.Kit Go.Proofs.YtjngnigelkgekaaGreat.Plain Go.Proofs.YtjngnigelkgekaaGreat.Disk Go.Proofs.YtjngnigelkgekaaGreat.Root
open Go.Proofs.YtjngnigelkgekaaGreat.Delta (Chg KC deltaF rightF okF undeltaF)
open Go.Proofs.YtjngnigelkgekaaGreat.Frame (recsF scanR)
open Go.Proofs.YtjngnigelkgekaaGreat.Redo (K3 recR logF records_)
open Go.Proofs.YtjngnigelkgekaaGreat.Home (pagesF pageF mayF)
def pgAll (ps : List (List Int)) (rows : List (List Chg)) : List (List Int) := rows.foldl applyF ps
def nmAll (ks : List Int) (rows : List (List Chg)) : List Int := rows.foldl insAll ks
theorem pgAll_snoc (ps : List (List Int)) (rows : List (List Chg)) (x : List Chg) : pgAll ps (rows ++ [x]) = applyF (pgAll ps rows) x := by unfold pgAll; rw [List.foldl_append]; rfl
theorem nmAll_snoc (ks : List Int) (rows : List (List Chg)) (x : List Chg) : nmAll ks (rows ++ [x]) = insAll (nmAll ks rows) x := by unfold nmAll; rw [List.foldl_append]; rfl
theorem pgAll_len (rows : List (List Chg)) : ∀ ps : List (List Int), (pgAll ps rows).length = ps.length := by
  induction rows with
  | nil => intro ps; rfl
  | cons x r ih => intro ps; exact (ih _).trans (applyF_len x ps)
theorem undelta_right {b : List Int} {pages : Int} {x : List Chg} (h : undeltaF b pages = some x) : rightF x pages = true := by
  unfold undeltaF at h
  split at h
  · cases h
  · split at h
    · cases h
    · split at h
      · rename_i h1
        injection h with h
        rw [← h]; exact h1
      · cases h
theorem recs_right (pages : Int) : ∀ (rows : List (List Int)), ∀ x ∈ (recsF pages rows).1, rightF x pages = true
  | [], x, hx => by simp [recsF] at hx
  | b :: t, x, hx => by
    cases hu : undeltaF b pages with
    | none => simp [recsF, hu] at hx
    | some y =>
      simp only [recsF, hu] at hx
      rcases List.mem_cons.1 hx with rfl | hx
      · exact undelta_right hu
      · exact recs_right pages t x hx
theorem right_in {l : List Chg} {b : Int} (h : rightF l b = true) : b ≤ 64 ∧ ∀ c ∈ l, 0 ≤ c.1 ∧ c.1 < b ∧ c.2.length = 64 := by
  unfold rightF at h
  rw [Bool.and_eq_true, decide_eq_true_eq] at h
  exact ⟨h.1, right_all h.2 (by decide)⟩
theorem applyOne_le {ps : List (List Int)} {c : Chg} {M : Nat} (h : ∀ p ∈ ps, p.length ≤ M) (hc : c.2.length ≤ M) : ∀ p ∈ applyOne ps c, p.length ≤ M := by
  unfold applyOne
  split
  · intro p hp
    rcases List.mem_or_eq_of_mem_set hp with h1 | rfl
    · exact h p h1
    · exact hc
  · exact h
theorem applyF_le {M : Nat} : ∀ {l : List Chg} {ps : List (List Int)}, (∀ p ∈ ps, p.length ≤ M) → (∀ c ∈ l, c.2.length ≤ M) → ∀ p ∈ applyF ps l, p.length ≤ M
  | [], _, h, _ => h
  | c :: r, _, h, hl => applyF_le (l := r) (applyOne_le h (hl c (List.mem_cons_self ..))) (fun x hx => hl x (List.mem_cons_of_mem _ hx))
theorem pgAll_le {M : Nat} : ∀ {rows : List (List Chg)} {ps : List (List Int)}, (∀ p ∈ ps, p.length ≤ M) → (∀ x ∈ rows, ∀ c ∈ x, c.2.length ≤ M) → ∀ p ∈ pgAll ps rows, p.length ≤ M
  | [], _, h, _ => h
  | x :: r, _, h, hl => pgAll_le (rows := r) (applyF_le h (hl x (List.mem_cons_self ..))) (fun y hy => hl y (List.mem_cons_of_mem _ hy))
theorem nmAll_mem {P : Int → Prop} : ∀ {rows : List (List Chg)} {ks : List Int}, (∀ k ∈ ks, P k) → (∀ x ∈ rows, ∀ c ∈ x, P c.1) → ∀ k ∈ nmAll ks rows, P k
  | [], _, h, _ => h
  | x :: r, ks, h, hl => nmAll_mem (rows := r) (ks := insAll ks x) (fun k hk => by
      rcases insAll_mem x hk with h1 | ⟨c, hc, rfl⟩
      · exact h k h1
      · exact hl x (List.mem_cons_self ..) c hc) (fun y hy => hl y (List.mem_cons_of_mem _ hy))
theorem nmAll_len (B : Nat) : ∀ (rows : List (List Chg)) (ks : List Int), (∀ x ∈ rows, x.length ≤ B) → (nmAll ks rows).length ≤ ks.length + B * rows.length
  | [], _, _ => by simp [nmAll]
  | x :: r, ks, h => by
    have h1 := nmAll_len B r (insAll ks x) (fun y hy => h y (List.mem_cons_of_mem _ hy))
    have h2 := insAll_len x ks
    have h3 := h x (List.mem_cons_self ..)
    show (nmAll (insAll ks x) r).length ≤ _
    rw [List.length_cons, Nat.mul_succ]; omega
theorem os_at {α : Type} {e : Nat} {d : Kd α} {W : World} {rows : List (List α)} {cs : List OV} (hE : EachV (Kd.slice e d) rows cs W) {k : Nat} (hk : k < rows.length) : ∃ (hc : k < cs.length) (B : Option Addr) (cB : Nat), (cs[k]).1 = .slice B (rows[k]).length cB ∧ (rows[k]).length ≤ cB := by
  have hc : k < cs.length := by rw [← hE.1]; exact hk
  obtain ⟨B, cB, h1, h2, _⟩ := hE.2 k _ _ (List.getElem?_eq_getElem hk) (List.getElem?_eq_getElem hc)
  exact ⟨hc, B, cB, (List.cons.inj h1).1, h2⟩
theorem os_C {α : Type} {e : Nat} {d : Kd α} {W : World} {rows : List (List α)} {cs : List OV} (hE : EachV (Kd.slice e d) rows cs W) {k : Nat} (hk : k < rows.length) (hc : k < cs.length) {B : Option Addr} {cB : Nat} (hv : (cs[k]).1 = .slice B (rows[k]).length cB) : d.C W B (rows[k]).length rows[k] := by
  obtain ⟨B', cB', h1, _, h3⟩ := hE.2 k _ _ (List.getElem?_eq_getElem hk) (List.getElem?_eq_getElem hc)
  have h4 := (List.cons.inj h1).1
  rw [hv] at h4
  cases h4
  exact h3
section
variable {w0 W : World} {F : List HP} {g n : Nat} {las : List Int} {wt : Wt}
set_option maxHeartbeats 3200000 in
set_option maxRecDepth 100000 in
theorem pages_ (h : Sep w0 W (Dsk g las wt :: F)) (hl : las.length = 64 * n) (hn : n ≤ 160) (hw : ∀ i b, wt i = some b → b.length = 64) (a b c : Int) (hb : Bytes (logF n las wt a b c)) (hp0 : (pagesF n las wt a b c).length ≤ 64) (hp1 : ∀ p ∈ pagesF n las wt a b c, p.length ≤ 1000000) (hrl : (recR n las wt a b c).1.length ≤ 1000) (hrx : ∀ x ∈ (recR n las wt a b c).1, x.length ≤ 64) :
    Calls Tryz.prog 100 #[.pointer (some ⟨g, 0, none⟩), .agg #[.int .i64 a, .int .i64 b, .int .u32 c]] W fun e w' => ∃ v m, e = .returned (.tuple #[v, .map (some m)]) ∧ Sep w0 w' (RowV KP 24 v (pgAll (pagesF n las wt a b c) (recR n las wt a b c).1) :: SetM m (nmAll [] (recR n las wt a b c).1) :: Dsk g las wt :: F) := by
  have A0 := Aside0.mk (h.newBlk 80 #[.int .i64 a, .int .i64 b, .int .u32 c])
  have HL := Aside0.mk (And.intro hl (And.intro hn (And.intro hw hb)))
  have HRT : Aside0 (∀ x ∈ (recR n las wt a b c).1, rightF x b = true) := ⟨recs_right b _⟩
  obtain ⟨P0, hP0⟩ : ∃ P, pagesF n las wt a b c = P := ⟨_, rfl⟩
  obtain ⟨rr, hrr⟩ : ∃ P, (recR n las wt a b c).1 = P := ⟨_, rfl⟩
  rw [hP0] at hp0 hp1
  rw [hrr] at HRT hrl hrx
  have HP0 := Aside0.mk hP0
  have HRR := Aside0.mk hrr
  have HPL := Aside0.mk (And.intro hp0 hp1)
  have HRL := Aside0.mk (And.intro hrl hrx)
  obtain ⟨N, hN⟩ : ∃ N, rr.length = N := ⟨_, rfl⟩
  have HN := Aside0.mk hN
  have hN1 : N ≤ 1000 := by omega
  have HCL : Aside0 (∀ x ∈ rr, ∀ c ∈ x, c.2.length ≤ 1000000 ∧ -9223372036854775808 ≤ c.1 ∧ c.1 ≤ 9223372036854775807) := ⟨fun x hx c hc => by have h1 := right_in (HRT.out x hx); have h2 := h1.2 c hc; have := h1.1; exact ⟨by omega, by omega, by omega⟩⟩
  have z0 := (A0.out.cell 0).trans rfl
  have z1 := (A0.out.cell 1).trans rfl
  have z2 := (A0.out.cell 2).trans rfl
  clear h hl hn hw hb hp0 hp1 hrl hrx hP0 hrr hN
  have hmm := @run_makeMap Tryz.prog
  go_enter Tryz.func100, Tryz.ntmps100
  go_wp2_with fail
  refine (Home.all_ A0.out.at2 HL.out.1 a b c).mono ?_
  rintro e w1 ⟨v1, rfl, hS1⟩
  rw [HP0.out] at hS1
  have B1 := Aside0.mk (Sep.rowToV rfl hS1)
  have B2 := Aside0.mk (set_new B1.out)
  obtain ⟨m, hm⟩ : ∃ m, w1.heap.size = m := ⟨_, rfl⟩
  rw [hm] at B2
  clear hS1 z0 z1 z2
  have z0 := (B2.out.at4.cell 0).trans rfl
  have z1 := (B2.out.at4.cell 1).trans rfl
  have z2 := (B2.out.at4.cell 2).trans rfl
  obtain ⟨w2, hw2⟩ : ∃ x, w1.alloc (.map #[] 0) = x := ⟨_, rfl⟩
  rw [hw2] at B2 z0 z1 z2
  go_wp2_with fail
  clear hw2 hm
  refine (records_ B2.out.at3 HL.out.1 HL.out.2.1 HL.out.2.2.1 a b c HL.out.2.2.2).mono ?_
  rintro e w3 ⟨v3, rfl, hS3⟩
  rw [HRR.out] at hS3
  obtain ⟨A4, c4, rfl⟩ := hS3.rowN HN.out
  obtain ⟨cs, hcs⟩ := (Sep.rowToV rfl hS3).rowV_open
  have B3 : Aside0 (Sep w0 w3 (SetM m [] :: RowV KP 24 v1 P0 :: Row KV 60 (.slice A4 N c4) cs :: Fx (EachV K3 rr cs) :: Dsk g las wt :: Blk W.heap.size 80 #[.int .i64 a, .int .i64 b, .int .u32 c] :: F)) := ⟨hcs.at5.at5⟩
  obtain ⟨A1, c1, rfl⟩ := Sep.rowVN B3.out.at2 rfl
  clear hS3 hcs z0 z1 z2 hmm
  go_wp2_with fail
  go_loopg [6, 26] N (fun k_ v p wr => ∃ (j : Nat), p = .int .i64 (j : Int) ∧ j + k_ = N ∧ Sep w0 wr (SetM m (nmAll [] (rr.take j)) :: RowV KP 24 v (pgAll P0 (rr.take j)) :: Row KV 60 (.slice A4 N c4) cs :: Fx (EachV K3 rr cs) :: Dsk g las wt :: Blk W.heap.size 80 #[.int .i64 a, .int .i64 b, .int .u32 c] :: F))
  case atStart => exact ⟨0, rfl, by omega, B3.out⟩
  case round =>
    obtain ⟨j, rfl, hjk, hS⟩ := hrel
    obtain ⟨G0, rfl⟩ : ∃ G, G = gk := ⟨_, rfl⟩
    obtain ⟨w4, rfl⟩ : ∃ x, x = wr := ⟨_, rfl⟩
    have AK := Aside0.mk hjk
    obtain ⟨ps, hps⟩ : ∃ p, pgAll P0 (rr.take j) = p := ⟨_, rfl⟩
    obtain ⟨nm, hnm⟩ : ∃ p, nmAll [] (rr.take j) = p := ⟨_, rfl⟩
    rw [hps, hnm] at hS
    have HPS := Aside0.mk hps
    have HNM := Aside0.mk hnm
    obtain ⟨NP, hNP⟩ : ∃ n, ps.length = n := ⟨_, rfl⟩
    obtain ⟨A6, c6, rfl⟩ := Sep.rowVN hS.at2 hNP
    have HNP := Aside0.mk hNP
    have AS := Aside0.mk hS
    clear hS hps hnm hNP
    by_cases cj : j < N
    case pos =>
      have hjl : (j : Int) < (N : Int) := by omega
      have hjx : j < rr.length := by rw [HN.out]; exact cj
      obtain ⟨hc', B, cB, hov, hlc⟩ := os_at AS.out.at4.fx hjx
      obtain ⟨_, ap, cs1, hAp, hK1, hc0, _⟩ := elem_ (d := KV) AS.out.at3.rowC' cj
      have hK2 : cs1 = [(cs[j]).1] := hK1
      subst hK2
      have hcell := hc0 _ rfl
      rw [show j * KV.sz = j from Nat.mul_one j, hov] at hcell
      have HOC : Aside0 (∀ W', EachV K3 rr cs W' → KC.C W' B (rr[j]).length rr[j]) := ⟨fun W' hE => os_C hE hjx hc' hov⟩
      have HXR := Aside0.mk (HCL.out _ (List.getElem_mem hjx))
      have HX64 := Aside0.mk (HRL.out.2 _ (List.getElem_mem hjx))
      have HPJ : Aside0 (pgAll P0 (rr.take (j + 1)) = applyF ps rr[j]) := ⟨by rw [take_one hjx, pgAll_snoc, HPS.out]⟩
      have HNJ : Aside0 (nmAll [] (rr.take (j + 1)) = insAll nm rr[j]) := ⟨by rw [take_one hjx, nmAll_snoc, HNM.out]⟩
      have HPB : Aside0 (NP ≤ 100000 ∧ ∀ p ∈ ps, p.length ≤ 1000000) := ⟨by
        constructor
        · rw [← HNP.out, ← HPS.out, pgAll_len]; have := HPL.out.1; omega
        · rw [← HPS.out]
          exact pgAll_le HPL.out.2 (fun x hx c hc => (HCL.out x (List.mem_of_mem_take hx) c hc).1)⟩
      have HNB : Aside0 (nm.length ≤ 64 * N) := ⟨by
        have h1 := nmAll_len 64 (rr.take j) [] (fun x hx => HRL.out.2 x (List.mem_of_mem_take hx))
        rw [HNM.out] at h1
        have h2 : (rr.take j).length ≤ N := by rw [List.length_take, HN.out]; omega
        have h3 : 64 * (rr.take j).length ≤ 64 * N := Nat.mul_le_mul_left _ h2
        simp only [List.length_nil] at h1
        omega⟩
      obtain ⟨x, hx⟩ : ∃ x, rr[j] = x := ⟨_, rfl⟩
      obtain ⟨XL, hXL⟩ : ∃ L, (rr[j]).length = L := ⟨_, rfl⟩
      rw [hXL] at hcell hlc HOC HX64
      rw [hx] at HOC HXR HPJ HNJ hXL
      have HXL := Aside0.mk hXL
      subst hAp
      clear hjk cj hov hc0 hlc hjx hx hXL
      go_wp2_with fail
      refine (apply_ (ps := ps) (l := x) (Sep.rowVC rfl AS.out.at2).2.2 (HOC.out _ AS.out.at4.fx) HPB.out.1 HPB.out.2 (fun c hc => (HXR.out c hc).1)).mono ?_
      rintro e w5 ⟨v5, rfl, hS5⟩
      obtain ⟨ps2, hps2⟩ : ∃ p, applyF ps x = p := ⟨_, rfl⟩
      have HPS2 := Aside0.mk hps2
      rw [hps2] at hS5
      obtain ⟨A5, c5, rfl⟩ := Sep.rowVN hS5 (n := NP) (by rw [← hps2, applyF_len]; exact HNP.out)
      have B5 := Aside0.mk (AS.out.lift1 hS5).at3.tail.at2
      have hXN : XL ≤ 9223372036854775807 := by have := HX64.out; omega
      clear hS5 hps2
      go_wp2_with fail
      go_loopg [35] XL (fun k_ p wr => ∃ (i : Nat), p = .int .i64 (i : Int) ∧ i + k_ = XL ∧ Sep w0 wr (SetM m (insAll nm (x.take i)) :: RowV KP 24 (.slice A5 NP c5) ps2 :: Row KV 60 (.slice (some ap) N c4) cs :: Fx (EachV K3 rr cs) :: Dsk g las wt :: Blk W.heap.size 80 #[.int .i64 a, .int .i64 b, .int .u32 c] :: F))
      case atStart => exact ⟨0, rfl, by omega, B5.out⟩
      case round =>
        obtain ⟨i, rfl, hik, hS⟩ := hrel
        obtain ⟨w6, rfl⟩ : ∃ x, x = wr := ⟨_, rfl⟩
        have AI := Aside0.mk hik
        have AT := Aside0.mk hS
        clear hS
        by_cases ci : i < XL
        case pos =>
          have hil : (i : Int) < (XL : Int) := by omega
          obtain ⟨hxi, ad, B2', cB2, rfl, q0, q1, q2, q3⟩ := elem2_ (HOC.out _ AT.out.at4.fx) ci
          have hpg := (HXR.out _ (List.getElem_mem hxi)).2
          have HIN : Aside0 (insAll nm (x.take (i + 1)) = insK (insAll nm (x.take i)) (x[i]).1) := ⟨by rw [take_one hxi, insAll_snoc]⟩
          obtain ⟨pg, hpgE⟩ : ∃ p, (x[i]).1 = p := ⟨_, rfl⟩
          obtain ⟨bn, hbn⟩ : ∃ p, (x[i]).2.length = p := ⟨_, rfl⟩
          rw [hpgE] at q0 hpg HIN
          rw [hbn] at q1
          have HIL : Aside0 ((insAll nm (x.take i)).length < 1000000) := ⟨by
            have h1 := insAll_len (x.take i) nm
            have h2 : (x.take i).length ≤ XL := by rw [List.length_take]; omega
            have h3 := HNB.out
            have h4 := HX64.out
            omega⟩
          have BK := Aside0.mk (AT.out.newBlk 75 #[.int .i64 pg, .slice B2' bn cB2])
          have y0 := (BK.out.cell 0).trans rfl
          obtain ⟨W9, hup, hS9⟩ := set_put (v := .agg #[]) BK.out.at2 pg hpg HIL.out
          rw [← HIN.out] at hS9
          have B9 := Aside0.mk hS9.drop2
          clear hik ci q2 q3 hpgE hbn hpg hxi hS9
          go_wp2_with fail
          go_roundg (gk - 1)
          case measure => have := AI.out; omega
          case rel => exact ⟨i + 1, by go_num, by have := AI.out; omega, B9.out⟩
        case neg =>
        obtain rfl : i = XL := by omega
        have hil : ¬ (i : Int) < (i : Int) := by omega
        have HTX : Aside0 (x.take i = x) := ⟨List.take_of_length_le (by rw [HXL.out]; exact Nat.le_refl _)⟩
        clear hik ci
        go_wp2_with fail
        go_roundg (G0 - 1)
        case measure => have := AK.out; omega
        case rel => exact ⟨j + 1, by go_num, by have := AK.out; omega, by rw [HNJ.out, HPJ.out, HPS2.out]; have h1 := AT.out; rw [HTX.out] at h1; exact h1⟩
    case neg =>
    obtain rfl : j = N := by omega
    have hjl : ¬ (j : Int) < (j : Int) := by omega
    have HTK : Aside0 (rr.take j = rr) := ⟨List.take_of_length_le (by rw [HN.out]; exact Nat.le_refl _)⟩
    clear hjk cj
    go_wp2_with fail
    go_ret2
    refine ⟨_, m, by first | rfl | (simp; done), ?_⟩
    rw [HP0.out, HRR.out]
    have h1 := AS.out
    rw [← HPS.out, ← HNM.out, HTK.out] at h1
    exact h1.at2.at3.tail.at3.tail.at2.at4.tail.at3.at3.sw23
end
end Go.Proofs.YtjngnigelkgekaaGreat.Store
namespace Go.Proofs.YtjngnigelkgekaaGreat.Store
open Go.RowKit Go.Proofs.YtjngnigelkgekaaGreatW.PrintWords Go.Proofs.YtjngnigelkgekaaGreatW.PrintLast Go.Proofs.YtjngnigelkgekaaGreatW.PrintMore Go.Proofs.YtjngnigelkgekaaGreat.Kit Go.Proofs.YtjngnigelkgekaaGreat.Plain Go.Proofs.YtjngnigelkgekaaGreat.Disk Go.Proofs.YtjngnigelkgekaaGreat.Root
open Go.Proofs.YtjngnigelkgekaaGreat.Delta (Chg KC)
open Go.Proofs.YtjngnigelkgekaaGreat.Redo (recR logF)
open Go.Proofs.YtjngnigelkgekaaGreat.Home (pagesF)
section
variable {w0 W : World} {F : List HP} {g n : Nat} {las : List Int} {wt : Wt}
set_option maxHeartbeats 3200000 in
set_option maxRecDepth 100000 in
theorem found_none (h : Sep w0 W (Dsk g las wt :: F)) (hl : las.length = 64 * n) (hn : n ≤ 160) (hw : ∀ i b, wt i = some b → b.length = 64) (hb : ∀ j, Bytes (secF n las wt j)) (h0 : decide (0 < (bestTo n (secF n las wt) 2).2.2) = false) :
    Calls Tryz.prog 62 #[.pointer (some ⟨g, 0, none⟩)] W fun e w' => e = .returned (.tuple #[.agg #[.int .i64 0, .int .i64 0, .int .u32 0], .slice none 0 0, .slice none 0 0, .int .i64 22]) ∧ Sep w0 w' (Dsk g las wt :: F) := by
  have A0 := Aside0.mk (h.newBlk 80 #[.int .i64 0, .int .i64 0, .int .u32 0])
  have HL := Aside0.mk (And.intro hl (And.intro hn (And.intro hw hb)))
  obtain ⟨r, hr⟩ : ∃ r, bestTo n (secF n las wt) 2 = r := ⟨_, rfl⟩
  rw [hr] at h0
  have HR := Aside0.mk hr
  have H0 := Aside0.mk h0
  obtain ⟨p2, hp2⟩ : ∃ p, W.heap.size = p := ⟨_, rfl⟩
  rw [hp2] at A0
  clear h hl hn hw hb hr h0
  go_enter Tryz.func62, Tryz.ntmps62
  go_wp2_with fail
  refine (best_ A0.out.at2 HL.out.1 HL.out.2.1 HL.out.2.2.1 HL.out.2.2.2).mono ?_
  rintro e w2 ⟨rfl, hS2⟩
  rw [HR.out, H0.out]
  have B2 := Aside0.mk hS2.at2
  clear hS2 hp2
  have B3 := Aside0.mk (B2.out.alloc (.cells #[.int .i64 r.1, .int .i64 r.2.1, .int .u32 r.2.2] 80))
  obtain ⟨d0, f0, d1, f1, d2, f2, hS4⟩ := store3 (.int .i64 0) (.int .i64 0) (.int .u32 0) B3.out
  have B4 := Aside0.mk hS4
  clear hS4
  have q0 := (B4.out.cell 0).trans rfl
  have q1 := (B4.out.cell 1).trans rfl
  have q2 := (B4.out.cell 2).trans rfl
  unfold rootV
  go_wp2_with fail
  go_retc4 (.tuple #[.agg #[.int .i64 0, .int .i64 0, .int .u32 0], .slice none 0 0, .slice none 0 0, .int .i64 22])
  exact ⟨rfl, B4.out.tail⟩
set_option maxHeartbeats 3200000 in
set_option maxRecDepth 100000 in
theorem found_ok (h : Sep w0 W (Dsk g las wt :: F)) (hl : las.length = 64 * n) (hn : n ≤ 160) (hw : ∀ i b, wt i = some b → b.length = 64) (hb : ∀ j, Bytes (secF n las wt j)) (a b ep : Int) (hbest : bestTo n (secF n las wt) 2 = (a, b, ep)) (he0 : 0 < ep) (he1 : ep < 4294967295)
    (hlb : Bytes (logF n las wt a b ep)) (hp0 : (pagesF n las wt a b ep).length ≤ 64) (hp1 : ∀ p ∈ pagesF n las wt a b ep, p.length ≤ 1000000) (hrl : (recR n las wt a b ep).1.length ≤ 1000) (hrx : ∀ x ∈ (recR n las wt a b ep).1, x.length ≤ 64) :
    Calls Tryz.prog 62 #[.pointer (some ⟨g, 0, none⟩)] W fun e w' => ∃ v v2, e = .returned (.tuple #[.agg #[.int .i64 a, .int .i64 b, .int .u32 ep], v, v2, .int .i64 0]) ∧ Sep w0 w' (RowV KP 24 v (pgAll (pagesF n las wt a b ep) (recR n las wt a b ep).1) :: Row I64 3 v2 (sortK (nmAll [] (recR n las wt a b ep).1)) :: Dsk g las wt :: F) := by
  have A0 := Aside0.mk (h.newBlk 80 #[.int .i64 0, .int .i64 0, .int .u32 0])
  have HL := Aside0.mk (And.intro hl (And.intro hn (And.intro hw hb)))
  have HP := Aside0.mk (And.intro hlb (And.intro hp0 (And.intro hp1 (And.intro hrl hrx))))
  have HR := Aside0.mk hbest
  have hd0 : decide (0 < ep) = true := decide_eq_true he0
  have hee : (ep == 4294967295) = false := by simp; omega
  have hee2 : ¬ ep = 4294967295 := by omega
  obtain ⟨p2, hp2⟩ : ∃ p, W.heap.size = p := ⟨_, rfl⟩
  rw [hp2] at A0
  clear h hl hn hw hb hbest hlb hp0 hp1 hrl hrx he0 he1
  go_enter Tryz.func62, Tryz.ntmps62
  go_wp2_with fail
  refine (best_ A0.out.at2 HL.out.1 HL.out.2.1 HL.out.2.2.1 HL.out.2.2.2).mono ?_
  rintro e w2 ⟨rfl, hS2⟩
  rw [HR.out]
  have B2 := Aside0.mk hS2
  clear hS2 hp2
  obtain ⟨p6, hp6⟩ : ∃ p, w2.heap.size = p := ⟨_, rfl⟩
  have B3 := Aside0.mk (B2.out.newBlk 80 #[.int .i64 a, .int .i64 b, .int .u32 ep])
  rw [hp6] at B3
  have z0 := (B3.out.cell 0).trans rfl
  have z1 := (B3.out.cell 1).trans rfl
  have z2 := (B3.out.cell 2).trans rfl
  unfold rootV
  go_wp2_with fail
  refine (pages_ B3.out.at2 HL.out.1 HL.out.2.1 HL.out.2.2.1 a b ep HP.out.1 HP.out.2.1 HP.out.2.2.1 HP.out.2.2.2.1 HP.out.2.2.2.2).mono ?_
  rintro e w4 ⟨v4, m, rfl, hS4⟩
  obtain ⟨pp, hpp⟩ : ∃ p, pgAll (pagesF n las wt a b ep) (recR n las wt a b ep).1 = p := ⟨_, rfl⟩
  obtain ⟨nn, hnn⟩ : ∃ p, nmAll [] (recR n las wt a b ep).1 = p := ⟨_, rfl⟩
  rw [hpp, hnn] at hS4
  have HPP := Aside0.mk hpp
  have HNN := Aside0.mk hnn
  have B4 := Aside0.mk hS4.drew
  clear hS4 hpp hnn z0 z1 z2 hp6
  go_wp2_with fail
  refine start_ (n := 9) (S := fun w' => w'.cell? ⟨p6, 0, none⟩ = some (.int .i64 a) ∧ w'.cell? ⟨p6, 1, none⟩ = some (.int .i64 b) ∧ w'.cell? ⟨p6, 2, none⟩ = some (.int .u32 ep)) (ds := [5]) #[Z,Z,Z,Z,Z,Z,Z,Z,Z] (by kernel_rfl) rfl rfl ⟨(B4.out.at4.cell 0).trans rfl, (B4.out.at4.cell 1).trans rfl, (B4.out.at4.cell 2).trans rfl⟩ (fun hHeld => ?_)
  refine pu_ 1 34 ?_ #[Z,J,Z,Z,Z,Z,Z,Z,Z] rfl rfl ?_ ?_ ?_ ?_
  rotate_left
  · intro w'
    go_simp
    with_reducible rfl
  rotate_left
  · simp only [aP]
    rfl
  refine pu_ 2 35 ?_ #[Z,J,J,Z,Z,Z,Z,Z,Z] rfl rfl ?_ ?_ ?_ ?_
  rotate_left
  · intro w'
    go_simp
    with_reducible rfl
  rotate_left
  · simp only [aP]
    rfl
  refine ta_ 0 33 ?_ #[J,J,J,Z,Z,Z,Z,Z,Z] rfl rfl ?_ hHeld ?_ ?_ ?_
  rotate_left
  · rintro w' ⟨s0, s1, s2⟩
    go_simp
    with_reducible rfl
  rotate_left
  · simp only [aP]
    rfl
  refine one_ (i := 3) (N := some 36) #[J,J,J,J,Z,Z,Z,Z,Z] rfl rfl (by kernel_rfl) (by decide) (fun K hK => ?_)
  refine goes_ Tryz.func93 (by kernel_rfl) rfl #[.map (some m)] (by rfl) rfl rfl (by simp only [List.map_toArray, List.map_cons, List.map_nil]; rfl) ?_
  with_reducible refine (keysB_ m _).mono ?_
  rintro e w5 ⟨rfl, rfl⟩
  refine ⟨_, rfl, ?_⟩
  have B5 := Aside0.mk (B4.out.alloc (.cells #[.map (some m)] 106))
  refine hK.out _ _ ⟨(B5.out.at4.cell 0).trans rfl, (B5.out.at4.cell 1).trans rfl, (B5.out.at4.cell 2).trans rfl⟩ (fun hHeld => ?_)
  clear hK K
  refine norm_ (a' := ?_) ?_ ?_
  rotate_left
  · show Act.put _ (some 36) _ = _
    simp only [aP]
    rfl
  refine one_ (i := 4) (N := some 37) #[J,J,J,J,J,Z,Z,Z,Z] rfl rfl (by kernel_rfl) (by decide) (fun K hK => ?_)
  refine goes_ Tryz.func92 (by kernel_rfl) rfl #[.func (.func 118) #[] #[.pointer (some ⟨w4.drew.heap.size, 0, none⟩)]] (by rfl) rfl rfl (by simp only [List.map_toArray, List.map_cons, List.map_nil]; rfl) ?_
  with_reducible refine (sortedS B4.out.at2).mono ?_
  rintro e w6 ⟨v6, rfl, hS6⟩
  refine ⟨_, rfl, ?_⟩
  have B6 := Aside0.mk (B4.out.lift1 hS6)
  clear hS6
  refine hK.out _ _ ⟨(B6.out.at5.cell 0).trans rfl, (B6.out.at5.cell 1).trans rfl, (B6.out.at5.cell 2).trans rfl⟩ (fun hHeld => ?_)
  clear hK K
  refine norm_ (a' := ?_) ?_ ?_
  rotate_left
  · show Act.put _ (some 37) _ = _
    simp only [aP]
    rfl
  refine last_ (i := 5) (N := none) #[J,J,J,J,J,J,Z,Z,Z] rfl rfl (by kernel_rfl) (by decide) (fun K hK => ?_)
  obtain ⟨d0, f0, d1, f1, d2, f2, hS7⟩ := store3 (.int .i64 a) (.int .i64 b) (.int .u32 ep) (at6 B6.out)
  have B7 := Aside0.mk hS7
  clear hS7
  refine skip_ (w1 := ?_) (by rfl) rfl ?_ ?_
  rotate_left
  · go_simp
    rfl
  refine hK.out _ _ ?_
  clear hK K
  refine pu_ 6 3 ?_ #[J,J,J,J,J,J,J,Z,Z] rfl rfl ?_ ?_ ?_ ?_
  rotate_left
  · intro w'
    go_simp
    with_reducible rfl
  rotate_left
  · simp only [aP]
    rfl
  refine pu_ 7 4 ?_ #[J,J,J,J,J,J,J,J,Z] rfl rfl ?_ ?_ ?_ ?_
  rotate_left
  · intro w'
    go_simp
    with_reducible rfl
  rotate_left
  · simp only [aP]
    rfl
  refine pu_ 8 5 ?_ #[J,J,J,J,J,J,J,J,J] rfl rfl ?_ ?_ ?_ ?_
  rotate_left
  · intro w'
    go_simp
    with_reducible rfl
  rotate_left
  · simp only [aP]
    rfl
  refine done_ (by kernel_rfl) ?_
  have q0 := (B7.out.cell 0).trans rfl
  have q1 := (B7.out.cell 1).trans rfl
  have q2 := (B7.out.cell 2).trans rfl
  go_wp2_with fail
  go_retc4 (.tuple #[.agg #[.int .i64 a, .int .i64 b, .int .u32 ep], v4, v6, .int .i64 0])
  exact ⟨v4, v6, rfl, by rw [HPP.out, HNN.out]; exact B7.out.tail.at3.tail.at4.tail.at2⟩
end
end Go.Proofs.YtjngnigelkgekaaGreat.Store
