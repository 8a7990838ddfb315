/- engramkeep.Changes: changes made of a tape. -/
import Derived.Test.YtkcinjimjehcnaaTape1
import Derived.Test.YtkcinjimjehcnaaRefD4
namespace Go.Proofs.Ytkcinjimjehcnaa.Tape
set_option linter.unusedVariables false
set_option linter.unusedSimpArgs false
open Go.RowKit Go.Proofs.YtkcinjimjehcnaaW.PrintWords Go.Proofs.YtkcinjimjehcnaaW.PrintLast Go.Proofs.YtkcinjimjehcnaaW.PrintMore Go.Proofs.Ytkcinjimjehcnaa.Kit Go.Proofs.Ytkcinjimjehcnaa.Base Go.Proofs.Ytkcinjimjehcnaa.Plain Go.Proofs.Ytkcinjimjehcnaa.Delta
theorem okF_more {a b : Int} (h : a ≤ b) : ∀ {l : List Chg} {last : Int}, okF a last l = true → okF b last l = true
  | [], _, _ => rfl
  | c :: r, last, hk => by
    unfold okF at hk ⊢
    rw [Bool.and_eq_true, decide_eq_true_eq] at hk ⊢
    exact ⟨⟨hk.1.1, by omega, hk.1.2.2⟩, okF_more h hk.2⟩
theorem okF_snoc {a : Int} {x : Chg} (hx : x.1 = a) (hb : x.2.length = 64) : ∀ {l : List Chg} {last : Int}, last < a → okF a last l = true → okF (a + 1) last (l ++ [x]) = true
  | [], last, hl, _ => by
    show (decide _ && true) = true
    rw [Bool.and_true, decide_eq_true_eq]
    omega
  | c :: r, last, hl, hk => by
    rw [List.cons_append]
    unfold okF at hk ⊢
    rw [Bool.and_eq_true, decide_eq_true_eq] at hk ⊢
    exact ⟨⟨hk.1.1, by omega, hk.1.2.2⟩, okF_snoc hx hb (by omega) hk.2⟩
theorem bytes_set {l : List Int} (h : Bytes l) {x : Int} (h0 : 0 ≤ x) (h1 : x ≤ 255) (i : Nat) : Bytes (l.set i x) := by
  intro y hy
  rcases List.mem_or_eq_of_mem_set hy with h2 | rfl
  · exact h y h2
  · exact ⟨h0, h1⟩
/-- What is said of changes that a tape made. -/
def good (m : Nat) (l : List Chg) : Prop := okF (m : Int) (-1) l = true ∧ (∀ c ∈ l, Bytes c.2) ∧ l.length ≤ m
theorem good.more {j : Nat} {l : List Chg} (h : good j l) : good (j + 1) l := ⟨okF_more (by omega) h.1, h.2.1, by have := h.2.2; omega⟩
theorem good.snoc {j : Nat} {l : List Chg} (h : good j l) {bs : List Int} (hb : Bytes bs) (hl : bs.length = 64) : good (j + 1) (l ++ [((j : Int), bs)]) :=
  ⟨by have := okF_snoc (x := ((j : Int), bs)) rfl hl (by omega) h.1; rwa [show ((j + 1 : Nat) : Int) = (j : Int) + 1 by omega], fun c hc => by
    rcases List.mem_append.1 hc with h1 | h1
    · exact h.2.1 c h1
    · obtain rfl := List.mem_singleton.1 h1; exact hb, by rw [List.length_append, List.length_singleton]; have := h.2.2; omega⟩
set_option maxHeartbeats 3200000 in
set_option maxRecDepth 100000 in
theorem changes_ {w0 W : World} {F : List HP} {g : Nat} {A : Option Addr} {n c : Nat} {L : List Int} {p : Int} (ht : I64.C w0 A n L) (hp : 0 ≤ p) (h : Sep w0 W (Tp g A n c p :: F)) (m : Nat) (hm : m ≤ 1000) :
    Calls Try.prog 27 #[.pointer (some ⟨g, 0, none⟩), .int .i64 (m : Int)] W fun e w' => ∃ v l p', e = .returned v ∧ good m l ∧ 0 ≤ p' ∧ Sep w0 w' (Row KC 42 v l :: Tp g A n c p' :: F) := by
  have A0 := Aside0.mk (h.nilRow KC 42)
  have AT := Aside0.mk ht
  have hmk := make_ (m := 64) (by omega)
  rw [show ((64 : Nat) : Int) = 64 from rfl] at hmk
  clear h ht
  go_enter Try.func27, Try.ntmps27
  go_wp2_with fail
  go_loopg [5, 6] m (fun k v s wr => ∃ (j : Nat) (l : List Chg) (p : Int), s = .int .i64 (j : Int) ∧ j + k = m ∧ good j l ∧ 0 ≤ p ∧ Sep w0 wr (Row KC 42 v l :: Tp g A n c p :: F))
  case atStart => exact ⟨0, [], p, rfl, by omega, ⟨rfl, (fun _ h => by cases h), Nat.le_refl _⟩, hp, A0.out⟩
  case round =>
    obtain ⟨j, l, p1, rfl, hjm, hg, hp1, hS⟩ := hrel
    obtain ⟨A3, c3, rfl⟩ := hS.rowV
    obtain ⟨G, rfl⟩ : ∃ G, G = gk := ⟨_, rfl⟩
    have AK := Aside0.mk hjm
    have AG := Aside0.mk (And.intro hg hp1)
    have AS := Aside0.mk hS
    clear hS hg hp1 hp
    by_cases hj : j < m
    · clear hjm
      go_wp2_with fail
      refine (next_ AT.out AG.out.2 AS.out.at2 3).mono ?_
      rintro e w1 ⟨r1, p2, rfl, hr1, hp2, hS1⟩
      have A1 := Aside0.mk hS1
      have AP := Aside0.mk hp2
      clear hS1 hp2 hr1
      by_cases hz : r1 = 0
      · subst hz
        have M0 := Aside0.mk (A1.out.madeRow (enc := Value.int .u8) (h1 := fun _ => rfl) (e := 5) (0 : Int) 64 (by omega))
        go_wp2_with fail
        go_loopg [8] 4 (fun k s wx => ∃ (i : Nat) (bs : List Int) (p : Int), s = .int .i64 (i : Int) ∧ i + k = 4 ∧ bs.length = 64 ∧ Bytes bs ∧ 0 ≤ p ∧ Sep w0 wx (Row U8 5 (.slice (some ⟨w1.heap.size, 0, none⟩) 64 64) bs :: Tp g A n c p :: Row KC 42 (.slice A3 l.length c3) l :: F))
        case atStart => exact ⟨0, _, p2, rfl, by omega, List.length_replicate, fun x hx => by rw [(List.mem_replicate.1 hx).2]; decide, AP.out, M0.out⟩
        case round =>
          obtain ⟨i, bs, p3, rfl, hik, hbl, hbs, hp3, hS3⟩ := hrel
          have AI := Aside0.mk hik
          have A3' := Aside0.mk hS3
          have AB := Aside0.mk (And.intro hbl (And.intro hbs hp3))
          clear hS3 hbl hbs hp3
          by_cases hi : i < 4
          · clear hik
            go_wp2_with fail
            refine (next_ AT.out AB.out.2.2 A3'.out.at2 64).mono ?_
            rintro e w4 ⟨r4, p4, rfl, hr4, hp4, hS4⟩
            have A4 := Aside0.mk hS4
            have AP4 := Aside0.mk hp4
            obtain ⟨R, rfl⟩ := Int.eq_ofNat_of_zero_le hr4.1
            have hR : R < 64 := by have := hr4.2.1 (by decide); omega
            clear hS4 hp4 hr4
            go_wp2_with fail
            refine (next_ AT.out AP4.out A4.out 256).mono ?_
            rintro e w5 ⟨r5, p5, rfl, hr5, hp5, hS5⟩
            have hu0 := hr5.1
            have hu1 := hr5.2.1 (by decide)
            have hwu : IntKind.u8.wrap r5 = r5 := by rw [IntKind.wrap_u8]; omega
            obtain ⟨f1, f2⟩ := hS5.at2.rowCell (0 : Int) R hR
            have A5 := Aside0.mk hS5
            have AP5 := Aside0.mk hp5
            have hR2 : (R : Int) < 64 := by omega
            clear hS5 hp5 hr5
            go_wp2
            go_roundg (gk - 1)
            case measure => have := AI.out; omega
            case rel => exact ⟨i + 1, bs.set R r5, p5, by go_num, by have := AI.out; omega, by rw [List.length_set]; exact AB.out.1, bytes_set AB.out.2.1 hu0 (by omega) R, AP5.out, A5.out.at2.putRow (enc := Value.int .u8) R r5⟩
          · have hi4 : i = 4 := by omega
            subst hi4
            have E5 := Aside0.mk ((A3'.out.elSlice.elPair (a := Kd.int .i64) (x := (j : Int)) (p := [.int .i64 (j : Int)]) (fun _ _ _ => rfl)).at3)
            have hll : l.length ≤ 1000 := by have := AG.out.1.2.2; omega
            clear hik
            go_wp2_with (first | (refine gate_builtin (b := .append) (xs := #[.tmp 29, .tmp 33]) rfl ?_; go_loud (refine E5.out.appendDeep rfl (.tmp 29) (.tmp 33) 43 _ 32 rfl Try.underlying43 infoCh rfl (by decide) (by decide) rfl rfl (by omega) ?_; intro v6 w6 hs6 hS6; have A6 := Aside0.mk hS6; clear hS6)))
            go_roundg (G - 1)
            case measure => have := AK.out; omega
            case rel => exact ⟨j + 1, l ++ [((j : Int), bs)], p3, by go_num, by have := AK.out; omega, AG.out.1.snoc AB.out.2.1 AB.out.1, AB.out.2.2, A6.out⟩
      · go_wp2_with fail
        go_roundg (G - 1)
        case measure => have := AK.out; omega
        case rel => exact ⟨j + 1, l, p2, by go_num, by have := AK.out; omega, AG.out.1.more, AP.out, A1.out.at2⟩
    · have hjm2 : j = m := by omega
      subst hjm2
      clear hjm
      go_wp2_with fail
      go_ret
      exact ⟨_, l, p1, by first | rfl | (simp; done), AG.out.1, AG.out.2, AS.out⟩
end Go.Proofs.Ytkcinjimjehcnaa.Tape
