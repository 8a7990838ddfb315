/- The document's changes: are they right; how long; as bytes. -/
import Derived.Test.YtkcinjimjehcnaaDeltaRead1
namespace Go.Proofs.Ytkcinjimjehcnaa.Delta
set_option linter.unusedVariables false
set_option linter.unusedSimpArgs false
open Go.RowKit Go.Proofs.YtkcinjimjehcnaaW.PrintWords Go.Proofs.YtkcinjimjehcnaaW.PrintLast Go.Proofs.YtkcinjimjehcnaaW.PrintMore Go.Proofs.Ytkcinjimjehcnaa.Kit Go.Proofs.Ytkcinjimjehcnaa.Base Go.Proofs.Ytkcinjimjehcnaa.Plain
theorem rneed_ (n : Int) (W : World) : Calls Try.prog 25 #[.int .i64 n] W fun e w' => e = .returned (.int .i64 (needF n)) ∧ W = w' := by
  by_cases h0 : n < 0
  · go_enter Try.func25, Try.ntmps25
    go_wp2
    go_ret
    exact ⟨by rw [show needF n = 0 from if_pos (.inl h0)]; first | rfl | (simp; done), rfl⟩
  · by_cases h1 : 64 < n
    · go_enter Try.func25, Try.ntmps25
      go_wp2
      go_ret
      exact ⟨by rw [show needF n = 0 from if_pos (.inr h1)]; first | rfl | (simp; done), rfl⟩
    · have h2 : n ≤ 64 := by omega
      have h3 : 0 ≤ n := by omega
      go_enter Try.func25, Try.ntmps25
      go_wp2
      go_ret
      exact ⟨by rw [show needF n = 18 + n * 66 from if_neg (by omega)]; first | rfl | (simp; done), rfl⟩
set_option maxHeartbeats 3200000 in
set_option maxRecDepth 100000 in
theorem rchanges_ {A : Option Addr} {n c : Nat} {l : List Chg} {w : World} (hr : KC.C w A n l) (pages : Int) :
    Calls Try.prog 40 #[.slice A n c, .int .i64 pages] w fun e w' => e = .returned (.bool (rightF l pages)) ∧ Below w.heap.size w w' := by
  obtain rfl : l.length = n := hr.1
  have hm : l.length ≤ 9223372036854775807 := hr.2.1
  have HR := Aside0.mk hr
  clear hr
  go_enter Try.func40, Try.ntmps40
  go_wp2_with fail
  go_loopg [8] l.length (fun m p wr => ∃ (j : Nat) (last : Int), p = .int .i64 (j : Int) ∧ j + m = l.length ∧ okF pages (-1) l = okF pages last (l.drop j) ∧ Below w.heap.size w wr ∧ (j = 0 ∧ last = -1 ∨ ∃ (i : Nat) (hi : i < l.length), j = i + 1 ∧ last = (l[i]).1 ∧ 0 ≤ last))
  case atStart => exact ⟨0, -1, rfl, by omega, rfl, Below.refl _ _, .inl ⟨rfl, rfl⟩⟩
  case round =>
    obtain ⟨j, last, rfl, hjm, hok, hB, hpr⟩ := hrel
    have AK := Aside0.mk hjm
    have AO := Aside0.mk hok
    have AB := Aside0.mk hB
    by_cases hj : j < l.length
    · obtain ⟨hx, a, B, c2, rfl, e0, e1, e2, e3⟩ := elem2_ HR.out hj
      have hdr := okF_drop (pages := pages) (last := last) hj
      have AD := Aside0.mk hdr
      have hbd : ∀ q, Below w.heap.size w (wr.drewN q) := fun q => pw_below_drewN hB q
      have z0 := fun q => cell_later (hbd q) e0
      have z1 := fun q => cell_later (hbd q) e1
      have hlm : (l[j]).2.length ≤ 9223372036854775807 := e3.2.1
      have AG : Aside0 (∃ (i : Nat) (hi : i < l.length), j = i ∧ (l[j]).1 = (l[i]).1) := ⟨j, hx, rfl, rfl⟩
      obtain ⟨pg, hpg⟩ : ∃ pg, (l[j]).1 = pg := ⟨_, rfl⟩
      obtain ⟨bn, hbn⟩ : ∃ bn, (l[j]).2.length = bn := ⟨_, rfl⟩
      rw [hpg] at z0 hdr
      rw [hbn] at z1 hlm
      have AH := Aside0.mk (And.intro hpg hbn)
      clear hjm hok hB hdr e0 e1 e2 e3 hpg hbn hbd
      have hnl : 0 < l.length := by omega
      have hjl : (j : Int) < (l.length : Int) := by omega
      by_cases h1 : pg < 0
      · have hF : rightF l pages = false := by
          unfold rightF
          rw [AO.out, AD.out, AH.out.1]
          have hll : pg ≤ last := by rcases hpr with ⟨_, h⟩ | ⟨_, _, _, _, h⟩ <;> omega
          simp [hll]
        have AF := Aside0.mk hF
        clear hF hpr
        go_wp2_with fail
        go_quiet (fail)
        go_wp2_with fail
        go_ret
        exact ⟨by rw [AF.out]; first | rfl | (simp; done), pw_below_drewN AB.out _⟩
      · have hd1 : decide (pg < 0) = false := decide_eq_false h1
        by_cases h2 : pages ≤ pg
        · have hF : rightF l pages = false := by
            unfold rightF
            rw [AO.out, AD.out, AH.out.1, AH.out.2]
            simp [h2]
          have AF := Aside0.mk hF
          clear hF
          clear hpr
          go_wp2_with fail
          go_quiet (fail)
          go_wp2_with fail
          go_ret
          exact ⟨by rw [AF.out]; first | rfl | (simp; done), pw_below_drewN AB.out _⟩
        · have hd2 : decide (pages ≤ pg) = false := decide_eq_false h2
          rcases hpr with ⟨rfl, rfl⟩ | ⟨i, hi, rfl, hlast, hl0⟩
          all_goals try simp only [Nat.zero_mul, show ∀ x : Addr, x.add 0 = x from fun x => by simp [Addr.add]] at z0 z1
          · by_cases h3 : bn = 64
            · have hok2 : okF pages (-1) l = okF pages pg (l.drop (0 + 1)) := by
                rw [AO.out, AD.out, AH.out.1, AH.out.2, decide_eq_true ⟨by omega, h2, h3⟩]; rfl
              have AO2 := Aside0.mk hok2
              subst h3
              clear hok2
              go_wp2_with fail
              go_quiet (fail)
              go_wp2_with fail
              go_roundg (gk - 1)
              case measure => have := AK.out; omega
              case rel => exact ⟨0 + 1, pg, by go_num, by have := AK.out; omega, AO2.out, pw_below_drewN AB.out _, .inr ⟨0, hx, rfl, AH.out.1.symm, by omega⟩⟩
            · have h4 : ((bn : Int) == 64) = false := by simp; omega
              have h5 : ((bn : Int) != 64) = true := by simp; omega
              have hF : rightF l pages = false := by
                unfold rightF
                rw [AO.out, AD.out, AH.out.1, AH.out.2]
                simp [h3]
              have AF := Aside0.mk hF
              clear hF
              go_wp2_with fail
              go_quiet (fail)
              go_wp2_with fail
              go_ret
              exact ⟨by rw [AF.out]; first | rfl | (simp; done), pw_below_drewN AB.out _⟩
          · obtain ⟨hxi, ai, Bi, ci, hai, f0, f1, f2, f3⟩ := elem2_ HR.out hi
            cases hai
            have y0 := fun q => cell_later (pw_below_drewN AB.out q) f0
            obtain ⟨pv, hpv⟩ : ∃ pv, (l[i]).1 = pv := ⟨_, rfl⟩
            rw [hpv] at y0 hlast
            subst hlast
            have APV := Aside0.mk hpv
            clear f0 f1 f2 f3 hpv
            have hi1 : (i : Int) < (l.length : Int) := by omega
            by_cases h4 : pg ≤ last
            · have hF : rightF l pages = false := by
                unfold rightF
                rw [AO.out, AD.out, AH.out.1, AH.out.2]
                simp [h4]
              have AF := Aside0.mk hF
              clear hF
              go_wp2_with fail
              go_quiet (fail)
              go_wp2_with fail
              go_ret
              exact ⟨by rw [AF.out]; first | rfl | (simp; done), pw_below_drewN AB.out _⟩
            · have hd4 : decide (pg ≤ last) = false := decide_eq_false h4
              by_cases h3 : bn = 64
              · have hok2 : okF pages (-1) l = okF pages pg (l.drop (i + 1 + 1)) := by
                  rw [AO.out, AD.out, AH.out.1, AH.out.2, decide_eq_true ⟨h4, h2, h3⟩]; rfl
                have AO2 := Aside0.mk hok2
                subst h3
                clear hok2
                go_wp2_with fail
                go_quiet (fail)
                go_wp2_with fail
                go_roundg (gk - 1)
                case measure => have := AK.out; omega
                case rel => exact ⟨i + 1 + 1, pg, by go_num, by have := AK.out; omega, AO2.out, pw_below_drewN AB.out _, .inr ⟨i + 1, hx, rfl, AH.out.1.symm, by omega⟩⟩
              · have h6 : ((bn : Int) == 64) = false := by simp; omega
                have h5 : ((bn : Int) != 64) = true := by simp; omega
                have hF : rightF l pages = false := by
                  unfold rightF
                  rw [AO.out, AD.out, AH.out.1, AH.out.2]
                  simp [h3]
                have AF := Aside0.mk hF
                clear hF
                go_wp2_with fail
                go_quiet (fail)
                go_wp2_with fail
                go_ret
                exact ⟨by rw [AF.out]; first | rfl | (simp; done), pw_below_drewN AB.out _⟩
    · have hjn : j = l.length := by omega
      have hT : rightF l pages = decide (pages ≤ 64) := by unfold rightF; rw [AO.out, hjn, List.drop_length]; simp [okF]
      have AT := Aside0.mk hT
      clear hT hok hB hjm hpr
      subst hjn
      go_wp2_with fail
      go_ret
      exact ⟨by rw [AT.out]; first | rfl | (simp; done), AB.out⟩
end Go.Proofs.Ytkcinjimjehcnaa.Delta
