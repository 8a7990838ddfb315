/- Package delta: changes as bytes; are they right. -/
import Derived.Test.YtkcinjimjehcnaaDelta1
import Derived.Deep.AppendLies
namespace Go.Proofs.Ytkcinjimjehcnaa.Delta
set_option linter.unusedVariables false
set_option linter.unusedSimpArgs false
open Go.RowKit Go.Proofs.YtkcinjimjehcnaaW.PrintWords Go.Proofs.YtkcinjimjehcnaaW.PrintLast Go.Proofs.YtkcinjimjehcnaaW.PrintMore Go.Proofs.Ytkcinjimjehcnaa.Kit Go.Proofs.Ytkcinjimjehcnaa.Base Go.Proofs.Ytkcinjimjehcnaa.Plain
theorem okF_drop {pages last : Int} {l : List Chg} {j : Nat} (h : j < l.length) : okF pages last (l.drop j) = (decide (¬ (l[j]).1 ≤ last ∧ ¬ pages ≤ (l[j]).1 ∧ (l[j]).2.length = 64) && okF pages (l[j]).1 (l.drop (j + 1))) := by
  rw [List.drop_eq_getElem_cons h]; rfl
set_option maxHeartbeats 1600000 in
set_option maxRecDepth 100000 in
theorem right_ {A : Option Addr} {n c : Nat} {l : List Chg} {w : World} (hr : KC.C w A n l) (pages : Int) :
    Calls Try.prog 32 #[.slice A n c, .int .i64 pages] w fun e w' => e = .returned (.bool (rightF l pages)) ∧ Below w.heap.size w w' := by
  obtain rfl : l.length = n := hr.1
  have hm : l.length ≤ 9223372036854775807 := hr.2.1
  have HR := Aside0.mk hr
  clear hr
  by_cases hp : 64 < pages
  · have hf : rightF l pages = false := by unfold rightF; rw [decide_eq_false (by omega)]; rfl
    have HF := Aside0.mk hf
    clear hf
    go_enter Try.func32, Try.ntmps32
    go_wp2_with fail
    go_ret
    exact ⟨by rw [HF.out]; first | rfl | (simp; done), Below.refl _ _⟩
  · have hf : rightF l pages = okF pages (-1) l := by unfold rightF; rw [decide_eq_true (by omega)]; rfl
    have HF := Aside0.mk hf
    clear hf
    go_enter Try.func32, Try.ntmps32
    go_wp2_with fail
    go_loopg [5, 12] l.length (fun m s p wr => ∃ (j : Nat) (last : Int), p = .int .i64 (j : Int) ∧ s = .int .i64 last ∧ j + m = l.length ∧ okF pages (-1) l = okF pages last (l.drop j) ∧ Below w.heap.size w wr)
    case atStart => exact ⟨0, -1, rfl, rfl, by omega, rfl, Below.refl _ _⟩
    case round =>
      obtain ⟨j, last, rfl, rfl, hjm, hok, hB⟩ := hrel
      have AK := Aside0.mk hjm
      have AO := Aside0.mk hok
      have AB := Aside0.mk hB
      by_cases hj : j < l.length
      · obtain ⟨hx, a, B, c2, rfl, e0, e1, e2, e3⟩ := elem2_ (Kd.C_below HR.out hB) hj
        have hdr := okF_drop (pages := pages) (last := last) hj
        have BL := Aside0.mk (((Sep.start w).below hB).newBlk 42 #[.int .i64 (l[j]).1, .slice B (l[j]).2.length c2]).toBelow
        have AD := Aside0.mk hdr
        have hlm : (l[j]).2.length ≤ 9223372036854775807 := e3.2.1
        obtain ⟨pg, hpg⟩ : ∃ pg, (l[j]).1 = pg := ⟨_, rfl⟩
        obtain ⟨bn, hbn⟩ : ∃ bn, (l[j]).2.length = bn := ⟨_, rfl⟩
        rw [hpg] at e0 hdr BL
        rw [hbn] at e1 BL hlm
        have AG := Aside0.mk (And.intro hpg hbn)
        clear hjm hok hB hdr e2 e3 hpg hbn
        by_cases h1 : pg ≤ last
        · have hF : rightF l pages = false := by rw [HF.out, AO.out, AD.out, AG.out.1]; simp [h1]
          have AF := Aside0.mk hF
          clear hF
          go_wp2_with fail
          go_ret
          exact ⟨by rw [AF.out]; first | rfl | (simp; done), BL.out⟩
        · by_cases h2 : pages ≤ pg
          · have hF : rightF l pages = false := by rw [HF.out, AO.out, AD.out, AG.out.1]; simp [h2]
            have AF := Aside0.mk hF
            clear hF
            go_wp2_with fail
            go_ret
            exact ⟨by rw [AF.out]; first | rfl | (simp; done), BL.out⟩
          · by_cases h3 : bn = 64
            · have hok2 : okF pages (-1) l = okF pages pg (l.drop (j + 1)) := by
                rw [AO.out, AD.out, AG.out.1, AG.out.2, decide_eq_true ⟨h1, h2, h3⟩]; rfl
              have AO2 := Aside0.mk hok2
              subst h3
              clear hok2
              go_wp2_with fail
              go_roundg (gk - 1)
              case measure => have := AK.out; omega
              case rel => exact ⟨j + 1, pg, by go_num, rfl, by have := AK.out; omega, AO2.out, BL.out⟩
            · have hF : rightF l pages = false := by rw [HF.out, AO.out, AD.out, AG.out.1, AG.out.2]; simp [h3]
              have AF := Aside0.mk hF
              have h4 : ¬ ((bn : Int) = 64) := by omega
              clear hF
              go_wp2_with fail
              go_ret
              exact ⟨by rw [AF.out]; first | rfl | (simp; done), BL.out⟩
      · have hjn : j = l.length := by omega
        have hT : rightF l pages = true := by rw [HF.out, AO.out, hjn, List.drop_length]; rfl
        have AT := Aside0.mk hT
        clear hT hok hB hjm
        subst hjn
        go_wp2_with fail
        go_ret
        exact ⟨by rw [AT.out]; first | rfl | (simp; done), AB.out⟩
end Go.Proofs.Ytkcinjimjehcnaa.Delta
