/- Bytes, Delta1, StApply, Disk1, Disk2, Copy, Secs, Disk3, Disk4: what HealTwice needs. -/
import Derived.Test.YtjngnigelkgekaaGreatThealTwice3
import Derived.Deep.RegionWith
import Derived.Deep.LoopGhost
import Derived.Test.YtjngnigelkgekaaGreatProg
import Derived.WalkKit
import Derived.KernelRfl
import Derived.WalkSpells
import Derived.Deep.QuietTactic
import Derived.BigQuiet
import Derived.Carry
import Derived.Laws.IdiomCopy
set_option linter.unusedVariables false
set_option linter.unusedSimpArgs false
namespace Go.Proofs.YtjngnigelkgekaaGreat.Plain
open Go Go.RowKit Go.Proofs.YtjngnigelkgekaaGreatW.PrintWords Go.Proofs.YtjngnigelkgekaaGreatW.PrintLast Go.Proofs.YtjngnigelkgekaaGreatW.PrintMore

def Bytes (l : List Int) : Prop := ∀ x ∈ l, 0 ≤ x ∧ x ≤ 255
theorem Bytes.app {a b : List Int} (h : Bytes a) (k : Bytes b) : Bytes (a ++ b) := fun x hx => by
  rcases List.mem_append.mp hx with h1 | h1
  · exact h x h1
  · exact k x h1
theorem Bytes.nil : Bytes [] := fun x hx => by cases hx
theorem Bytes.take {l : List Int} (h : Bytes l) (n : Nat) : Bytes (l.take n) := fun x hx => h x (List.mem_of_mem_take hx)
theorem Bytes.drop {l : List Int} (h : Bytes l) (n : Nat) : Bytes (l.drop n) := fun x hx => h x (List.mem_of_mem_drop hx)
theorem Bytes.at {l : List Int} (h : Bytes l) (i : Int) : 0 ≤ rd l i ∧ rd l i ≤ 255 := by
  by_cases hi : i.toNat < l.length
  · unfold rd
    rw [List.getD_eq_getElem?_getD, List.getElem?_eq_getElem hi]
    exact h _ (List.getElem_mem _)
  · unfold rd
    rw [List.getD_eq_getElem?_getD, List.getElem?_eq_none (by omega)]
    decide
def stepF (h b : Int) : Int := (Go.bits .xor .u32 h (b % 4294967296) * 16777619) % 4294967296
def sumF (l : List Int) : Int := l.foldl stepF 2166136261
def put4 (n : Int) : List Int := [n / 16777216 % 256, n / 65536 % 256, n / 256 % 256, n % 256]
theorem put4_length (n : Int) : (put4 n).length = 4 := rfl
theorem put4_bytes (n : Int) : Bytes (put4 n) := fun x hx => by
  simp only [put4, List.mem_cons, List.not_mem_nil, or_false] at hx
  omega
def getF (l : List Int) (a : Int) : Int := if a < 0 ∨ (l.length : Int) - 4 < a then 0 else ((rd l a * 256 + rd l (a + 1)) * 256 + rd l (a + 2)) * 256 + rd l (a + 3)
theorem u32_mod (n : Int) : IntKind.u32.wrap n = n % 4294967296 := IntKind.wrap_u32 n
theorem wraps_u32 (n : Int) (h₀ : 0 ≤ n) (h₁ : n < 2 ^ 32) : IntKind.u32.wrap n = n := by rw [IntKind.wrap_u32]; omega
theorem or32 {i : Nat} {x y : Int} (hx₀ : 0 ≤ x) (hx : x % 2 ^ i = 0) (hx₁ : x < 4294967296) (hy₀ : 0 ≤ y) (hy : y < 2 ^ i) (hy₁ : y < 4294967296) : Go.bits .or .u32 x y = x + y :=
  bits_join .u32 32 (by decide) wraps_u32 i x y hx₀ hx (by simpa using hx₁) hy₀ hy (by simpa using hy₁)
theorem shift_in {x c : Int} (h0 : 0 ≤ x) (h1 : x < 16777216) (c0 : 0 ≤ c) (c1 : c ≤ 255) : Go.bits .or .u32 ((x * 256) % 4294967296) (c % 4294967296) = x * 256 + c := by
  have e1 : (x * 256) % 4294967296 = x * 256 := by omega
  have e2 : c % 4294967296 = c := by omega
  rw [e1, e2]
  exact or32 (i := 8) (by omega) (by omega) (by omega) c0 (by omega) (by omega)
theorem four_or {a b c d : Int} (a0 : 0 ≤ a) (a1 : a ≤ 255) (b0 : 0 ≤ b) (b1 : b ≤ 255) (c0 : 0 ≤ c) (c1 : c ≤ 255) (d0 : 0 ≤ d) (d1 : d ≤ 255) :
    Go.bits .or .u32 (Go.bits .or .u32 (Go.bits .or .u32 (((a % 4294967296) * 16777216) % 4294967296) (((b % 4294967296) * 65536) % 4294967296)) (((c % 4294967296) * 256) % 4294967296)) (d % 4294967296) = ((a * 256 + b) * 256 + c) * 256 + d := by
  have e1 : ((a % 4294967296) * 16777216) % 4294967296 = a * 16777216 := by omega
  have e2 : ((b % 4294967296) * 65536) % 4294967296 = b * 65536 := by omega
  have e3 : ((c % 4294967296) * 256) % 4294967296 = c * 256 := by omega
  have e4 : d % 4294967296 = d := by omega
  rw [e1, e2, e3, e4, or32 (i := 24) (x := a * 16777216) (y := b * 65536) (by omega) (by omega) (by omega) (by omega) (by omega) (by omega),
    or32 (i := 16) (x := a * 16777216 + b * 65536) (y := c * 256) (by omega) (by omega) (by omega) (by omega) (by omega) (by omega),
    or32 (i := 8) (x := a * 16777216 + b * 65536 + c * 256) (y := d) (by omega) (by omega) (by omega) (by omega) (by omega) (by omega)]
  omega
theorem shr32 (n : Int) (j : Nat) (hj : j ≤ 32) : shr .u32 n (j : Int) = n / 2 ^ j := by
  unfold shr
  rw [show min ((j : Int).toNat) IntKind.u32.bits = j from by simp [IntKind.bits]; omega]
end Go.Proofs.YtjngnigelkgekaaGreat.Plain
namespace Go.Proofs.YtjngnigelkgekaaGreat.Delta
open Go.RowKit Go.Proofs.YtjngnigelkgekaaGreatW.PrintWords Go.Proofs.YtjngnigelkgekaaGreatW.PrintLast Go.Proofs.YtjngnigelkgekaaGreatW.PrintMore Go.Proofs.YtjngnigelkgekaaGreat.Kit Go.Proofs.YtjngnigelkgekaaGreat.Base Go.Proofs.YtjngnigelkgekaaGreat.Plain
abbrev Chg := Int × List Int
abbrev KC : Kd Chg := Kd.pair (Kd.int .i64) (Kd.slice 5 (Kd.int .u8))
def two (n : Int) : List Int := [n / 256 % 256, n % 256]
def oneF (c : Chg) : List Int := two c.1 ++ c.2
def deltaF (l : List Chg) : List Int := two (l.length : Int) ++ l.flatMap oneF
def okF (pages : Int) : Int → List Chg → Bool
  | _, [] => true
  | last, c :: r => decide (¬ c.1 ≤ last ∧ ¬ pages ≤ c.1 ∧ c.2.length = 64) && okF pages c.1 r
def rightF (l : List Chg) (pages : Int) : Bool := decide (pages ≤ 64) && okF pages (-1) l
def needF (n : Int) : Int := if n < 0 ∨ 64 < n then 0 else 18 + n * 66
theorem flat_snoc (l : List Chg) (c : Chg) : (l ++ [c]).flatMap oneF = l.flatMap oneF ++ (two c.1 ++ c.2) := by rw [List.flatMap_append]; simp [oneF]
theorem flat_take_le (l : List Chg) (j : Nat) : ((l.take j).flatMap oneF).length ≤ (l.flatMap oneF).length := by
  conv => rhs; rw [← List.take_append_drop j l, List.flatMap_append, List.length_append]
  omega
theorem take_get {α : Type} {l : List α} {j : Nat} (h : j < l.length) : l.take (j + 1) = l.take j ++ [l[j]] := by
  rw [List.take_add_one, List.getElem?_eq_getElem h]; rfl
section
variable {w0 W : World} {F : List HP}
set_option maxHeartbeats 400000 in
theorem small_ {v : Value} {xs : List Int} (h : Sep w0 W (Row U8 5 v xs :: F)) (n : Int) (hl : xs.length ≤ 1000000) :
    Calls Tryz.prog 106 #[v, .int .i64 n] W fun e w' => ∃ v', e = .returned v' ∧ Sep w0 w' (Row U8 5 v' (xs ++ two n) :: F) := by
  obtain ⟨A, c, rfl⟩ := h.rowV
  have L0 := Aside0.mk (h.litRow (enc := Value.int .u8) (h1 := fun _ => rfl) (e := 5) (two n) (by simp [two])).at2
  clear h
  go_enter Tryz.func106, Tryz.ntmps106
  go_wp2_with (first | (refine gate_builtin (b := .append) (xs := #[.tmp 5, .tmp 11]) rfl ?_; go_loud (refine L0.out.appendRow rfl (.tmp 5) (.tmp 11) 24 (.int .u8 0) 1 rfl Tryz.underlying24 infoB rfl (by decide) (some ⟨W.heap.size, 0, none⟩) 2 2 rfl rfl L0.out.at2.rowC.2.2 (by simp [two]; omega) ?_; intro v1 w1 hS1; have A1 := Aside0.mk hS1; clear hS1)))
  go_ret
  exact ⟨_, by first | rfl | (simp; done), A1.out.drop2⟩
theorem need_ (n : Int) (W : World) : Calls Tryz.prog 104 #[.int .i64 n] W fun e w' => e = .returned (.int .i64 (needF n)) ∧ W = w' := by
  by_cases h0 : n < 0
  · go_enter Tryz.func104, Tryz.ntmps104
    go_wp2
    go_ret
    exact ⟨by rw [show needF n = 0 from if_pos (.inl h0)]; first | rfl | (simp; done), rfl⟩
  · by_cases h1 : 64 < n
    · go_enter Tryz.func104, Tryz.ntmps104
      go_wp2
      go_ret
      exact ⟨by rw [show needF n = 0 from if_pos (.inr h1)]; first | rfl | (simp; done), rfl⟩
    · have h2 : n ≤ 64 := by omega
      have h3 : 0 ≤ n := by omega
      go_enter Tryz.func104, Tryz.ntmps104
      go_wp2
      go_ret
      exact ⟨by rw [show needF n = 18 + n * 66 from if_neg (by omega)]; first | rfl | (simp; done), rfl⟩
end
end Go.Proofs.YtjngnigelkgekaaGreat.Delta
namespace Go.Proofs.YtjngnigelkgekaaGreat.Store
open Go.RowKit Go.Proofs.YtjngnigelkgekaaGreatW.PrintWords Go.Proofs.YtjngnigelkgekaaGreatW.PrintLast Go.Proofs.YtjngnigelkgekaaGreatW.PrintMore Go.Proofs.YtjngnigelkgekaaGreat.Kit Go.Proofs.YtjngnigelkgekaaGreat.Base Go.Proofs.YtjngnigelkgekaaGreat.Plain
open Go.Proofs.YtjngnigelkgekaaGreat.Delta (Chg KC)
abbrev KP : Kd (List Int) := Kd.slice 5 (Kd.int .u8)
theorem infoS : (Tryz.prog.info? 24).map (fun i => (i.zero, i.size, i.bytes)) = some (some (.slice none 0 0), 1, 24) := by kernel_rfl
def applyOne (ps : List (List Int)) (c : Chg) : List (List Int) := if 0 ≤ c.1 ∧ c.1 < (ps.length : Int) then ps.set c.1.toNat c.2 else ps
def applyF (ps : List (List Int)) (l : List Chg) : List (List Int) := l.foldl applyOne ps
theorem applyOne_len (ps : List (List Int)) (c : Chg) : (applyOne ps c).length = ps.length := by unfold applyOne; split <;> simp
theorem applyF_len (l : List Chg) : ∀ ps : List (List Int), (applyF ps l).length = ps.length := by
  induction l with
  | nil => intro ps; rfl
  | cons c r ih => intro ps; exact (ih _).trans (applyOne_len ps c)
theorem applyF_snoc (ps : List (List Int)) (l : List Chg) (c : Chg) : applyF ps (l ++ [c]) = applyOne (applyF ps l) c := by unfold applyF; rw [List.foldl_append]; rfl
theorem take_one {α : Type} {l : List α} {j : Nat} (h : j < l.length) : l.take (j + 1) = l.take j ++ [l[j]] := by
  rw [List.take_add_one, List.getElem?_eq_getElem h]; rfl
theorem elemP {W : World} {A : Option Addr} {n : Nat} {xs : List (List Int)} (h : KP.C W A n xs) {i : Nat} (hi : i < n) :
    ∃ (hx : i < xs.length) (a : Addr) (B : Option Addr) (c : Nat), A = some a ∧ W.cell? (a.add i) = some (.slice B (xs[i]).length c) ∧ (xs[i]).length ≤ c ∧ U8.C W B (xs[i]).length xs[i] := by
  obtain ⟨hx, a, cs, e, ⟨B, c, h1, h2, h3⟩, hc0, _⟩ := elem_ h hi
  subst h1
  have := hc0 _ rfl
  rw [show i * KP.sz = i from Nat.mul_one i] at this
  exact ⟨hx, a, B, c, e, this, h2, h3⟩
set_option maxHeartbeats 3200000 in
set_option maxRecDepth 100000 in
theorem apply_ {A A2 : Option Addr} {n c n2 c2 : Nat} {ps : List (List Int)} {l : List Chg} {w : World} (h1 : KP.C w A n ps) (h2 : KC.C w A2 n2 l) (hn : n ≤ 100000) (hp : ∀ p ∈ ps, p.length ≤ 1000000) (hl : ∀ x ∈ l, x.2.length ≤ 1000000) :
    Calls Tryz.prog 63 #[.slice A n c, .slice A2 n2 c2] w fun e w' => ∃ v, e = .returned v ∧ Sep w w' [RowV KP 24 v (applyF ps l)] := by
  obtain rfl : ps.length = n := h1.1
  obtain rfl : l.length = n2 := h2.1
  have hm2 : l.length ≤ 9223372036854775807 := h2.2.1
  have H1 := Aside0.mk h1
  have H2 := Aside0.mk h2
  have HP := Aside0.mk (And.intro hp hl)
  have A0 := Aside0.mk ((Sep.start w).rowV_nil KP 24)
  clear h1 h2 hp hl
  go_enter Tryz.func63, Tryz.ntmps63
  go_wp2_with fail
  go_loopg [5, 12] ps.length (fun m v s wr => ∃ j : Nat, s = .int .i64 (j : Int) ∧ j + m = ps.length ∧ Sep w wr [RowV KP 24 v (ps.take j)])
  case atStart => exact ⟨0, rfl, by omega, A0.out⟩
  case round =>
    obtain ⟨j, rfl, hjm, hS⟩ := hrel
    have AK := Aside0.mk hjm
    by_cases hj : j < ps.length
    · obtain ⟨A3, c3, rfl⟩ := hS.rowVN (n := j) (by rw [List.length_take]; omega)
      obtain ⟨hx, ad, B, cB, rfl, e0, e1, e2⟩ := elemP H1.out hj
      have hbl := HP.out.1 _ (List.getElem_mem hx)
      have htk := take_one hj
      have AS := Aside0.mk hS
      have z0 := cell_later hS.toBelow e0
      have HE := Aside0.mk (And.intro e1 e2)
      have HT := Aside0.mk htk
      obtain ⟨xs, hxs⟩ : ∃ xs, ps[j] = xs := ⟨_, rfl⟩
      rw [hxs] at z0 hbl HE HT
      obtain ⟨bn, hbn⟩ : ∃ bn, xs.length = bn := ⟨_, rfl⟩
      rw [hbn] at z0 hbl HE
      have HBN := Aside0.mk hbn
      have hjl : (j : Int) < (ps.length : Int) := by omega
      clear hS e0 e1 e2 htk hxs hbn hjm
      go_wp2_with fail
      refine (clone_ (l := xs) (Kd.C_below HE.out.2 AS.out.toBelow) HE.out.1 (by omega)).mono ?_
      rintro e w5 ⟨v5, rfl, hS5⟩
      obtain ⟨A5, c5, rfl⟩ := hS5.rowN HBN.out
      have L5 := Aside0.mk ((AS.out.lift1 hS5).clSlice.at2)
      clear hS5
      go_wp2_with (first | (refine gate_builtin (b := .append) (xs := #[.tmp 16, .tmp 19]) rfl ?_; go_loud (refine L5.out.appendV (cl := ⟨.slice A5 bn c5, rfl⟩) rfl (.tmp 16) (.tmp 19) 49 _ 24 rfl Tryz.underlying49 infoS rfl (by decide) rfl rfl (by rw [List.length_take]; omega) ?_; intro v6 w6 hS6; have A6 := Aside0.mk hS6; clear hS6)))
      go_roundg (gk - 1)
      case measure => have := AK.out; omega
      case rel => exact ⟨j + 1, by go_num, by have := AK.out; omega, by rw [HT.out]; exact A6.out⟩
    · have hjn : j = ps.length := by omega
      rw [hjn, List.take_length] at hS
      obtain ⟨A3, c3, rfl⟩ := hS.rowVN (n := ps.length) rfl
      have AS := Aside0.mk hS
      subst hjn
      clear hS hjm AK hj
      go_wp2_with fail
      go_loopg [24] l.length (fun m s wr => ∃ j : Nat, s = .int .i64 (j : Int) ∧ j + m = l.length ∧ Sep w wr [RowV KP 24 (.slice A3 ps.length c3) (applyF ps (l.take j))])
      case atStart => exact ⟨0, rfl, by omega, AS.out⟩
      case round =>
        obtain ⟨j, rfl, hjm, hS⟩ := hrel
        have AK := Aside0.mk hjm
        by_cases hj : j < l.length
        · obtain ⟨hx, ad, B, cB, rfl, e0, e1, e2, e3⟩ := elem2_ H2.out hj
          have hbl := HP.out.2 _ (List.getElem_mem hx)
          have HT : Aside0 (applyF ps (l.take (j + 1)) = applyOne (applyF ps (l.take j)) l[j]) := ⟨by rw [take_one hj, applyF_snoc]⟩
          have HLN := Aside0.mk (applyF_len (l.take j) ps)
          have z0 := cell_later hS.toBelow e0
          have z1 := cell_later hS.toBelow e1
          have HE := Aside0.mk (And.intro e2 e3)
          obtain ⟨pg, bs, hx2⟩ : ∃ pg bs, l[j] = (pg, bs) := ⟨_, _, rfl⟩
          rw [hx2] at z0 z1 hbl HE HT
          obtain ⟨bn, hbn⟩ : ∃ bn, bs.length = bn := ⟨_, rfl⟩
          replace hbl : bn ≤ 1000000 := by rw [← hbn]; exact hbl
          replace z0 : wr.cell? (ad.add (j * 2)) = some (.int .i64 pg) := z0
          replace z1 : wr.cell? ⟨(ad.add (j * 2)).block, (ad.add (j * 2)).off + 1, none⟩ = some (.slice B bn cB) := by rw [← hbn]; exact z1
          have HE' : Aside0 (bn ≤ cB ∧ U8.C w B bn bs) := ⟨by rw [← hbn]; exact HE.out⟩
          have HBN := Aside0.mk hbn
          obtain ⟨qs, hqs⟩ : ∃ qs, applyF ps (l.take j) = qs := ⟨_, rfl⟩
          rw [hqs] at hS HT HLN
          have AS := Aside0.mk hS
          have BK := Aside0.mk (hS.newBlk 75 #[.int .i64 pg, .slice B bn cB])
          have hjl : (j : Int) < (l.length : Int) := by omega
          have y0 : (wr.alloc (.cells #[.int .i64 pg, .slice B bn cB] 75)).cell? ⟨wr.heap.size, 0, none⟩ = some (.int .i64 pg) := (BK.out.cell 0).trans rfl
          clear hS e0 e1 e2 e3 hx2 hbn hjm HE hqs
          by_cases h1 : 0 ≤ pg
          · have h1' : decide (0 ≤ pg) = true := decide_eq_true h1
            by_cases h2 : pg < (ps.length : Int)
            · have h2' : decide (pg < (ps.length : Int)) = true := decide_eq_true h2
              obtain ⟨p, rfl⟩ := Int.eq_ofNat_of_zero_le h1
              have HO : Aside0 (applyOne qs ((p : Int), bs) = qs.set p bs) := ⟨by unfold applyOne; rw [if_pos ⟨h1, by rw [HLN.out]; exact h2⟩, Int.toNat_natCast]⟩
              obtain ⟨g, rfl⟩ := BK.out.at2.rowVForm (by omega)
              have BD := Aside0.mk BK.out.drew
              have y2 := (BD.out.cell 0).trans rfl
              have y3 := (BD.out.cell 1).trans rfl
              go_wp2_with fail
              refine start_ (n := 8) (S := fun w' => w'.cell? ⟨wr.heap.size, 0, none⟩ = some (.int .i64 (p : Int)) ∧ w'.cell? ⟨wr.heap.size, 1, none⟩ = some (.slice B bn cB)) (ds := [7]) #[Z,Z,Z,Z,Z,Z,Z,Z] (by kernel_rfl) rfl rfl ⟨y2, y3⟩ (fun hHeld => ?_)
              refine pu_ 0 38 ?_ #[J,Z,Z,Z,Z,Z,Z,Z] rfl rfl ?_ ?_ ?_ ?_
              rotate_left
              · intro w'
                go_simp
                with_reducible rfl
              rotate_left
              · simp only [aP]
                rfl
              refine pu_ 1 39 ?_ #[J,J,Z,Z,Z,Z,Z,Z] rfl rfl ?_ ?_ ?_ ?_
              rotate_left
              · intro w'
                go_simp
                with_reducible rfl
              rotate_left
              · simp only [aP]
                rfl
              refine pu_ 3 41 ?_ #[J,J,Z,J,Z,Z,Z,Z] rfl rfl ?_ ?_ ?_ ?_
              rotate_left
              · intro w'
                go_simp
                with_reducible rfl
              rotate_left
              · simp only [aP]
                rfl
              refine ta_ 2 40 ?_ #[J,J,J,J,Z,Z,Z,Z] rfl rfl ?_ hHeld ?_ ?_ ?_
              rotate_left
              · rintro w' ⟨s0, s1⟩
                go_simp
                with_reducible rfl
              rotate_left
              · simp only [aP]
                rfl
              refine ta_ 4 42 ?_ #[J,J,J,J,J,Z,Z,Z] rfl rfl ?_ hHeld ?_ ?_ ?_
              rotate_left
              · rintro w' ⟨s0, s1⟩
                go_simp
                with_reducible rfl
              rotate_left
              · simp only [aP]
                rfl
              refine one_ (i := 5) (N := some 43) #[J,J,J,J,J,J,Z,Z] rfl rfl (by kernel_rfl) (by decide) (fun K hK => ?_)
              refine goes_ Tryz.func60 (by kernel_rfl) rfl #[.slice B bn cB] (by rfl) rfl rfl (by simp only [List.map_toArray, List.map_cons, List.map_nil]; rfl) ?_
              with_reducible refine (clone_ (l := bs) (Kd.C_below HE'.out.2 BD.out.toBelow) HE'.out.1 (by omega)).mono ?_
              rintro e w5 ⟨v5, rfl, hS5⟩
              refine ⟨_, rfl, ?_⟩
              obtain ⟨A5, c5, rfl⟩ := hS5.rowN HBN.out
              have B5 := Aside0.mk ((BD.out.lift1 hS5).clSlice)
              obtain ⟨ux, f5, f6⟩ := B5.out.at3.rowVFrozen (i := p) (by omega)
              clear hS5
              refine hK.out _ _ ⟨(B5.out.at2.cell 0).trans rfl, (B5.out.at2.cell 1).trans rfl⟩ (fun hHeld => ?_)
              clear hK K
              refine norm_ (a' := ?_) ?_ ?_
              rotate_left
              · show Act.put _ (some 43) _ = _
                simp only [aP]
                rfl
              refine pu_ 6 44 ?_ #[J,J,J,J,J,J,J,Z] rfl rfl ?_ ?_ ?_ ?_
              rotate_left
              · intro w'
                go_simp
                with_reducible rfl
              rotate_left
              · simp only [aP]
                rfl
              refine last_ (i := 7) (N := none) #[J,J,J,J,J,J,J,J] rfl rfl (by kernel_rfl) (by decide) (fun K hK => ?_)
              refine skip_ (w1 := ?_) (by rfl) rfl ?_ ?_
              rotate_left
              · go_simp
                rfl
              refine hK.out _ _ ?_
              clear hK K
              refine done_ (by kernel_rfl) ?_
              have B7 := Aside0.mk ((B5.out.at3.perm (List.Perm.refl _)).putV (i := p) (cl := ⟨.slice A5 bn c5, rfl⟩)).drop2
              go_wp2_with fail
              go_roundg (gk - 1)
              case measure => have := AK.out; omega
              case rel => exact ⟨j + 1, by go_num, by have := AK.out; omega, by rw [HT.out, HO.out]; exact B7.out⟩
            · have h2' : decide (pg < (ps.length : Int)) = false := decide_eq_false h2
              have HO : Aside0 (applyOne qs (pg, bs) = qs) := ⟨by unfold applyOne; rw [if_neg (fun h => h2 (by rw [← HLN.out]; exact h.2))]⟩
              go_wp2_with fail
              go_roundg (gk - 1)
              case measure => have := AK.out; omega
              case rel => exact ⟨j + 1, by go_num, by have := AK.out; omega, by rw [HT.out, HO.out]; exact BK.out.tail⟩
          · have h1' : decide (0 ≤ pg) = false := decide_eq_false h1
            have HO : Aside0 (applyOne qs (pg, bs) = qs) := ⟨by unfold applyOne; rw [if_neg (fun h => h1 h.1)]⟩
            go_wp2_with fail
            go_roundg (gk - 1)
            case measure => have := AK.out; omega
            case rel => exact ⟨j + 1, by go_num, by have := AK.out; omega, by rw [HT.out, HO.out]; exact BK.out.tail⟩
        · have hjn : j = l.length := by omega
          rw [hjn, List.take_length] at hS
          have AS := Aside0.mk hS
          subst hjn
          clear hS hjm AK hj
          go_wp2_with fail
          go_ret
          exact ⟨_, by first | rfl | (simp; done), AS.out⟩
end Go.Proofs.YtjngnigelkgekaaGreat.Store
namespace Go.Proofs.YtjngnigelkgekaaGreat.Disk
open Go.RowKit Go.Proofs.YtjngnigelkgekaaGreatW.PrintWords Go.Proofs.YtjngnigelkgekaaGreatW.PrintLast Go.Proofs.YtjngnigelkgekaaGreatW.PrintMore Go.Proofs.YtjngnigelkgekaaGreat.Kit
theorem infoB : (Tryz.prog.info? 5).map (fun i => (i.zero, i.size, i.bytes)) = some (some (.int .u8 0), 1, 1) := by kernel_rfl
abbrev U8 : Kd Int := Kd.int .u8
structure Ent where
  k : Nat
  b : List Int
  A : Option Addr
  c : Nat
  born : Nat
def Ent.en (e : Ent) : En := ⟨(e.k : Int), .slice e.A 64 e.c, e.born⟩
def Ent.rd (e : Ent) : HP := Rd U8 e.A 64 e.b
structure DskOk (las : List Int) (ents : List Ent) (clock : Nat) (wt : Nat → Option (List Int)) : Prop where
  len : ∃ n, las.length = 64 * n ∧ 1 ≤ n ∧ n ≤ 160
  keys : (ents.map (·.k)).Nodup
  borns : (ents.map (·.born)).Nodup
  each : ∀ e ∈ ents, e.born < clock ∧ 64 * e.k < las.length ∧ e.b.length = 64 ∧ 64 ≤ e.c
  wt : ∀ i, wt i = (ents.find? (fun e => e.k == i)).map (·.b)
def Dsk (g : Nat) (las : List Int) (wt : Nat → Option (List Int)) : HP := Ex fun (x : Value × Nat × List Ent × Nat) =>
  Star (Pu (DskOk las x.2.2.1 x.2.2.2 wt) :: Blk g 100 #[x.1, .map (some x.2.1)] :: Row U8 5 x.1 las :: MapB x.2.1 (ens (x.2.2.1.map Ent.en)) x.2.2.2 :: x.2.2.1.map Ent.rd)
section
variable {w0 W : World} {g : Nat} {las : List Int} {wt : Nat → Option (List Int)} {F : List HP}
theorem open_ (h : Sep w0 W (Dsk g las wt :: F)) : ∃ v m ents clock, DskOk las ents clock wt ∧ Sep w0 W (Blk g 100 #[v, .map (some m)] :: Row U8 5 v las :: MapB m (ens (ents.map Ent.en)) clock :: (ents.map Ent.rd ++ F)) := by
  obtain ⟨⟨v, m, ents, clock⟩, h⟩ := h.ex
  obtain ⟨hok, h⟩ := h.star.pu
  exact ⟨v, m, ents, clock, hok, h⟩
theorem shut_ {v : Value} {m : Nat} {ents : List Ent} {clock : Nat} (hok : DskOk las ents clock wt) (h : Sep w0 W (Blk g 100 #[v, .map (some m)] :: Row U8 5 v las :: MapB m (ens (ents.map Ent.en)) clock :: (ents.map Ent.rd ++ F))) : Sep w0 W (Dsk g las wt :: F) := by
  refine Sep.unex (v, m, ents, clock) (Sep.unstar ?_)
  exact Sep.unpu hok h
theorem DskOk.pos {ents : List Ent} {clock : Nat} (h : DskOk las ents clock wt) : 64 ≤ las.length ∧ las.length ≤ 10240 ∧ (las.length / 64) * 64 = las.length := by
  obtain ⟨n, h1, h2, h3⟩ := h.len
  omega
theorem reads_ (h : Sep w0 W (Dsk g las wt :: F)) : ∃ gl c m, W.cell? ⟨g, 0, none⟩ = some (.slice (some ⟨gl, 0, none⟩) las.length c) ∧ W.cell? ⟨g, 1, none⟩ = some (.map (some m)) ∧ las.length ≤ c ∧ U8.C W (some ⟨gl, 0, none⟩) las.length las ∧ 64 ≤ las.length ∧ las.length ≤ 10240 ∧ (las.length / 64) * 64 = las.length := by
  obtain ⟨v, m, ents, clock, hok, h⟩ := open_ h
  obtain ⟨p1, p2, p3⟩ := hok.pos
  obtain ⟨gl, c, rfl⟩ := h.tail.rowForm (by omega)
  have hr := h.tail.rowC
  exact ⟨gl, c, m, by rw [h.cell 0]; rfl, by rw [h.cell 1]; rfl, hr.2.1, hr.2.2, p1, p2, p3⟩
end
def cloneF (l0 : List Int) : Option (List Int) := if l0.length < 140737488355328 then (some l0) else none
set_option maxHeartbeats 8000000 in
set_option maxRecDepth 100000 in
theorem clone0 (A0 : Option Addr) (c0 : Nat) (l0 : List Int) (r : List Int) (w : World) (hr0 : Kd.C (Kd.int .u8) w A0 l0.length l0) (hc0 : l0.length ≤ c0) (h : cloneF l0 = some r) :
    Calls Tryz.prog 60 #[.slice A0 l0.length c0] w fun e w' => ∃ v0_ : Value, e = .returned (v0_) ∧ Kd.R (Kd.int .u8) 5 w' w.heap.size (fun _ => True) v0_ r ∧ Below w.heap.size w w' := by
  have HR0 := Aside0.mk hr0
  have HC0 := Aside0.mk hc0
  clear hr0 hc0
  have HB := Aside0.mk (Below.refl w.heap.size w)
  have hl : l0.length < 140737488355328 ∧ l0 = r := by
    unfold cloneF at h
    split at h
    · exact ⟨by assumption, Option.some.inj h⟩
    · cases h
  obtain ⟨hl, rfl⟩ := hl
  have LMc3 := Aside0.mk hl
  clear h hl
  cases A0 with
  | none =>
    have hl0 : l0 = [] := by
      have := HR0.out
      cases l0 with
      | nil => rfl
      | cons a t => obtain ⟨ad, e, _⟩ := Kd.at_int HR0.out 0 (by decide) (by simp); cases e
    subst hl0
    have heq : ∀ W : World, Sem.run Tryz.prog (binOp .eql 24 (.slice none 0 c0) (.slice none 0 0)) W = .ok (.bool true) W := fun W => Lib.run_eql_slice_nil W 24 5 none _ c0 0 0 Tryz.underlying24
    show Calls Tryz.prog 60 #[.slice none 0 c0] w _
    go_enter Tryz.func60, Tryz.ntmps60
    go_wp2
    go_ret
    exact ⟨_, rfl, Kd.R_nil _ _ _ _ _, HB.out⟩
  | some a0 =>
    have heq : ∀ W : World, Sem.run Tryz.prog (binOp .eql 24 (.slice (some a0) l0.length c0) (.slice none 0 0)) W = .ok (.bool false) W := fun W => Lib.run_eql_slice_nil W 24 5 (some a0) _ c0 0 0 Tryz.underlying24
    go_enter Tryz.func60, Tryz.ntmps60
    go_wp2_with (first | ((with_reducible refine gate_dst (N := 5) rfl ?_); refine Kd.R_lit (Kd.int .u8) _ 5 ?hg (N := 5) ?hd (xs := ([] : List Int)) (inner := []) (ok := fun _ => True) (okp := fun _ => True) ?hr ?hp (fun _ hk => hk) trivial (Below.refl _ _) (Nat.le_refl _) (by simp) ?_; (case hd => rfl); (case hg => rfl); (case hr => first | (go_simp; done) | (go_simp; rfl)); (case hp => exact (Reps.none _ _)); intro v117 w5 ho6 hb hg_ hnew_; clear hg_ hnew_; have n0_ := Aside0.mk (Kd.R_lower ho6 (below_size (by repeat (first | (with_reducible first | exact HB.out | apply below_alloc | apply pw_below_drewN | apply below_drew1) | exact HB.out)))); have n1_ := Aside0.mk (below_step (by repeat (first | (with_reducible first | exact HB.out | apply below_alloc | apply pw_below_drewN | apply below_drew1) | exact HB.out)) hb); clear HB; have HO118 := n0_; have HB := n1_; clear n0_ n1_; clear hb ho6) | ((with_reducible refine gate_builtin (b := .append) (xs := #[.tmp 5, .tmp 6]) rfl ?_); at_builtin; refine Kd.R_append_rows (Kd.int .u8) (w0 := w) w.heap.size rfl (.tmp 5) (.tmp 6) 24 5 (.int .u8 0) 1 rfl Tryz.underlying24 infoB rfl (by decide) (by omega) v117 [] l0 _ _ _ (fun _ => True) (fun _ => False) rfl rfl ?aO ?aR (fun _ _ h => h) (fun _ h => h.elim) ?aF ?aB ?aS ?aL ?_; (case aR => repeat (first | exact (Kd.C_below HR0.out HB.out) | (with_reducible refine Kd.C_alloc ?_ _) | (with_reducible refine Kd.C_drewN ?_ _) | (with_reducible refine Kd.C_drew ?_))); (case aB => exact (by repeat (first | (with_reducible first | exact HB.out | apply below_alloc | apply pw_below_drewN | apply below_drew1) | exact HB.out))); (case aF => exact (fun _ _ => trivial)); (case aO => exact (by (with_reducible repeat (first | apply Kd.R_alloc | apply Kd.R_drewN | apply Kd.R_drew)); exact HO118.out)); (case aS => exact (below_size (by repeat (first | (with_reducible first | exact HB.out | apply below_alloc | apply pw_below_drewN | apply below_drew1) | exact HB.out)))); (case aL => have := LMc3.out; simp only [List.length_nil]; omega); intro v120 w7 ho hb hg hat; rw [List.nil_append] at ho; have n0_ := Aside0.mk (hb); have n1_ := Aside0.mk (ho); clear HB; clear HO118; have HB := n0_; have HO121 := n1_; clear n0_ n1_; clear ho hb hg hat))
    go_ret
    exact ⟨_, by first | rfl | (simp; done) | (simp [*]; done), by (with_reducible repeat (first | apply Kd.R_alloc | apply Kd.R_drewN | apply Kd.R_drew)); exact Kd.R_mono HO121.out (fun _ hk => trivial), by repeat (first | (with_reducible first | exact HB.out | apply below_alloc | apply pw_below_drewN | apply below_drew1) | exact HB.out)⟩
theorem clone_ {A : Option Addr} {n c : Nat} {l : List Int} {w : World} (hr : U8.C w A n l) (hc : n ≤ c) (hl : n < 140737488355328) :
    Calls Tryz.prog 60 #[.slice A n c] w fun e w' => ∃ v, e = .returned v ∧ Sep w w' [Row U8 5 v l] := by
  obtain rfl : l.length = n := hr.1
  refine (clone0 A c l l w hr hc (if_pos hl)).mono ?_
  rintro e w' ⟨v, rfl, hR, hB⟩
  exact ⟨v, rfl, (Sep.start w).newRow hR hB⟩
set_option maxHeartbeats 400000 in
theorem len_ {w0 W : World} {g : Nat} {las : List Int} {wt : Nat → Option (List Int)} {F : List HP} (h : Sep w0 W (Dsk g las wt :: F)) :
    Calls Tryz.prog 65 #[.pointer (some ⟨g, 0, none⟩)] W fun e w' => e = .returned (.int .i64 ((las.length : Int) / 64)) ∧ W = w' := by
  obtain ⟨gl, c, m, h0, h1, h2, h3, h4, h5, h6⟩ := reads_ h
  clear h h1 h3 h6
  go_enter Tryz.func65, Tryz.ntmps65
  go_wp2
  go_ret
  exact ⟨by first | rfl | (simp; done), rfl⟩
theorem ret_slice {g o o' n n' c c' : Nat} (h1 : o = o') (h2 : n = n') (h3 : c = c') : Ending.returned (.slice (some ⟨g, o, none⟩) n c) = Ending.returned (.slice (some ⟨g, o', none⟩) n' c') := by rw [h1, h2, h3]
set_option maxHeartbeats 400000 in
theorem there_ {w0 W : World} {g : Nat} {las : List Int} {wt : Nat → Option (List Int)} {F : List HP} (h : Sep w0 W (Dsk g las wt :: F)) (i : Int) :
    Calls Tryz.prog 101 #[.pointer (some ⟨g, 0, none⟩), .int .i64 i] W fun e w' => e = .returned (.bool (decide (0 ≤ i ∧ i < (las.length : Int) / 64))) ∧ W = w' := by
  by_cases h0 : 0 ≤ i
  all_goals
    go_enter Tryz.func101, Tryz.ntmps101
    go_wp2_with (go_at_call 65; refine (len_ h).mono ?_; rintro e w' ⟨rfl, rfl⟩)
    go_ret
    exact ⟨by simp [h0] <;> omega, rfl⟩
set_option maxHeartbeats 400000 in
theorem sector_ {W : World} {g gl L c i : Nat} (h0 : W.cell? ⟨g, 0, none⟩ = some (.slice (some ⟨gl, 0, none⟩) L c)) (hi : 64 * (i + 1) ≤ L) (hL : L ≤ 10240) (hc : L ≤ c) :
    Calls Tryz.prog 58 #[.pointer (some ⟨g, 0, none⟩), .int .i64 (i : Int)] W fun e w' => e = .returned (.slice (some ⟨gl, 64 * i, none⟩) 64 (c - 64 * i)) ∧ W = w' := by
  go_enter Tryz.func58, Tryz.ntmps58
  go_wp2
  go_ret
  exact ⟨ret_slice (by omega) (by omega) (by omega), rfl⟩
set_option maxHeartbeats 400000 in
theorem image_ {w0 W : World} {g : Nat} {las : List Int} {wt : Nat → Option (List Int)} {F : List HP} (h : Sep w0 W (Dsk g las wt :: F)) :
    Calls Tryz.prog 21 #[.pointer (some ⟨g, 0, none⟩)] W fun e w' => ∃ v, e = .returned v ∧ Sep w0 w' (Row U8 5 v las :: Dsk g las wt :: F) := by
  obtain ⟨gl, c, m, h0, h1, h2, h3, h4, h5, h6⟩ := reads_ h
  have H3 := Aside0.mk h3
  clear h1 h3 h6
  go_enter Tryz.func21, Tryz.ntmps21
  go_wp2_with (go_at_call 60; refine (clone_ H3.out h2 (by omega)).mono ?_; rintro e w' ⟨v, rfl, hS⟩)
  go_ret
  exact ⟨_, by first | rfl | (simp; done), h.lift1 hS⟩
end Go.Proofs.YtjngnigelkgekaaGreat.Disk
namespace Go.Proofs.YtjngnigelkgekaaGreat.Disk
open Go.RowKit Go.Proofs.YtjngnigelkgekaaGreatW.PrintWords Go.Proofs.YtjngnigelkgekaaGreatW.PrintLast Go.Proofs.YtjngnigelkgekaaGreatW.PrintMore Go.Proofs.YtjngnigelkgekaaGreat.Kit
set_option maxHeartbeats 400000 in
theorem of_ok {A : Option Addr} {m c : Nat} {l : List Int} {w : World} (hr : U8.C w A m l) (hc : m ≤ c) {n : Nat} (hn : m = 64 * n) (h1 : 1 ≤ n) (h2 : n ≤ 160) :
    Calls Tryz.prog 20 #[.slice A m c] w fun e w' => ∃ g, e = .returned (.pointer (some ⟨g, 0, none⟩)) ∧ Sep w w' [Dsk g l (fun _ => none)] := by
  obtain rfl : l.length = m := hr.1
  have HR := Aside0.mk hr
  have HC := Aside0.mk hc
  have hok : DskOk l [] 0 (fun _ => none) := ⟨⟨n, hn, h1, h2⟩, List.nodup_nil, List.nodup_nil, fun _ h => absurd h (by simp), fun _ => rfl⟩
  have HOK := Aside0.mk hok
  have b0 : ¬ l = [] := fun e => by rw [e] at hn; simp at hn; omega
  have b1 : ((l.length : Int) == 0) = false := by simp [b0]
  have b2 : l.length ≤ 10240 := by omega
  have b3 : ((l.length : Int) % 64 != 0) = false := by simp; omega
  have b5 : ¬ (10240 < (l.length : Int)) := by omega
  have hmm := @run_makeMap Tryz.prog
  clear hr hc hn h1 h2 hok
  go_enter Tryz.func20, Tryz.ntmps20
  go_wp2_with (go_at_call 60; refine (clone_ HR.out HC.out (by omega)).mono ?_; rintro e w1 ⟨v, rfl, hS⟩; obtain ⟨A1, c1, rfl⟩ := hS.rowV)
  go_ret
  refine ⟨_, by first | rfl | (simp; done), shut_ (v := .slice A1 l.length c1) (m := w1.heap.size) HOK.out ?_⟩
  have h3 := (hS.newMap.newBlk 100 #[.slice A1 l.length c1, .map (some w1.heap.size)]).sw23
  simpa [ens] using h3
set_option maxHeartbeats 400000 in
theorem new_ok {n : Nat} {w : World} (h1 : 1 ≤ n) (h2 : n ≤ 160) :
    Calls Tryz.prog 26 #[.int .i64 (n : Int)] w fun e w' => ∃ g, e = .returned (.pointer (some ⟨g, 0, none⟩)) ∧ Sep w w' [Dsk g (List.replicate (n * 64) 0) (fun _ => none)] := by
  have hmk : ∀ W : World, (Instr.makeSlice 24 (.int .i64 ((n : Int) * 64)) (.int .i64 ((n : Int) * 64))).run Tryz.prog W = .ok (.slice (some ⟨W.heap.size, 0, none⟩) (n * 64) (n * 64)) (W.alloc (.cells (madeCells #[.int .u8 0] (n * 64)) 5)) := by
    intro W
    have := print_make (P := Tryz.prog) 24 5 .u8 1 Tryz.underlying24 infoB (by decide) (n * 64) (by omega) W
    rwa [Int.natCast_mul] at this
  have hS := (Sep.start w).madeRow (h1 := fun _ => rfl) (e := 5) (enc := Value.int .u8) 0 (n * 64) (by omega)
  have HS := Aside0.mk hS
  have h1' : ¬ (n : Int) < 1 := by omega
  have h2' : ¬ 160 < (n : Int) := by omega
  clear hS
  go_enter Tryz.func26, Tryz.ntmps26
  go_wp2_with fail
  refine (of_ok (n := n) (l := List.replicate (n * 64) 0) HS.out.rowRd.rd (Nat.le_refl _) (by omega) h1 h2).mono ?_
  rintro e w1 ⟨g, rfl, hS1⟩
  go_wp2
  go_ret
  exact ⟨g, by first | rfl | (simp; done), ((Sep.start w).alloc _).lift1 hS1⟩
end Go.Proofs.YtjngnigelkgekaaGreat.Disk
namespace Go.Proofs.YtjngnigelkgekaaGreat.Kit
open Go.RowKit Go.Proofs.YtjngnigelkgekaaGreatW.PrintWords Go.Proofs.YtjngnigelkgekaaGreatW.PrintLast Go.Proofs.YtjngnigelkgekaaGreatW.PrintMore
def over {α : Type} (xs : List α) (o : Nat) (ys : List α) : List α := xs.take o ++ ys ++ xs.drop (o + ys.length)
theorem over_nil {α : Type} (xs : List α) (o : Nat) : over xs o [] = xs := by simp [over]
theorem over_len {α : Type} {xs : List α} {o : Nat} {ys : List α} (h : o + ys.length ≤ xs.length) : (over xs o ys).length = xs.length := by
  simp [over]; omega
theorem over_get {α : Type} {xs : List α} {o : Nat} {ys : List α} (h : o + ys.length ≤ xs.length) (j : Nat) : (over xs o ys)[j]? = if o ≤ j ∧ j < o + ys.length then ys[j - o]? else xs[j]? := by
  unfold over
  rw [List.append_assoc]
  by_cases h1 : j < o
  · rw [if_neg (by omega), List.getElem?_append_left (by simp; omega), List.getElem?_take, if_pos h1]
  · rw [List.getElem?_append_right (by simp; omega), List.length_take, Nat.min_eq_left (by omega)]
    by_cases h2 : j < o + ys.length
    · rw [if_pos ⟨by omega, h2⟩, List.getElem?_append_left (by omega)]
    · rw [if_neg (by omega), List.getElem?_append_right (by omega), List.getElem?_drop]
      congr 1; omega
theorem over_cons {α : Type} {xs : List α} {o : Nat} {y : α} {ys : List α} (h : o + (ys.length + 1) ≤ xs.length) : over (xs.set o y) (o + 1) ys = over xs o (y :: ys) := by
  apply List.ext_getElem?
  intro j
  rw [over_get (by simp; omega), over_get (by simp; omega)]
  simp only [List.length_cons]
  by_cases h1 : j = o
  · subst h1
    rw [if_neg (by omega), if_pos (by omega), List.getElem?_set_self (by omega), Nat.sub_self]; rfl
  · rw [List.getElem?_set_ne (by omega)]
    by_cases h2 : o ≤ j ∧ j < o + (ys.length + 1)
    · rw [if_pos (by omega), if_pos h2, show j - o = (j - (o + 1)) + 1 by omega]; rfl
    · rw [if_neg (by omega), if_neg h2]
namespace Sep
variable {w0 W W' : World} {F : List HP}
section
variable {α : Type} {enc : α → Value} {h1 : ∀ x, (enc x).oneCell' = true} {e g n cap : Nat}
theorem putCells : ∀ (ys : List α) (o : Nat) {xs : List α} {W : World}, Sep w0 W (Row (Kd.scalar enc h1) e (.slice (some ⟨g, 0, none⟩) n cap) xs :: F) → o + ys.length ≤ n →
    Sep w0 (W.setCells g o (ys.map enc)) (Row (Kd.scalar enc h1) e (.slice (some ⟨g, 0, none⟩) n cap) (over xs o ys) :: F)
  | [], o, xs, W, h, _ => by rw [over_nil]; exact h
  | y :: ys, o, xs, W, h, hl => by
    have hn : n = xs.length := h.rowC.1
    simp only [List.length_cons] at hl
    have := putCells ys (o + 1) (h.putRow o y) (by omega)
    rwa [over_cons (by omega)] at this
theorem copyRun {P : Program} {t ty : TypeId} {xs ys : List α} {A : Option Addr} {o n' c' m c : Nat} (h : Sep w0 W (Row (Kd.scalar enc h1) e (.slice (some ⟨g, 0, none⟩) n cap) xs :: F)) (ht : P.underlying t = some (.slice e)) (hi : (P.info? e).map (·.size) = some 1)
    (hC : (Kd.scalar enc h1).C W A m ys) (hb : o + n' ≤ n) :
    (Builtin.copy_ #[t, t] ty #[.slice (some ⟨g, o, none⟩) n' c', .slice A m c]).run P W = .ok (.int .i64 ((min m n' : Nat) : Int)) (W.setCells g o ((ys.take n').map enc)) ∧
      Sep w0 (W.setCells g o ((ys.take n').map enc)) (Row (Kd.scalar enc h1) e (.slice (some ⟨g, 0, none⟩) n cap) (over xs o (ys.take n')) :: F) := by
  have hl : ys.length = m := hC.1
  have hlen : (ys.take n').length = min m n' := by rw [List.length_take, hl, Nat.min_comm]
  refine ⟨?_, h.putCells (ys.take n') o (by rw [List.length_take]; omega)⟩
  rcases Nat.eq_zero_or_pos (min m n') with h0 | h0
  · have hy : ys.take n' = [] := List.eq_nil_of_length_eq_zero (by omega)
    rw [hy, h0]
    exact run_copy_none W t t ty e _ _ _ _ _ _ ht hi h0
  · obtain ⟨ad, rfl, hc⟩ := hC.2.2 (by omega)
    have := run_copy_cells (P := P) W t t ty e g o n' c' ad m c ((ys.take n').map enc) ht hi (by rw [List.length_map]; exact hlen) ?_ ?_ ?_ ?_
    · rw [this, List.length_map, hlen]; rfl
    · intro j v hj
      rw [List.getElem?_map, List.getElem?_take] at hj
      split at hj
      · obtain ⟨y, hy, rfl⟩ := Option.map_eq_some_iff.1 hj
        obtain ⟨cs, hsz, hK, hcell⟩ := hc j y hy
        have hK : cs = [enc y] := hK
        subst hK
        have := hcell 0 _ rfl
        simpa [Kd.scalar] using this
      · cases hj
    · intro j hj
      rw [List.length_map, hlen] at hj
      have hx := h.rowC
      have : o + j < xs.length := by omega
      rw [(h.rowCell (xs[o + j]) (o + j) (by omega)).1]; rfl
    · intro j hj
      rw [List.length_map, hlen] at hj
      have hx := h.rowC
      have : o + j < xs.length := by omega
      exact (h.rowCell (xs[o + j]) (o + j) (by omega)).2
    · intro v hv
      obtain ⟨x, _, rfl⟩ := List.mem_map.1 hv
      exact h1 x
section
variable {P : Program} {ops : Array Oper} {rest : List Oper} {op : Oper} {a : Act} {Q : Exit → Act → World → Prop}
theorem copyRow {t : TypeId} {xs ys : List α} {A : Option Addr} {o n' c' m c : Nat} (h : Sep w0 W (Row (Kd.scalar enc h1) e (.slice (some ⟨g, 0, none⟩) n cap) xs :: F)) (hgd : op.guard = none) (d s : Operand)
    (ho : op.op = .call { callee := .builtin .copy, args := #[d, s], argTypes := #[t, t] }) (ht : P.underlying t = some (.slice e)) (hi : (P.info? e).map (·.size) = some 1)
    (hd : a.eval d = .slice (some ⟨g, o, none⟩) n' c') (hs : a.eval s = .slice A m c) (hC : (Kd.scalar enc h1).C W A m ys) (hb : o + n' ≤ n)
    (k : ∀ W', Sep w0 W' (Row (Kd.scalar enc h1) e (.slice (some ⟨g, 0, none⟩) n cap) (over xs o (ys.take n')) :: F) → wpList P ops Q rest (a.put op.dst (.int .i64 ((min m n' : Nat) : Int))) W') : wpList P ops Q (op :: rest) a W := by
  obtain ⟨hr, hS⟩ := h.copyRun (P := P) (ty := op.type) (c' := c') (c := c) ht hi hC hb
  refine wpList_plain hgd fun K hK => ?_
  unfold Oper.wp execOp
  simp only [ho, resolve, invoke, builtin, Sem.run_bind, Sem.run_pure, Result.andThen_ok, List.map_toArray, List.map_cons, List.map_nil, hs, hd, hr]
  exact hK _ _ (k _ hS)
theorem copyStep {Kc : Act → World → Prop} {t : TypeId} {xs ys : List α} {A : Option Addr} {o n' c' m c : Nat} (h : Sep w0 W (Row (Kd.scalar enc h1) e (.slice (some ⟨g, 0, none⟩) n cap) xs :: F)) (hw : Region.wanted op (yielded ops a.tmps) = true) (d s : Operand)
    (ho : op.op = .call { callee := .builtin .copy, args := #[d, s], argTypes := #[t, t] }) (ht : P.underlying t = some (.slice e)) (hi : (P.info? e).map (·.size) = some 1)
    (hd : a.eval d = .slice (some ⟨g, o, none⟩) n' c') (hs : a.eval s = .slice A m c) (hC : (Kd.scalar enc h1).C W A m ys) (hb : o + n' ≤ n)
    (k : ∀ W', Sep w0 W' (Row (Kd.scalar enc h1) e (.slice (some ⟨g, 0, none⟩) n cap) (over xs o (ys.take n')) :: F) → Kc (a.put op.dst (.int .i64 ((min m n' : Nat) : Int))) W') :
    if Region.wanted op (yielded ops a.tmps) = true then Oper.wp P op a W Kc Q else Kc (a.put op.dst undef) W := by
  obtain ⟨hr, hS⟩ := h.copyRun (P := P) (ty := op.type) (c' := c') (c := c) ht hi hC hb
  rw [if_pos hw]
  unfold Oper.wp execOp
  simp only [ho, resolve, invoke, builtin, Sem.run_bind, Sem.run_pure, Result.andThen_ok, List.map_toArray, List.map_cons, List.map_nil, hs, hd, hr]
  exact k _ hS
end
end
end Sep
end Go.Proofs.YtjngnigelkgekaaGreat.Kit
namespace Go.Proofs.YtjngnigelkgekaaGreat.Kit
def sec (l : List Int) (i : Nat) : List Int := (l.drop (64 * i)).take 64
theorem sec_len {l : List Int} {i : Nat} (h : 64 * (i + 1) ≤ l.length) : (sec l i).length = 64 := by
  unfold sec; rw [List.length_take, List.length_drop]; omega
theorem sec_get (l : List Int) (i j : Nat) (hj : j < 64) : (sec l i)[j]? = l[64 * i + j]? := by
  unfold sec; rw [List.getElem?_take, if_pos hj, List.getElem?_drop]
def secs (n : Nat) (f : Nat → List Int) : List Int := (List.range n).flatMap f
theorem secs_succ (n : Nat) (f : Nat → List Int) : secs (n + 1) f = secs n f ++ f n := by
  unfold secs; rw [List.range_succ, List.flatMap_append]; simp
theorem secs_len {f : Nat → List Int} : ∀ {n : Nat}, (∀ i, i < n → (f i).length = 64) → (secs n f).length = 64 * n
  | 0, _ => rfl
  | n + 1, h => by rw [secs_succ, List.length_append, secs_len (fun i hi => h i (by omega)), h n (by omega)]; omega
theorem secs_get {f : Nat → List Int} : ∀ {n : Nat}, (∀ i, i < n → (f i).length = 64) → ∀ p, (secs n f)[p]? = if p < 64 * n then (f (p / 64))[p % 64]? else none
  | 0, _, p => by simp [secs]
  | n + 1, h, p => by
    have hl := secs_len (n := n) (f := f) (fun i hi => h i (by omega))
    rw [secs_succ]
    by_cases h1 : p < 64 * n
    · rw [List.getElem?_append_left (by omega), secs_get (fun i hi => h i (by omega)), if_pos h1, if_pos (by omega)]
    · rw [List.getElem?_append_right (by omega), hl]
      by_cases h2 : p < 64 * (n + 1)
      · rw [if_pos h2, show p / 64 = n by omega, show p - 64 * n = p % 64 by omega]
      · rw [if_neg h2, List.getElem?_eq_none (by have := h n (by omega); omega)]
theorem secs_congr {n : Nat} {f g : Nat → List Int} (h : ∀ i, i < n → f i = g i) : secs n f = secs n g := by
  unfold secs
  rw [List.flatMap_def, List.flatMap_def]
  congr 1
  exact List.map_congr_left (fun i hi => h i (List.mem_range.1 hi))
theorem secs_self {l : List Int} {n : Nat} (h : l.length = 64 * n) : secs n (sec l) = l := by
  apply List.ext_getElem?
  intro p
  rw [secs_get (fun i hi => sec_len (by omega))]
  by_cases hp : p < 64 * n
  · rw [if_pos hp, sec_get _ _ _ (by omega), show 64 * (p / 64) + p % 64 = p by omega]
  · rw [if_neg hp, List.getElem?_eq_none (by omega)]
theorem sec_secs {f : Nat → List Int} {n i : Nat} (h : ∀ i, i < n → (f i).length = 64) (hi : i < n) : sec (secs n f) i = f i := by
  apply List.ext_getElem?
  intro j
  by_cases hj : j < 64
  · rw [sec_get _ _ _ hj, secs_get h, if_pos (by omega), show (64 * i + j) / 64 = i by omega, show (64 * i + j) % 64 = j by omega]
  · rw [List.getElem?_eq_none (by rw [sec_len]; omega; rw [secs_len h]; omega), List.getElem?_eq_none (by rw [h i hi]; omega)]
theorem over_secs {f : Nat → List Int} {n i : Nat} {b : List Int} (h : ∀ i, i < n → (f i).length = 64) (hi : i < n) (hb : b.length ≤ 64) :
    over (secs n f) (64 * i) b = secs n (fun k => if k = i then b ++ (f k).drop b.length else f k) := by
  have hl := secs_len h
  have h' : ∀ k, k < n → ((fun k => if k = i then b ++ (f k).drop b.length else f k) k).length = 64 := fun k hk => by
    have := h k hk
    dsimp only
    split
    · rw [List.length_append, List.length_drop]; omega
    · exact this
  apply List.ext_getElem?
  intro p
  rw [over_get (by omega), secs_get h, secs_get h']
  by_cases hp : p < 64 * n
  · rw [if_pos hp, if_pos hp]
    by_cases hk : p / 64 = i
    · rw [if_pos hk]
      by_cases h1 : p < 64 * i + b.length
      · rw [if_pos (by omega), List.getElem?_append_left (by omega)]; congr 1; omega
      · rw [if_neg (by omega), List.getElem?_append_right (by omega), List.getElem?_drop]; congr 1; omega
    · rw [if_neg hk, if_neg (by omega)]
  · rw [if_neg hp, if_neg hp, if_neg (by omega)]
end Go.Proofs.YtjngnigelkgekaaGreat.Kit
namespace Go.Proofs.YtjngnigelkgekaaGreat.Disk
open Go.RowKit Go.Proofs.YtjngnigelkgekaaGreatW.PrintWords Go.Proofs.YtjngnigelkgekaaGreatW.PrintLast Go.Proofs.YtjngnigelkgekaaGreatW.PrintMore Go.Proofs.YtjngnigelkgekaaGreat.Kit
theorem C_piece {W : World} {g n : Nat} {l : List Int} (h : U8.C W (some ⟨g, 0, none⟩) n l) (o m : Nat) (hm : o + m ≤ n) : U8.C W (some ⟨g, o, none⟩) m ((l.drop o).take m) := by
  have hl := h.1
  have hr := Kd.reads_of_C (d := (0 : Int)) h
  refine Kd.C_of_reads (d := (0 : Int)) ⟨by rw [List.length_take, List.length_drop]; omega, by have := h.2.1; omega, fun h0 => ⟨_, rfl, fun j hj => ?_⟩⟩
  obtain ⟨ad, ha, hc⟩ := hr.2.2 (by omega)
  cases ha
  have := hc (o + j) (by omega)
  rw [add_at, Nat.zero_add] at this
  rw [add_at, this]
  congr 2
  rw [List.getD_eq_getElem?_getD, List.getD_eq_getElem?_getD, List.getElem?_take, if_pos hj, List.getElem?_drop]
theorem find_split {ents : List Ent} {i : Nat} {e : Ent} (h : ents.find? (fun e => e.k == i) = some e) : ∃ pre post, ents = pre ++ e :: post ∧ e.k = i ∧ ∀ x ∈ pre, x.k ≠ i := by
  rw [List.find?_eq_some_iff_append] at h
  obtain ⟨h1, pre, post, h2, h3⟩ := h
  exact ⟨pre, post, h2, by simpa using h1, fun x hx => by have := h3 x hx; simpa using this⟩
theorem find_not {ents : List Ent} {i : Nat} (h : ents.find? (fun e => e.k == i) = none) : ∀ x ∈ ents, x.k ≠ i := by
  rw [List.find?_eq_none] at h
  exact fun x hx => by have := h x hx; simpa using this
theorem zeroS (W : World) : (zeroValue 24).run Tryz.prog W = .ok (.slice none 0 0) W := by kernel_rfl
theorem look_ {w0 W : World} {g m clock : Nat} {ents : List Ent} {las : List Int} {wt : Nat → Option (List Int)} {F : List HP} (hok : DskOk las ents clock wt) (h : Sep w0 W (MapB m (ens (ents.map Ent.en)) clock :: (ents.map Ent.rd ++ F))) (i : Nat) :
    (wt i = none ∧ (Instr.lookup 98 (.map (some m)) (.int .i64 (i : Int)) true).run Tryz.prog W = .ok (.tuple #[.slice none 0 0, .bool false]) W) ∨
    ∃ b A c, wt i = some b ∧ 64 ≤ c ∧ b.length = 64 ∧ U8.C W A 64 b ∧ (Instr.lookup 98 (.map (some m)) (.int .i64 (i : Int)) true).run Tryz.prog W = .ok (.tuple #[.slice A 64 c, .bool true]) W ∧
      (Instr.lookup 98 (.map (some m)) (.int .i64 (i : Int)) false).run Tryz.prog W = .ok (.slice A 64 c) W := by
  have hw := hok.wt i
  cases hf : ents.find? (fun e => e.k == i) with
  | none =>
    rw [hf] at hw
    refine .inl ⟨hw, lookup_none Tryz.underlying98 Tryz.underlying3 zeroS h.map _ (fun e he => ?_)⟩
    obtain ⟨x, hx, rfl⟩ := List.mem_map.1 he
    have := find_not hf x hx
    show (x.k : Int) ≠ i
    omega
  | some e =>
    rw [hf] at hw
    obtain ⟨pre, post, rfl, rfl, hp⟩ := find_split hf
    have he := hok.each e (by simp)
    have hm := h.map
    rw [List.map_append, List.map_cons] at hm
    have hpre : ∀ x ∈ pre.map Ent.en, x.k ≠ e.en.k := fun y hy => by
      obtain ⟨x, hx, rfl⟩ := List.mem_map.1 hy
      have := hp x hx
      show (x.k : Int) ≠ (e.k : Int)
      omega
    have hC : U8.C W e.A 64 e.b := by
      have h2 := h.tail
      rw [List.map_append, List.map_cons, List.append_assoc, List.cons_append] at h2
      exact h2.weak.rd
    exact .inr ⟨e.b, e.A, e.c, hw, he.2.2.2, he.2.2.1, hC, lookup_some (e := e.en) Tryz.underlying98 Tryz.underlying3 hm hpre, lookup1_some (e := e.en) Tryz.underlying98 Tryz.underlying3 hm hpre⟩
set_option maxHeartbeats 400000 in
theorem read_out {w0 W : World} {g : Nat} {las : List Int} {wt : Nat → Option (List Int)} {F : List HP} (h : Sep w0 W (Dsk g las wt :: F)) (i : Int) (hi : ¬ (0 ≤ i ∧ i < (las.length : Int) / 64)) :
    Calls Tryz.prog 108 #[.pointer (some ⟨g, 0, none⟩), .int .i64 i] W fun e w' => e = .returned (.tuple #[.slice none 0 0, .bool false]) ∧ W = w' := by
  have hd : decide (0 ≤ i ∧ i < (las.length : Int) / 64) = false := decide_eq_false hi
  clear hi
  go_enter Tryz.func108, Tryz.ntmps108
  go_wp2_with (go_at_call 101; refine (there_ h i).mono ?_; rintro e w' ⟨rfl, rfl⟩; rw [hd])
  go_ret2
  exact ⟨by first | rfl | (simp; done), rfl⟩
set_option maxHeartbeats 400000 in
theorem read_in {w0 W : World} {g : Nat} {las : List Int} {wt : Nat → Option (List Int)} {F : List HP} (h : Sep w0 W (Dsk g las wt :: F)) (i : Nat) (hi : 64 * (i + 1) ≤ las.length) :
    Calls Tryz.prog 108 #[.pointer (some ⟨g, 0, none⟩), .int .i64 (i : Int)] W fun e w' => ∃ v, e = .returned (.tuple #[v, .bool true]) ∧ Sep w0 w' (Row U8 5 v ((wt i).getD (sec las i)) :: Dsk g las wt :: F) := by
  obtain ⟨v, m, ents, clock, hok, hs⟩ := open_ h
  obtain ⟨p1, p2, p3⟩ := hok.pos
  obtain ⟨gl, c, rfl⟩ := hs.tail.rowForm (by omega)
  have hr := hs.tail.rowC
  have c0 : W.cell? ⟨g, 0, none⟩ = some (.slice (some ⟨gl, 0, none⟩) las.length c) := by rw [hs.cell 0]; rfl
  have c1 : W.cell? ⟨g, 1, none⟩ = some (.map (some m)) := by rw [hs.cell 1]; rfl
  have hd : decide (0 ≤ (i : Int) ∧ (i : Int) < (las.length : Int) / 64) = true := decide_eq_true (by omega)
  have HP3 := Aside0.mk hr
  have HC := Aside0.mk (C_piece hr.2.2 (64 * i) 64 (by omega))
  have hlook := look_ (g := g) hok hs.tail.tail i
  clear p3 hr hok
  rcases hlook with ⟨hn, hl⟩ | ⟨b, A, cb, hn, hcb, hbl, hCb, hl, -⟩
  · have HN := Aside0.mk hn
    clear hn
    go_enter Tryz.func108, Tryz.ntmps108
    go_wp2_with (first | (go_at_call 101; refine (there_ h i).mono ?_; rintro e w' ⟨rfl, rfl⟩; rw [hd]) | (go_at_call 58; refine (sector_ c0 hi p2 HP3.out.2.1).mono ?_; rintro e w' ⟨rfl, rfl⟩) | (go_at_call 60; refine (clone_ HC.out (by have := HP3.out.2.1; omega) (by omega)).mono ?_; rintro e w1 ⟨v, rfl, hS⟩))
    go_ret2
    refine ⟨_, by first | rfl | (simp; done), ?_⟩
    rw [HN.out]
    exact h.lift1 hS
  · have HN := Aside0.mk hn
    have HB := Aside0.mk hbl
    clear hn hbl
    go_enter Tryz.func108, Tryz.ntmps108
    go_wp2_with (first | (go_at_call 101; refine (there_ h i).mono ?_; rintro e w' ⟨rfl, rfl⟩; rw [hd]) | (go_at_call 60; refine (clone_ hCb (by omega) (by omega)).mono ?_; rintro e w1 ⟨v, rfl, hS⟩))
    go_ret2
    refine ⟨_, by first | rfl | (simp; done), ?_⟩
    rw [HN.out]
    exact h.lift1 hS
end Go.Proofs.YtjngnigelkgekaaGreat.Disk
namespace Go.Proofs.YtjngnigelkgekaaGreat.Disk
open Go.RowKit Go.Proofs.YtjngnigelkgekaaGreatW.PrintWords Go.Proofs.YtjngnigelkgekaaGreatW.PrintLast Go.Proofs.YtjngnigelkgekaaGreatW.PrintMore Go.Proofs.YtjngnigelkgekaaGreat.Kit
theorem not_ens {ents : List Ent} {i : Nat} (h : ∀ x ∈ ents, x.k ≠ i) : ∀ e ∈ ents.map Ent.en, e.k ≠ (i : Int) := fun y hy => by
  obtain ⟨x, hx, rfl⟩ := List.mem_map.1 hy
  have := h x hx
  show (x.k : Int) ≠ (i : Int)
  omega
theorem upd_ {w0 W : World} {g m clock c1 : Nat} {A1 : Option Addr} {v : Value} {ents : List Ent} {las b : List Int} {wt : Nat → Option (List Int)} {F : List HP} (hok : DskOk las ents clock wt)
    (h : Sep w0 W (Row U8 5 (.slice A1 64 c1) b :: Blk g 100 #[v, .map (some m)] :: Row U8 5 v las :: MapB m (ens (ents.map Ent.en)) clock :: (ents.map Ent.rd ++ F))) (i : Nat) (hi : 64 * i < las.length) :
    ∃ W', (Instr.mapUpdate 98 (.map (some m)) (.int .i64 (i : Int)) (.slice A1 64 c1)).run Tryz.prog W = .ok () W' ∧ Sep w0 W' (Dsk g las (fun j => if j = i then some b else wt j) :: F) := by
  have hC := h.rowC
  have hb : b.length = 64 := hC.1.symm
  have hm := h.tail.tail.tail.map
  have h1 : Sep w0 W (MapB m (ens (ents.map Ent.en)) clock :: Rd U8 A1 64 b :: Blk g 100 #[v, .map (some m)] :: Row U8 5 v las :: (ents.map Ent.rd ++ F)) := h.rowRd.at4
  cases hf : ents.find? (fun e => e.k == i) with
  | none =>
    have hn := find_not hf
    refine ⟨_, update_new Tryz.underlying98 Tryz.underlying3 hm _ _ (not_ens hn), ?_⟩
    have h2 := h1.setMap (ens (ents.map Ent.en ++ [⟨(i : Int), .slice A1 64 c1, clock⟩])) (clock + 1)
    refine shut_ (v := v) (m := m) (ents := ents ++ [⟨i, b, A1, c1, clock⟩]) (clock := clock + 1) ?_ ?_
    · refine ⟨hok.len, ?_, ?_, ?_, ?_⟩
      · rw [List.map_append, List.nodup_append]
        refine ⟨hok.keys, by simp, fun x hx y hy => ?_⟩
        obtain ⟨e, he, rfl⟩ := List.mem_map.1 hx
        simp at hy; subst hy
        exact hn e he
      · rw [List.map_append, List.nodup_append]
        refine ⟨hok.borns, by simp, fun x hx y hy => ?_⟩
        obtain ⟨e, he, rfl⟩ := List.mem_map.1 hx
        simp at hy; subst hy
        have := (hok.each e he).1; omega
      · intro e he
        rcases List.mem_append.1 he with he | he
        · have := hok.each e he; exact ⟨by omega, this.2⟩
        · simp at he; subst he; exact ⟨by simp, hi, hb, hC.2.1⟩
      · intro j
        rw [List.find?_append]
        by_cases hj : j = i
        · subst hj
          rw [hf]; simp
        · have hne : (i == j) = false := by simp; omega
          simp only [if_neg hj, hok.wt j]
          cases ents.find? (fun e => e.k == j) <;> simp [hne]
    · rw [List.map_append, List.map_append]
      refine h2.to4.to4.perm (.cons _ (.cons _ (.cons _ ?_)))
      rw [List.append_assoc]
      exact List.perm_middle.symm
  | some e =>
    obtain ⟨pre, post, rfl, rfl, hp⟩ := find_split hf
    rw [List.map_append, List.map_cons] at hm
    refine ⟨_, update_old (e := e.en) Tryz.underlying98 Tryz.underlying3 hm _ (not_ens hp), ?_⟩
    have h2 := h1.setMap (ens (pre.map Ent.en ++ ⟨(e.k : Int), .slice A1 64 c1, e.born⟩ :: post.map Ent.en)) clock
    refine shut_ (v := v) (m := m) (ents := pre ++ ⟨e.k, b, A1, c1, e.born⟩ :: post) (clock := clock) ?_ ?_
    · refine ⟨hok.len, ?_, ?_, ?_, ?_⟩
      · have := hok.keys; simpa using this
      · have := hok.borns; simpa using this
      · intro x hx
        rcases List.mem_append.1 hx with hx | hx
        · exact hok.each x (by simp [hx])
        · rcases List.mem_cons.1 hx with rfl | hx
          · exact ⟨(hok.each e (by simp)).1, hi, hb, hC.2.1⟩
          · exact hok.each x (by simp [hx])
      · intro j
        rw [List.find?_append, List.find?_cons]
        have hw := hok.wt j
        rw [List.find?_append, List.find?_cons] at hw
        by_cases hj : j = e.k
        · subst hj
          have : pre.find? (fun x => x.k == e.k) = none := by
            rw [List.find?_eq_none]; intro x hx; simpa using hp x hx
          rw [this]; simp
        · have hne : (e.k == j) = false := by simp; omega
          simp only [if_neg hj, hw, hne]
    · rw [List.map_append, List.map_cons, List.map_append, List.map_cons]
      rw [List.map_append, List.map_cons] at h2
      refine Sep.tail (p := e.rd) (h2.to4.to4.perm ?_)
      rw [List.append_assoc, List.append_assoc, List.cons_append, List.cons_append]
      refine ((List.Perm.cons _ (.cons _ (.cons _ ?_))).trans (List.perm_middle (l₁ := [_, _, _])))
      exact (List.Perm.cons _ List.perm_middle).trans ((List.Perm.swap _ _ _).trans (.cons _ List.perm_middle.symm))
theorem write_out {w0 W : World} {g : Nat} {las : List Int} {wt : Nat → Option (List Int)} {F : List HP} (h : Sep w0 W (Dsk g las wt :: F)) (i : Int) {A : Option Addr} {n c : Nat} (hm : n ≤ 9223372036854775807) (hi : ¬ (0 ≤ i ∧ i < (las.length : Int) / 64) ∨ n ≠ 64) :
    Calls Tryz.prog 66 #[.pointer (some ⟨g, 0, none⟩), .int .i64 i, .slice A n c] W fun e w' => e = .returned (.bool false) ∧ W = w' := by
  by_cases h1 : 0 ≤ i ∧ i < (las.length : Int) / 64
  · have hd : decide (0 ≤ i ∧ i < (las.length : Int) / 64) = true := decide_eq_true h1
    have hn : ((n : Int) != 64) = true := by have := hi.resolve_left (fun h => h h1); simp; omega
    clear hi h1
    go_enter Tryz.func66, Tryz.ntmps66
    go_wp2_with (go_at_call 101; refine (there_ h i).mono ?_; rintro e w' ⟨rfl, rfl⟩; rw [hd])
    go_ret
    exact ⟨by first | rfl | (simp; done), rfl⟩
  · have hd : decide (0 ≤ i ∧ i < (las.length : Int) / 64) = false := decide_eq_false h1
    clear hi h1
    go_enter Tryz.func66, Tryz.ntmps66
    go_wp2_with (go_at_call 101; refine (there_ h i).mono ?_; rintro e w' ⟨rfl, rfl⟩; rw [hd])
    go_ret
    exact ⟨by first | rfl | (simp; done), rfl⟩
set_option maxHeartbeats 400000 in
set_option maxRecDepth 100000 in
theorem write_in {w0 W : World} {g : Nat} {las : List Int} {wt : Nat → Option (List Int)} {F : List HP} (h : Sep w0 W (Dsk g las wt :: F)) (i : Nat) (hi : 64 * (i + 1) ≤ las.length) {A : Option Addr} {c : Nat} {b : List Int} (hb : U8.C W A 64 b) (hc : 64 ≤ c) :
    Calls Tryz.prog 66 #[.pointer (some ⟨g, 0, none⟩), .int .i64 (i : Int), .slice A 64 c] W fun e w' => e = .returned (.bool true) ∧ Sep w0 w' (Dsk g las (fun j => if j = i then some b else wt j) :: F) := by
  obtain ⟨v, m, ents, clock, hok, hs⟩ := open_ h
  obtain ⟨p1, p2, p3⟩ := hok.pos
  have hd : decide (0 ≤ (i : Int) ∧ (i : Int) < (las.length : Int) / 64) = true := decide_eq_true (by omega)
  have HI := Aside0.mk hi
  have HB := Aside0.mk hb
  have HOK := Aside0.mk hok
  have hbl : b.length = 64 := hb.1
  have HBL := Aside0.mk hbl
  clear p3 hok hb hi hbl
  go_enter Tryz.func66, Tryz.ntmps66
  go_wp2_with (go_at_call 101; refine (there_ h i).mono ?_; rintro e w' ⟨rfl, rfl⟩; rw [hd])
  refine start_ (n := 8) (S := fun w' => w'.cell? ⟨g, 1, none⟩ = some (.map (some m))) (ds := [7]) #[Z,Z,Z,Z,Z,Z,Z,Z] (by kernel_rfl) rfl rfl (by rw [hs.drew.cell 1]; rfl) (fun hHeld => ?_)
  refine pu_ 0 16 ?_ #[J,Z,Z,Z,Z,Z,Z,Z] rfl rfl ?_ ?_ ?_ ?_
  rotate_left
  · intro w'
    go_simp
    with_reducible rfl
  rotate_left
  · simp only [aP]
    rfl
  refine pu_ 1 17 ?_ #[J,J,Z,Z,Z,Z,Z,Z] rfl rfl ?_ ?_ ?_ ?_
  rotate_left
  · intro w'
    go_simp
    with_reducible rfl
  rotate_left
  · simp only [aP]
    rfl
  refine pu_ 2 18 ?_ #[J,J,J,Z,Z,Z,Z,Z] rfl rfl ?_ ?_ ?_ ?_
  rotate_left
  · intro w'
    go_simp
    with_reducible rfl
  rotate_left
  · simp only [aP]
    rfl
  refine pu_ 4 20 ?_ #[J,J,J,Z,J,Z,Z,Z] rfl rfl ?_ ?_ ?_ ?_
  rotate_left
  · intro w'
    go_simp
    with_reducible rfl
  rotate_left
  · simp only [aP]
    rfl
  refine pu_ 5 21 ?_ #[J,J,J,Z,J,J,Z,Z] rfl rfl ?_ ?_ ?_ ?_
  rotate_left
  · intro w'
    go_simp
    with_reducible rfl
  rotate_left
  · simp only [aP]
    rfl
  refine ta_ 3 19 ?_ #[J,J,J,J,J,J,Z,Z] rfl rfl ?_ hHeld ?_ ?_ ?_
  rotate_left
  · intro w' s0
    go_simp
    with_reducible rfl
  rotate_left
  · simp only [aP]
    rfl
  refine one_ (i := 6) (N := some 22) #[J,J,J,J,J,J,J,Z] rfl rfl (by kernel_rfl) (by decide) (fun K hK => ?_)
  refine goes_ Tryz.func60 (by kernel_rfl) rfl #[.slice A 64 c] (by rfl) rfl rfl (by simp only [List.map_toArray, List.map_cons, List.map_nil]; rfl) ?_
  with_reducible refine (clone_ (w := W.drew) (Kd.C_drew HB.out) hc (by omega)).mono ?_
  rintro e w3 ⟨v3, rfl, hS1⟩
  refine ⟨_, rfl, ?_⟩
  have hs3 := hs.drew.lift1 hS1
  obtain ⟨A1, c1, rfl⟩ := hs3.rowN HBL.out
  refine hK.out _ _ (by rw [hs3.tail.cell 1]; rfl) (fun hHeld => ?_)
  clear hK K
  refine norm_ (a' := ?_) ?_ ?_
  rotate_left
  · show Act.put _ (some 22) _ = _
    simp only [aP]
    rfl
  refine last_ (i := 7) (N := none) #[J,J,J,J,J,J,J,J] rfl rfl (by kernel_rfl) (by decide) (fun K hK => ?_)
  obtain ⟨W4, hup, hfin⟩ := upd_ HOK.out hs3 i (by have := HI.out; omega)
  refine skip_ (w1 := ?_) (by rfl) rfl ?_ ?_
  rotate_left
  · go_simp
    rfl
  refine hK.out _ _ ?_
  clear hK K
  refine done_ (by kernel_rfl) ?_
  go_wp2
  go_ret
  exact ⟨by first | rfl | (simp; done), hfin⟩
end Go.Proofs.YtjngnigelkgekaaGreat.Disk
