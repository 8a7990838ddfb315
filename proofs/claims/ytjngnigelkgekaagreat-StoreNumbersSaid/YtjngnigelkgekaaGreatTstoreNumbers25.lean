/- StAsks: what StoreNumbers needs. -/
import Derived.Test.YtjngnigelkgekaaGreatTstoreNumbers24
set_option linter.unusedVariables false
set_option linter.unusedSimpArgs false
namespace Go.Proofs.YtjngnigelkgekaaGreat.RStore
open Go.RowKit Go.Proofs.YtjngnigelkgekaaGreatW.PrintWords Go.Proofs.YtjngnigelkgekaaGreatW.PrintLast Go.Proofs.YtjngnigelkgekaaGreatW.PrintMore Go.Proofs.YtjngnigelkgekaaGreat.Kit Go.Proofs.YtjngnigelkgekaaGreat.Plain Go.Proofs.YtjngnigelkgekaaGreat.Disk Go.Proofs.YtjngnigelkgekaaGreat.Root
open Go.Proofs.YtjngnigelkgekaaGreat.Delta (Chg KC)
open Go.Proofs.YtjngnigelkgekaaGreat.Store (sectF sector_)
theorem tp18 {i k : Nat} (hi : i < 200) (hk : k ≤ 40) : wrap64 ((i : Int) * (i : Int)) = (i : Int) * (i : Int) ∧ wrap64 ((i : Int) * (i : Int) * 7) = (i : Int) * (i : Int) * 7 ∧ wrap64 ((k : Int) * 37) = (k : Int) * 37 ∧ wrap64 ((i : Int) * (i : Int) * 7 + (k : Int) * 37) = (i : Int) * (i : Int) * 7 + (k : Int) * 37 ∧ wrap64 ((i : Int) * (k : Int)) = (i : Int) * (k : Int) ∧ wrap64 ((i : Int) * (i : Int) * 7 + (k : Int) * 37 + (i : Int) * (k : Int)) = (i : Int) * (i : Int) * 7 + (k : Int) * 37 + (i : Int) * (k : Int) := by
  have h1 : (i : Int) * (i : Int) ≤ 200 * 200 := Int.mul_le_mul (by omega) (by omega) (by omega) (by omega)
  have h2 : 0 ≤ (i : Int) * (i : Int) := Int.mul_nonneg (by omega) (by omega)
  have h3 : (i : Int) * (k : Int) ≤ 200 * 40 := Int.mul_le_mul (by omega) (by omega) (by omega) (by omega)
  have h4 : 0 ≤ (i : Int) * (k : Int) := Int.mul_nonneg (by omega) (by omega)
  generalize (i : Int) * (i : Int) = x at *
  generalize (i : Int) * (k : Int) = y at *
  refine ⟨IntWalk.wrap64_in _ (by omega), IntWalk.wrap64_in _ (by omega), IntWalk.wrap64_in _ (by omega), IntWalk.wrap64_in _ (by omega), IntWalk.wrap64_in _ (by omega), IntWalk.wrap64_in _ (by omega)⟩
set_option maxHeartbeats 1600000 in
set_option maxRecDepth 100000 in
theorem tape18_ {k : Nat} (hk : k ≤ 40) (w : World) : Calls Tryz.prog 36 #[.int .i64 (k : Int)] w fun e w' => ∃ v l, e = .returned v ∧ Sep w w' [Row I64 3 v l] := by
  have AN := Aside0.mk ((Sep.start w).nilRow (Kd.int .i64) 3)
  go_enter Tryz.func36, Tryz.ntmps36
  go_wp2_with fail
  go_loopg [3, 4] 200 (fun k_ v p wr => ∃ (i : Nat) (ys : List Int), p = .int .i64 (i : Int) ∧ i + k_ = 200 ∧ ys.length = i ∧ Sep w wr [Row (Kd.int .i64) 3 v ys])
  case atStart => exact ⟨0, [], rfl, by decide, rfl, AN.out⟩
  case round =>
    obtain ⟨i, ys, rfl, hik, hyl, hS⟩ := hrel
    obtain ⟨w5, rfl⟩ : ∃ x, x = wr := ⟨_, rfl⟩
    have AK := Aside0.mk hik
    have HYL := Aside0.mk hyl
    have AS := Aside0.mk hS
    obtain ⟨A5, c5, rfl⟩ := hS.rowN hyl
    clear hS hyl
    by_cases ci : i < 200
    case pos =>
      have hil : (i : Int) < 200 := by omega
      obtain ⟨s1, s2, s3, s4, s5, s6⟩ := tp18 ci hk
      clear hik ci
      have AL := Aside0.mk ((AS.out.litRow (enc := Value.int .i64) (h1 := fun _ => rfl) (e := 3) [((i : Int) * (i : Int) * 7 + (k : Int) * 37 + (i : Int) * (k : Int)).tmod 211] (by simp)).at2)
      go_wp2_with (first | (refine gate_builtin (b := .append) (xs := #[.tmp 9, .tmp 22]) rfl ?_; go_loud (refine AL.out.appendRow rfl (.tmp 9) (.tmp 22) 22 (.int .i64 0) 8 rfl Tryz.underlying22 (by kernel_rfl) rfl (by decide) (some ⟨w5.heap.size, 0, none⟩) 1 1 rfl rfl AL.out.at2.rowC.2.2 (by rw [HYL.out]; have := AK.out; simp; omega) ?_; intro v6 w6 hS6; have B6 := Aside0.mk hS6.drop2; clear hS6)))
      go_roundg (gk - 1)
      case measure => have := AK.out; omega
      case rel => exact ⟨i + 1, _, by go_num, by have := AK.out; omega, by rw [List.length_append, HYL.out]; rfl, B6.out⟩
    case neg =>
    obtain rfl : i = 200 := by omega
    clear hik ci
    go_wp2_with fail
    go_ret
    exact ⟨_, ys, by first | rfl | (simp; done), AS.out⟩
abbrev SlV := Option Addr × Nat
theorem sectorQ (x : Int) (w : World) : Calls Tryz.prog 42 #[.int .u8 x] w fun e w' => ∃ p : SlV, e = .returned (.slice p.1 64 p.2) ∧ Sep w w' [Row U8 5 (.slice p.1 64 p.2) (sectF x)] :=
  (sector_ x w).mono (by
    rintro e w' ⟨v, rfl, hS⟩
    obtain ⟨A, c, rfl⟩ := hS.rowN (n := 64) rfl
    exact ⟨(A, c), rfl, hS⟩)
abbrev kinds18 : List Int := [0, 1, 2, 4, 0, 6, 3, 5, 0, 6, 7]
theorem as_nums {i k : Nat} (hi : i < 35) (hk : k ≤ 40) : wrap64 ((i : Int) * 3) = (i : Int) * 3 ∧ wrap64 ((i : Int) * 3 + (k : Int)) = (i : Int) * 3 + (k : Int) ∧ wrap64 ((i : Int) + (k : Int)) = (i : Int) + (k : Int) ∧
    (∃ q : Nat, q < 11 ∧ ((i : Int) * 3 + (k : Int)).tmod 11 = (q : Int)) ∧ (∃ q : Nat, ((i : Int) * 3).tmod 65 = (q : Int)) ∧ (∃ p q : Nat, q < 7 ∧ ((i : Int) + (k : Int)).tmod 8 = (p : Int) ∧ (p : Int).tmod 7 = (q : Int)) ∧ (∃ q : Nat, (i : Int).tmod 6 = (q : Int)) ∧ (∃ q : Int, 0 ≤ q ∧ q ≤ 255 ∧ IntKind.u8.wrap (i : Int) = q) := by
  refine ⟨IntWalk.wrap64_in _ (by omega), IntWalk.wrap64_in _ (by omega), IntWalk.wrap64_in _ (by omega), ⟨(i * 3 + k) % 11, by omega, ?_⟩, ⟨(i * 3) % 65, ?_⟩, ⟨(i + k) % 8, (i + k) % 8 % 7, by omega, ?_, ?_⟩, ⟨i % 6, ?_⟩, ⟨IntKind.u8.wrap (i : Int), ?_, ?_, rfl⟩⟩
  · rw [Int.tmod_eq_emod_of_nonneg (by omega)]; omega
  · rw [Int.tmod_eq_emod_of_nonneg (by omega)]; omega
  · rw [Int.tmod_eq_emod_of_nonneg (by omega)]; omega
  · rw [Int.tmod_eq_emod_of_nonneg (by omega)]; omega
  · rw [Int.tmod_eq_emod_of_nonneg (by omega)]; omega
  · rw [IntKind.wrap_u8]; omega
  · rw [IntKind.wrap_u8]; omega
theorem infoAsk : (Tryz.prog.info? 83).map (fun i => (i.zero, i.size, i.bytes)) = some (some (.agg #[.int .i64 0, .int .i64 0, .slice none 0 0, .slice none 0 0]), 4, 64) := by kernel_rfl
theorem infoI64 : (Tryz.prog.info? 3).map (fun i => (i.zero, i.size, i.bytes)) = some (some (.int .i64 0), 1, 8) := by kernel_rfl
theorem sectF_bytes {x : Int} (h : 0 ≤ x ∧ x ≤ 255) : Bytes (sectF x) := fun y hy => by
  rcases List.mem_cons.1 hy with rfl | hy
  · exact h
  · have := List.eq_of_mem_replicate hy; omega
theorem chFx {w0 W : World} {F : List HP} {A : Option Addr} {c : Nat} {pg : Int} {bs : List Int} (h : Sep w0 W (Row U8 5 (.slice A 64 c) bs :: F)) :
    Sep w0 (W.alloc (.cells #[.int .i64 pg, .slice A 64 c] 75)) (Fx (fun W' => KC.C W' (some ⟨W.heap.size, 0, none⟩) 1 [(pg, bs)]) :: F) :=
  (Sep.litOne (d := KC) (x := (pg, bs)) (cl := [.int .i64 pg, .slice A 64 c]) (e := 75) (h.clSlice.clPair (a := Kd.int .i64) (x := pg) (p := [.int .i64 pg]) (fun W => rfl)) rfl (by
    intro u hu
    simp only [List.mem_cons, List.not_mem_nil, or_false] at hu
    rcases hu with rfl | rfl <;> rfl)).litFx
theorem askCl {w0 W : World} {F : List HP} {g13 g26 mb : Nat} {kk pg : Int} {l7 bs : List Int} (h : Sep w0 W (Row I64 3 (.slice (some ⟨g13, 0, none⟩) 7 7) l7 :: Fx (fun W' => KC.C W' (some ⟨g26, 0, none⟩) 1 [(pg, bs)]) :: F)) (hl : l7.length = 7) (hm : mb < 7) :
    Sep w0 W (Cl KA (kk, 0, l7.take mb, [(pg, bs)]) [.int .i64 kk, .int .i64 0, .slice (some ⟨g13, 0, none⟩) mb 7, .slice (some ⟨g26, 0, none⟩) 1 1] :: F) := by
  have hlt : (l7.take mb).length = mb := by rw [List.length_take]; omega
  refine h.fxRow.fxAnd.fxImp (fun W hW => ?_)
  have h1 : (Kd.int .i64).C W (some ⟨g13, 0, none⟩) mb (l7.take mb) := C_hi hW.1 (by omega) (Nat.le_refl _)
  exact ⟨[.int .i64 kk], [.int .i64 0, .slice (some ⟨g13, 0, none⟩) mb 7, .slice (some ⟨g26, 0, none⟩) 1 1], rfl, rfl, [.int .i64 0], [.slice (some ⟨g13, 0, none⟩) mb 7, .slice (some ⟨g26, 0, none⟩) 1 1], rfl, rfl, [.slice (some ⟨g13, 0, none⟩) mb 7], [.slice (some ⟨g26, 0, none⟩) 1 1], rfl,
    ⟨some ⟨g13, 0, none⟩, 7, by show [_] = [Value.slice _ (l7.take mb).length 7]; rw [hlt], by show (l7.take mb).length ≤ 7; omega, by show (Kd.int .i64).C W _ (l7.take mb).length _; rw [hlt]; exact h1⟩, some ⟨g26, 0, none⟩, 1, rfl, Nat.le_refl _, hW.2⟩
theorem askUp {w0 W : World} {F : List HP} {e : Nat} {v : Value} {ys : List Ask} {cs0 : List (List Value)} {x : Ask} {cl : List Value} {p : HP} (h : Sep w0 W (Row (Kd.raw 4) e v (cs0 ++ [cl]) :: p :: Cl KA x cl :: Fx (Each KA ys cs0) :: F)) : Sep w0 W (RowF KA e v (ys ++ [x]) :: F) := by
  have h1 := (Sep.pull [_, _] h.drop2).sw23.fxAnd (φ := Each KA ys cs0) (ψ := fun W => KA.K W x cl)
  exact Sep.rowF_shut (cs := cs0 ++ [cl]) (h1.fxImp (fun W hW => hW.1.snoc hW.2)).at2
set_option maxHeartbeats 6400000 in
set_option maxRecDepth 100000 in
theorem asks18_ {k : Nat} (hk : k ≤ 40) (w : World) : Calls Tryz.prog 37 #[.int .i64 (k : Int)] w fun e w' => ∃ A n c l, e = .returned (.slice A n c) ∧ (∀ x ∈ l, ∀ y ∈ x.2.2.2, Bytes y.2) ∧ Sep w w' [RowF KA 83 (.slice A n c) l] := by
  have AN := Aside0.mk ((Sep.start w).rowF_nil KA 83)
  have HK40 := Aside0.mk hk
  clear hk
  go_enter Tryz.func37, Tryz.ntmps37
  go_wp2_with fail
  go_loopg [3, 4] 35 (fun k_ v p wr => ∃ (i : Nat) (ys : List Ask), p = .int .i64 (i : Int) ∧ i + k_ = 35 ∧ ys.length = i ∧ (∀ x ∈ ys, ∀ y ∈ x.2.2.2, Bytes y.2) ∧ Sep w wr [RowF KA 83 v ys])
  case atStart => exact ⟨0, [], rfl, by decide, rfl, fun x hx => (by cases hx), AN.out⟩
  case round =>
    obtain ⟨i, ys, rfl, hik, hyl, hyb, hS⟩ := hrel
    obtain ⟨w5, rfl⟩ : ∃ x, x = wr := ⟨_, rfl⟩
    have AK := Aside0.mk hik
    have HYL := Aside0.mk (And.intro hyl hyb)
    have AS := Aside0.mk hS
    clear hS hyl hyb
    by_cases ci : i < 35
    case neg =>
      obtain rfl : i = 35 := by omega
      obtain ⟨A5, c5, rfl⟩ := AS.out.rowFN HYL.out.1
      clear hik ci
      go_wp2_with fail
      go_ret
      exact ⟨A5, 35, c5, ys, by first | rfl | (simp; done), HYL.out.2, AS.out⟩
    case pos =>
    have hil : (i : Int) < 35 := by omega
    obtain ⟨s1, s2, s3, ⟨ki, hki, s4⟩, ⟨m5, s5⟩, ⟨mp, mb, hmb, s6, s7⟩, ⟨pg, s8⟩, ⟨bx, hb0, hb1, s9⟩⟩ := as_nums ci HK40.out
    have HKI := Aside0.mk hki
    have HMB := Aside0.mk hmb
    have HBX := Aside0.mk (And.intro hb0 hb1)
    have hkil : (ki : Int) < 11 := by omega
    obtain ⟨KX, hKX⟩ : ∃ x, kinds18.getD ki 0 = x := ⟨_, rfl⟩
    have HKX := Aside0.mk hKX
    have hq : ∀ (G : Nat) (W : World), (Instr.slice 22 (.slice (some ⟨G, 0, none⟩) 7 7) none (some (.int .i64 (mb : Int))) none).run Tryz.prog W = .ok (.slice (some ⟨G, 0, none⟩) mb 7) W := fun G W => cutHi Tryz.underlying22 infoI64 (some ⟨G, 0, none⟩) 7 7 mb rfl (by omega) (Nat.le_refl _) W
    obtain ⟨cs0, hcs0⟩ := AS.out.rowF_open
    have B5 : Aside0 (Sep w w5.drew (Row (Kd.raw 4) 83 u3 cs0 :: Fx (Each KA ys cs0) :: [])) := ⟨hcs0.drew⟩
    clear hik ci hki hmb hb0 hb1 hKX hcs0
    go_upto_region 5 with fail
    refine start_ (n := 31) (S := fun w' => True) (ds := [29]) #[Z,Z,Z,Z,Z,Z,Z,Z,Z,Z,Z,Z,Z,Z,Z,Z,Z,Z,Z,Z,Z,Z,Z,Z,Z,Z,Z,Z,Z,Z,Z] (by kernel_rfl) rfl rfl trivial (fun hHeld => ?_)
    refine pu_ 0 9 ?_ #[J,Z,Z,Z,Z,Z,Z,Z,Z,Z,Z,Z,Z,Z,Z,Z,Z,Z,Z,Z,Z,Z,Z,Z,Z,Z,Z,Z,Z,Z,Z] rfl rfl ?_ ?_ ?_ ?_
    rotate_left
    · intro w'
      go_simp
      with_reducible rfl
    rotate_left
    · simp only [aP]
      rfl
    refine pu_ 2 11 ?_ #[J,Z,J,Z,Z,Z,Z,Z,Z,Z,Z,Z,Z,Z,Z,Z,Z,Z,Z,Z,Z,Z,Z,Z,Z,Z,Z,Z,Z,Z,Z] rfl rfl ?_ ?_ ?_ ?_
    rotate_left
    · intro w'
      go_simp
      with_reducible rfl
    rotate_left
    · simp only [aP]
      rfl
    refine pu_ 3 12 ?_ #[J,Z,J,J,Z,Z,Z,Z,Z,Z,Z,Z,Z,Z,Z,Z,Z,Z,Z,Z,Z,Z,Z,Z,Z,Z,Z,Z,Z,Z,Z] rfl rfl ?_ ?_ ?_ ?_
    rotate_left
    · intro w'
      go_simp
      with_reducible rfl
    rotate_left
    · simp only [aP]
      rfl
    refine pu_ 4 13 ?_ #[J,Z,J,J,J,Z,Z,Z,Z,Z,Z,Z,Z,Z,Z,Z,Z,Z,Z,Z,Z,Z,Z,Z,Z,Z,Z,Z,Z,Z,Z] rfl rfl ?_ ?_ ?_ ?_
    rotate_left
    · intro w'
      go_simp
      with_reducible rfl
    rotate_left
    · simp only [aP]
      rfl
    refine pu_ 5 14 ?_ #[J,Z,J,J,J,J,Z,Z,Z,Z,Z,Z,Z,Z,Z,Z,Z,Z,Z,Z,Z,Z,Z,Z,Z,Z,Z,Z,Z,Z,Z] rfl rfl ?_ ?_ ?_ ?_
    rotate_left
    · intro w'
      go_simp
      with_reducible rfl
    rotate_left
    · simp only [aP]
      rfl
    refine pu_ 6 15 ?_ #[J,Z,J,J,J,J,J,Z,Z,Z,Z,Z,Z,Z,Z,Z,Z,Z,Z,Z,Z,Z,Z,Z,Z,Z,Z,Z,Z,Z,Z] rfl rfl ?_ ?_ ?_ ?_
    rotate_left
    · intro w'
      go_simp
      with_reducible rfl
    rotate_left
    · simp only [aP]
      rfl
    refine pu_ 9 18 ?_ #[J,Z,J,J,J,J,J,Z,Z,J,Z,Z,Z,Z,Z,Z,Z,Z,Z,Z,Z,Z,Z,Z,Z,Z,Z,Z,Z,Z,Z] rfl rfl ?_ ?_ ?_ ?_
    rotate_left
    · intro w'
      go_simp
      with_reducible rfl
    rotate_left
    · simp only [aP]
      rfl
    refine pu_ 10 19 ?_ #[J,Z,J,J,J,J,J,Z,Z,J,J,Z,Z,Z,Z,Z,Z,Z,Z,Z,Z,Z,Z,Z,Z,Z,Z,Z,Z,Z,Z] rfl rfl ?_ ?_ ?_ ?_
    rotate_left
    · intro w'
      go_simp
      with_reducible rfl
    rotate_left
    · simp only [aP]
      rfl
    refine pu_ 11 20 ?_ #[J,Z,J,J,J,J,J,Z,Z,J,J,J,Z,Z,Z,Z,Z,Z,Z,Z,Z,Z,Z,Z,Z,Z,Z,Z,Z,Z,Z] rfl rfl ?_ ?_ ?_ ?_
    rotate_left
    · intro w'
      go_simp
      with_reducible rfl
    rotate_left
    · simp only [aP]
      rfl
    refine pu_ 12 21 ?_ #[J,Z,J,J,J,J,J,Z,Z,J,J,J,J,Z,Z,Z,Z,Z,Z,Z,Z,Z,Z,Z,Z,Z,Z,Z,Z,Z,Z] rfl rfl ?_ ?_ ?_ ?_
    rotate_left
    · intro w'
      go_simp
      with_reducible rfl
    rotate_left
    · simp only [aP]
      rfl
    refine pu_ 14 23 ?_ #[J,Z,J,J,J,J,J,Z,Z,J,J,J,J,Z,J,Z,Z,Z,Z,Z,Z,Z,Z,Z,Z,Z,Z,Z,Z,Z,Z] rfl rfl ?_ ?_ ?_ ?_
    rotate_left
    · intro w'
      go_simp
      with_reducible rfl
    rotate_left
    · simp only [aP]
      rfl
    refine pu_ 15 24 ?_ #[J,Z,J,J,J,J,J,Z,Z,J,J,J,J,Z,J,J,Z,Z,Z,Z,Z,Z,Z,Z,Z,Z,Z,Z,Z,Z,Z] rfl rfl ?_ ?_ ?_ ?_
    rotate_left
    · intro w'
      go_simp
      with_reducible rfl
    rotate_left
    · simp only [aP]
      rfl
    refine pu_ 16 25 ?_ #[J,Z,J,J,J,J,J,Z,Z,J,J,J,J,Z,J,J,J,Z,Z,Z,Z,Z,Z,Z,Z,Z,Z,Z,Z,Z,Z] rfl rfl ?_ ?_ ?_ ?_
    rotate_left
    · intro w'
      go_simp
      with_reducible rfl
    rotate_left
    · simp only [aP]
      rfl
    refine pu_ 17 26 ?_ #[J,Z,J,J,J,J,J,Z,Z,J,J,J,J,Z,J,J,J,J,Z,Z,Z,Z,Z,Z,Z,Z,Z,Z,Z,Z,Z] rfl rfl ?_ ?_ ?_ ?_
    rotate_left
    · intro w'
      go_simp
      with_reducible rfl
    rotate_left
    · simp only [aP]
      rfl
    refine pu_ 18 27 ?_ #[J,Z,J,J,J,J,J,Z,Z,J,J,J,J,Z,J,J,J,J,J,Z,Z,Z,Z,Z,Z,Z,Z,Z,Z,Z,Z] rfl rfl ?_ ?_ ?_ ?_
    rotate_left
    · intro w'
      go_simp
      with_reducible rfl
    rotate_left
    · simp only [aP]
      rfl
    refine pu_ 20 29 ?_ #[J,Z,J,J,J,J,J,Z,Z,J,J,J,J,Z,J,J,J,J,J,Z,J,Z,Z,Z,Z,Z,Z,Z,Z,Z,Z] rfl rfl ?_ ?_ ?_ ?_
    rotate_left
    · intro w'
      go_simp
      with_reducible rfl
    rotate_left
    · simp only [aP]
      rfl
    refine pu_ 21 30 ?_ #[J,Z,J,J,J,J,J,Z,Z,J,J,J,J,Z,J,J,J,J,J,Z,J,J,Z,Z,Z,Z,Z,Z,Z,Z,Z] rfl rfl ?_ ?_ ?_ ?_
    rotate_left
    · intro w'
      go_simp
      with_reducible rfl
    rotate_left
    · simp only [aP]
      rfl
    refine pu_ 22 31 ?_ #[J,Z,J,J,J,J,J,Z,Z,J,J,J,J,Z,J,J,J,J,J,Z,J,J,J,Z,Z,Z,Z,Z,Z,Z,Z] rfl rfl ?_ ?_ ?_ ?_
    rotate_left
    · intro w'
      go_simp
      with_reducible rfl
    rotate_left
    · simp only [aP]
      rfl
    refine pu_ 23 32 ?_ #[J,Z,J,J,J,J,J,Z,Z,J,J,J,J,Z,J,J,J,J,J,Z,J,J,J,J,Z,Z,Z,Z,Z,Z,Z] rfl rfl ?_ ?_ ?_ ?_
    rotate_left
    · intro w'
      go_simp
      with_reducible rfl
    rotate_left
    · simp only [aP]
      rfl
    refine join_ (σ := Nat × Int × Nat × SlV × Nat) 4 #[J,J,J,J,J,J,J,J,J,J,J,J,J,J,J,J,J,J,J,J,J,J,J,J,J,J,J,Z,Z,Z,Z] (fun s_ => [(10, .slice (some ⟨s_.1, 0, none⟩) 11 11), (17, .int .i64 (s_.2.1)), (22, .slice (some ⟨s_.2.2.1, 0, none⟩) 7 7), (33, .slice (s_.2.2.2.1).1 64 (s_.2.2.2.1).2), (35, .slice (some ⟨s_.2.2.2.2, 0, none⟩) 1 1), (16, .pointer (some ⟨s_.1, ki, none⟩)), (28, .slice (some ⟨s_.2.2.1, 0, none⟩) mb 7), (34, .agg #[.int .i64 (pg : Int), .slice (s_.2.2.2.1).1 64 (s_.2.2.2.1).2])]) (fun s_ w' => Sep w w' ((Pu ((s_.2.1) = KX)) :: (Row I64 3 (.slice (some ⟨(s_.2.2.1), 0, none⟩) 7 7) [64, (m5 : Int), (k : Int), 64, 0, 64, 20]) :: (Fx (fun W' => KC.C W' (some ⟨(s_.2.2.2.2), 0, none⟩) 1 [((pg : Int), sectF bx)])) :: (Row (Kd.raw 4) 83 u3 cs0 :: Fx (Each KA ys cs0) :: []))) ?_ ?_
    rotate_left
    · intro hJ1_8_13_24_26
      refine join_ (σ := Nat × Int × Nat × SlV) 5 #[J,J,J,J,J,J,J,J,J,J,J,J,J,J,J,J,J,J,J,J,J,J,J,J,J,J,Z,Z,Z,Z,Z] (fun s_ => [(10, .slice (some ⟨s_.1, 0, none⟩) 11 11), (17, .int .i64 (s_.2.1)), (22, .slice (some ⟨s_.2.2.1, 0, none⟩) 7 7), (33, .slice (s_.2.2.2).1 64 (s_.2.2.2).2), (16, .pointer (some ⟨s_.1, ki, none⟩)), (28, .slice (some ⟨s_.2.2.1, 0, none⟩) mb 7), (34, .agg #[.int .i64 (pg : Int), .slice (s_.2.2.2).1 64 (s_.2.2.2).2])]) (fun s_ w' => Sep w w' ((Pu ((s_.2.1) = KX)) :: (Row I64 3 (.slice (some ⟨(s_.2.2.1), 0, none⟩) 7 7) [64, (m5 : Int), (k : Int), 64, 0, 64, 20]) :: (Row U8 5 (.slice ((s_.2.2.2)).1 64 ((s_.2.2.2)).2) (sectF bx)) :: (Row (Kd.raw 4) 83 u3 cs0 :: Fx (Each KA ys cs0) :: []))) ?_ ?_
      rotate_left
      · intro hJ1_8_13_24
        refine join_ (σ := Nat × Int × SlV × Nat) 6 #[J,J,J,J,J,J,J,J,J,J,J,J,J,Z,J,J,J,J,J,Z,J,J,J,J,J,J,J,Z,Z,Z,Z] (fun s_ => [(10, .slice (some ⟨s_.1, 0, none⟩) 11 11), (17, .int .i64 (s_.2.1)), (33, .slice (s_.2.2.1).1 64 (s_.2.2.1).2), (35, .slice (some ⟨s_.2.2.2, 0, none⟩) 1 1), (16, .pointer (some ⟨s_.1, ki, none⟩)), (34, .agg #[.int .i64 (pg : Int), .slice (s_.2.2.1).1 64 (s_.2.2.1).2])]) (fun s_ w' => Sep w w' ((Pu ((s_.2.1) = KX)) :: (Fx (fun W' => KC.C W' (some ⟨(s_.2.2.2), 0, none⟩) 1 [((pg : Int), sectF bx)])) :: (Row (Kd.raw 4) 83 u3 cs0 :: Fx (Each KA ys cs0) :: []))) ?_ ?_
        rotate_left
        · intro hJ1_8_24_26
          refine join_ (σ := Nat × Nat × SlV × Nat) 5 #[J,J,J,J,J,J,J,J,Z,J,J,J,J,J,J,J,J,J,J,J,J,J,J,J,J,J,J,Z,Z,Z,Z] (fun s_ => [(10, .slice (some ⟨s_.1, 0, none⟩) 11 11), (22, .slice (some ⟨s_.2.1, 0, none⟩) 7 7), (33, .slice (s_.2.2.1).1 64 (s_.2.2.1).2), (35, .slice (some ⟨s_.2.2.2, 0, none⟩) 1 1), (16, .pointer (some ⟨s_.1, ki, none⟩)), (28, .slice (some ⟨s_.2.1, 0, none⟩) mb 7), (34, .agg #[.int .i64 (pg : Int), .slice (s_.2.2.1).1 64 (s_.2.2.1).2])]) (fun s_ w' => Sep w w' ((Row I64 3 (.slice (some ⟨(s_.1), 0, none⟩) 11 11) kinds18) :: (Row I64 3 (.slice (some ⟨(s_.2.1), 0, none⟩) 7 7) [64, (m5 : Int), (k : Int), 64, 0, 64, 20]) :: (Fx (fun W' => KC.C W' (some ⟨(s_.2.2.2), 0, none⟩) 1 [((pg : Int), sectF bx)])) :: (Row (Kd.raw 4) 83 u3 cs0 :: Fx (Each KA ys cs0) :: []))) ?_ ?_
          rotate_left
          · intro hJ1_13_24_26
            refine join_ (σ := Nat × Int × Nat) 7 #[J,J,J,J,J,J,J,J,J,J,J,J,J,J,J,J,J,J,J,J,J,J,J,J,Z,Z,Z,Z,Z,Z,Z] (fun s_ => [(10, .slice (some ⟨s_.1, 0, none⟩) 11 11), (17, .int .i64 (s_.2.1)), (22, .slice (some ⟨s_.2.2, 0, none⟩) 7 7), (16, .pointer (some ⟨s_.1, ki, none⟩)), (28, .slice (some ⟨s_.2.2, 0, none⟩) mb 7)]) (fun s_ w' => Sep w w' ((Pu ((s_.2.1) = KX)) :: (Row I64 3 (.slice (some ⟨(s_.2.2), 0, none⟩) 7 7) [64, (m5 : Int), (k : Int), 64, 0, 64, 20]) :: (Row (Kd.raw 4) 83 u3 cs0 :: Fx (Each KA ys cs0) :: []))) ?_ ?_
            rotate_left
            · intro hJ1_8_13
              refine join_ (σ := Nat × Int × SlV) 7 #[J,J,J,J,J,J,J,J,J,J,J,J,J,Z,J,J,J,J,J,Z,J,J,J,J,J,J,Z,Z,Z,Z,Z] (fun s_ => [(10, .slice (some ⟨s_.1, 0, none⟩) 11 11), (17, .int .i64 (s_.2.1)), (33, .slice (s_.2.2).1 64 (s_.2.2).2), (16, .pointer (some ⟨s_.1, ki, none⟩)), (34, .agg #[.int .i64 (pg : Int), .slice (s_.2.2).1 64 (s_.2.2).2])]) (fun s_ w' => Sep w w' ((Pu ((s_.2.1) = KX)) :: (Row U8 5 (.slice ((s_.2.2)).1 64 ((s_.2.2)).2) (sectF bx)) :: (Row (Kd.raw 4) 83 u3 cs0 :: Fx (Each KA ys cs0) :: []))) ?_ ?_
              rotate_left
              · intro hJ1_8_24
                refine join_ (σ := Nat × Nat × SlV) 6 #[J,J,J,J,J,J,J,J,Z,J,J,J,J,J,J,J,J,J,J,J,J,J,J,J,J,J,Z,Z,Z,Z,Z] (fun s_ => [(10, .slice (some ⟨s_.1, 0, none⟩) 11 11), (22, .slice (some ⟨s_.2.1, 0, none⟩) 7 7), (33, .slice (s_.2.2).1 64 (s_.2.2).2), (16, .pointer (some ⟨s_.1, ki, none⟩)), (28, .slice (some ⟨s_.2.1, 0, none⟩) mb 7), (34, .agg #[.int .i64 (pg : Int), .slice (s_.2.2).1 64 (s_.2.2).2])]) (fun s_ w' => Sep w w' ((Row I64 3 (.slice (some ⟨(s_.1), 0, none⟩) 11 11) kinds18) :: (Row I64 3 (.slice (some ⟨(s_.2.1), 0, none⟩) 7 7) [64, (m5 : Int), (k : Int), 64, 0, 64, 20]) :: (Row U8 5 (.slice ((s_.2.2)).1 64 ((s_.2.2)).2) (sectF bx)) :: (Row (Kd.raw 4) 83 u3 cs0 :: Fx (Each KA ys cs0) :: []))) ?_ ?_
                rotate_left
                · intro hJ1_13_24
                  refine join_ (σ := Nat × SlV × Nat) 7 #[J,J,J,J,J,J,J,J,Z,J,J,J,J,Z,J,J,J,J,J,Z,J,J,J,J,J,J,J,Z,Z,Z,Z] (fun s_ => [(10, .slice (some ⟨s_.1, 0, none⟩) 11 11), (33, .slice (s_.2.1).1 64 (s_.2.1).2), (35, .slice (some ⟨s_.2.2, 0, none⟩) 1 1), (16, .pointer (some ⟨s_.1, ki, none⟩)), (34, .agg #[.int .i64 (pg : Int), .slice (s_.2.1).1 64 (s_.2.1).2])]) (fun s_ w' => Sep w w' ((Row I64 3 (.slice (some ⟨(s_.1), 0, none⟩) 11 11) kinds18) :: (Fx (fun W' => KC.C W' (some ⟨(s_.2.2), 0, none⟩) 1 [((pg : Int), sectF bx)])) :: (Row (Kd.raw 4) 83 u3 cs0 :: Fx (Each KA ys cs0) :: []))) ?_ ?_
                  rotate_left
                  · intro hJ1_24_26
                    refine join_ (σ := Nat × SlV × Nat) 7 #[J,Z,J,J,J,J,J,Z,Z,J,J,J,J,J,J,J,J,J,J,J,J,J,J,J,J,J,J,Z,Z,Z,Z] (fun s_ => [(22, .slice (some ⟨s_.1, 0, none⟩) 7 7), (33, .slice (s_.2.1).1 64 (s_.2.1).2), (35, .slice (some ⟨s_.2.2, 0, none⟩) 1 1), (28, .slice (some ⟨s_.1, 0, none⟩) mb 7), (34, .agg #[.int .i64 (pg : Int), .slice (s_.2.1).1 64 (s_.2.1).2])]) (fun s_ w' => Sep w w' ((Row I64 3 (.slice (some ⟨(s_.1), 0, none⟩) 7 7) [64, (m5 : Int), (k : Int), 64, 0, 64, 20]) :: (Fx (fun W' => KC.C W' (some ⟨(s_.2.2), 0, none⟩) 1 [((pg : Int), sectF bx)])) :: (Row (Kd.raw 4) 83 u3 cs0 :: Fx (Each KA ys cs0) :: []))) ?_ ?_
                    rotate_left
                    · intro hJ13_24_26
                      refine join_ (σ := Nat × Int) 9 #[J,J,J,J,J,J,J,J,J,J,J,J,J,Z,J,J,J,J,J,Z,J,J,J,J,Z,Z,Z,Z,Z,Z,Z] (fun s_ => [(10, .slice (some ⟨s_.1, 0, none⟩) 11 11), (17, .int .i64 (s_.2)), (16, .pointer (some ⟨s_.1, ki, none⟩))]) (fun s_ w' => Sep w w' ((Pu ((s_.2) = KX)) :: (Row (Kd.raw 4) 83 u3 cs0 :: Fx (Each KA ys cs0) :: []))) ?_ ?_
                      rotate_left
                      · intro hJ1_8
                        refine join_ (σ := Nat × Nat) 8 #[J,J,J,J,J,J,J,J,Z,J,J,J,J,J,J,J,J,J,J,J,J,J,J,J,Z,Z,Z,Z,Z,Z,Z] (fun s_ => [(10, .slice (some ⟨s_.1, 0, none⟩) 11 11), (22, .slice (some ⟨s_.2, 0, none⟩) 7 7), (16, .pointer (some ⟨s_.1, ki, none⟩)), (28, .slice (some ⟨s_.2, 0, none⟩) mb 7)]) (fun s_ w' => Sep w w' ((Row I64 3 (.slice (some ⟨(s_.1), 0, none⟩) 11 11) kinds18) :: (Row I64 3 (.slice (some ⟨(s_.2), 0, none⟩) 7 7) [64, (m5 : Int), (k : Int), 64, 0, 64, 20]) :: (Row (Kd.raw 4) 83 u3 cs0 :: Fx (Each KA ys cs0) :: []))) ?_ ?_
                        rotate_left
                        · intro hJ1_13
                          refine join_ (σ := Nat × SlV) 8 #[J,J,J,J,J,J,J,J,Z,J,J,J,J,Z,J,J,J,J,J,Z,J,J,J,J,J,J,Z,Z,Z,Z,Z] (fun s_ => [(10, .slice (some ⟨s_.1, 0, none⟩) 11 11), (33, .slice (s_.2).1 64 (s_.2).2), (16, .pointer (some ⟨s_.1, ki, none⟩)), (34, .agg #[.int .i64 (pg : Int), .slice (s_.2).1 64 (s_.2).2])]) (fun s_ w' => Sep w w' ((Row I64 3 (.slice (some ⟨(s_.1), 0, none⟩) 11 11) kinds18) :: (Row U8 5 (.slice ((s_.2)).1 64 ((s_.2)).2) (sectF bx)) :: (Row (Kd.raw 4) 83 u3 cs0 :: Fx (Each KA ys cs0) :: []))) ?_ ?_
                          rotate_left
                          · intro hJ1_24
                            refine join_ (σ := Nat × SlV) 8 #[J,Z,J,J,J,J,J,Z,Z,J,J,J,J,J,J,J,J,J,J,J,J,J,J,J,J,J,Z,Z,Z,Z,Z] (fun s_ => [(22, .slice (some ⟨s_.1, 0, none⟩) 7 7), (33, .slice (s_.2).1 64 (s_.2).2), (28, .slice (some ⟨s_.1, 0, none⟩) mb 7), (34, .agg #[.int .i64 (pg : Int), .slice (s_.2).1 64 (s_.2).2])]) (fun s_ w' => Sep w w' ((Row I64 3 (.slice (some ⟨(s_.1), 0, none⟩) 7 7) [64, (m5 : Int), (k : Int), 64, 0, 64, 20]) :: (Row U8 5 (.slice ((s_.2)).1 64 ((s_.2)).2) (sectF bx)) :: (Row (Kd.raw 4) 83 u3 cs0 :: Fx (Each KA ys cs0) :: []))) ?_ ?_
                            rotate_left
                            · intro hJ13_24
                              refine join_ (σ := SlV × Nat) 9 #[J,Z,J,J,J,J,J,Z,Z,J,J,J,J,Z,J,J,J,J,J,Z,J,J,J,J,J,J,J,Z,Z,Z,Z] (fun s_ => [(33, .slice (s_.1).1 64 (s_.1).2), (35, .slice (some ⟨s_.2, 0, none⟩) 1 1), (34, .agg #[.int .i64 (pg : Int), .slice (s_.1).1 64 (s_.1).2])]) (fun s_ w' => Sep w w' ((Fx (fun W' => KC.C W' (some ⟨(s_.2), 0, none⟩) 1 [((pg : Int), sectF bx)])) :: (Row (Kd.raw 4) 83 u3 cs0 :: Fx (Each KA ys cs0) :: []))) ?_ ?_
                              rotate_left
                              · intro hJ24_26
                                refine join_ (σ := Nat) 10 #[J,J,J,J,J,J,J,J,Z,J,J,J,J,Z,J,J,J,J,J,Z,J,J,J,J,Z,Z,Z,Z,Z,Z,Z] (fun s_ => [(10, .slice (some ⟨s_, 0, none⟩) 11 11), (16, .pointer (some ⟨s_, ki, none⟩))]) (fun s_ w' => Sep w w' ((Row I64 3 (.slice (some ⟨(s_), 0, none⟩) 11 11) kinds18) :: (Row (Kd.raw 4) 83 u3 cs0 :: Fx (Each KA ys cs0) :: []))) ?_ ?_
                                rotate_left
                                · intro hJ1
                                  refine join_ (σ := Nat) 10 #[J,Z,J,J,J,J,J,Z,Z,J,J,J,J,J,J,J,J,J,J,J,J,J,J,J,Z,Z,Z,Z,Z,Z,Z] (fun s_ => [(22, .slice (some ⟨s_, 0, none⟩) 7 7), (28, .slice (some ⟨s_, 0, none⟩) mb 7)]) (fun s_ w' => Sep w w' ((Row I64 3 (.slice (some ⟨(s_), 0, none⟩) 7 7) [64, (m5 : Int), (k : Int), 64, 0, 64, 20]) :: (Row (Kd.raw 4) 83 u3 cs0 :: Fx (Each KA ys cs0) :: []))) ?_ ?_
                                  rotate_left
                                  · intro hJ13
                                    refine join_ (σ := SlV) 10 #[J,Z,J,J,J,J,J,Z,Z,J,J,J,J,Z,J,J,J,J,J,Z,J,J,J,J,J,J,Z,Z,Z,Z,Z] (fun s_ => [(33, .slice (s_).1 64 (s_).2), (34, .agg #[.int .i64 (pg : Int), .slice (s_).1 64 (s_).2])]) (fun s_ w' => Sep w w' ((Row U8 5 (.slice ((s_)).1 64 ((s_)).2) (sectF bx)) :: (Row (Kd.raw 4) 83 u3 cs0 :: Fx (Each KA ys cs0) :: []))) ?_ ?_
                                    rotate_left
                                    · intro hJ24
                                      refine three_ (i := 1) (j := 13) (k := 24) (Ni := some 10) (Nj := some 22) (Nk := some 33) #[J,J,J,J,J,J,J,Z,Z,J,J,J,J,Z,J,J,J,J,J,Z,J,J,J,J,Z,Z,Z,Z,Z,Z,Z] #[J,Z,J,J,J,J,J,Z,Z,J,J,J,J,J,J,J,J,J,J,Z,J,J,J,J,Z,Z,Z,Z,Z,Z,Z] #[J,Z,J,J,J,J,J,Z,Z,J,J,J,J,Z,J,J,J,J,J,Z,J,J,J,J,J,Z,Z,Z,Z,Z,Z] rfl rfl rfl rfl rfl rfl (by kernel_rfl) (by decide) (by decide) (by decide) (fun K hK => ?_) (fun K hK => ?_) (fun K hK => ?_)
                                      · skip
                                        refine value_ (w1 := ?_) (v := ?_) (by rfl) rfl ?_ ?_
                                        rotate_left 2
                                        · go_simp
                                          constructor
                                          · rfl
                                          · rfl
                                        have hN := (B5.out).litRow (enc := Value.int .i64) (h1 := fun _ => rfl) (e := 3) kinds18 (by decide)
                                        refine hK.out _ _ trivial (fun hHeld => ?_)
                                        clear hK K
                                        refine norm_ (a' := ?_) ?_ ?_
                                        rotate_left
                                        · show Act.put _ (some 10) _ = _
                                          simp only [aP]
                                          rfl
                                        refine pu_ 7 16 ?_ #[J,J,J,J,J,J,J,J,Z,J,J,J,J,Z,J,J,J,J,J,Z,J,J,J,J,Z,Z,Z,Z,Z,Z,Z] rfl rfl ?_ ?_ ?_ ?_
                                        rotate_left
                                        · intro w'
                                          go_simp
                                          with_reducible rfl
                                        rotate_left
                                        · simp only [aP]
                                          rfl
                                        exact norm_ (by first | (simp only [putAll, Act.put, List.setIfInBounds_toArray, List.set_cons_zero, List.set_cons_succ]; done) | (simp only [putAll, Act.put, List.setIfInBounds_toArray, List.set_cons_zero, List.set_cons_succ]; rfl)) (hJ1 (w5.drew).heap.size _ hN)
                                      · skip
                                        refine value_ (w1 := ?_) (v := ?_) (by rfl) rfl ?_ ?_
                                        rotate_left 2
                                        · go_simp
                                          constructor
                                          · rfl
                                          · rfl
                                        have hN := (B5.out).litRow (enc := Value.int .i64) (h1 := fun _ => rfl) (e := 3) [64, (m5 : Int), (k : Int), 64, 0, 64, 20] (by simp)
                                        refine hK.out _ _ trivial (fun hHeld => ?_)
                                        clear hK K
                                        refine norm_ (a' := ?_) ?_ ?_
                                        rotate_left
                                        · show Act.put _ (some 22) _ = _
                                          simp only [aP]
                                          rfl
                                        refine pu_ 19 28 ?_ #[J,Z,J,J,J,J,J,Z,Z,J,J,J,J,J,J,J,J,J,J,J,J,J,J,J,Z,Z,Z,Z,Z,Z,Z] rfl rfl ?_ ?_ ?_ ?_
                                        rotate_left
                                        · intro w'
                                          go_simp
                                          with_reducible rfl
                                        rotate_left
                                        · simp only [aP]
                                          rfl
                                        exact norm_ (by first | (simp only [putAll, Act.put, List.setIfInBounds_toArray, List.set_cons_zero, List.set_cons_succ]; done) | (simp only [putAll, Act.put, List.setIfInBounds_toArray, List.set_cons_zero, List.set_cons_succ]; rfl)) (hJ13 (w5.drew).heap.size _ hN)
                                      · skip
                                        refine goes_ Tryz.func42 (by kernel_rfl) rfl #[.int .u8 bx] (by rfl) rfl rfl (by simp only [List.map_toArray, List.map_cons, List.map_nil]; rfl) ?_
                                        with_reducible refine (sectorQ bx _).mono ?_
                                        rintro e wn_ ⟨vn_, rfl, hS_⟩
                                        refine ⟨_, rfl, ?_⟩
                                        have hN := (B5.out).lift1 hS_
                                        clear hS_
                                        refine hK.out _ _ trivial (fun hHeld => ?_)
                                        clear hK K
                                        refine norm_ (a' := ?_) ?_ ?_
                                        rotate_left
                                        · show Act.put _ (some 33) _ = _
                                          simp only [aP]
                                          rfl
                                        refine pu_ 25 34 ?_ #[J,Z,J,J,J,J,J,Z,Z,J,J,J,J,Z,J,J,J,J,J,Z,J,J,J,J,J,J,Z,Z,Z,Z,Z] rfl rfl ?_ ?_ ?_ ?_
                                        rotate_left
                                        · intro w'
                                          go_simp
                                          with_reducible rfl
                                        rotate_left
                                        · simp only [aP]
                                          rfl
                                        exact norm_ (by first | (simp only [putAll, Act.put, List.setIfInBounds_toArray, List.set_cons_zero, List.set_cons_succ]; done) | (simp only [putAll, Act.put, List.setIfInBounds_toArray, List.set_cons_zero, List.set_cons_succ]; rfl)) (hJ24 vn_ _ hN)
                                    · skip
                                      rintro v24_ W_ hQ_
                                      have hSep : Aside0 (Sep w W_ ((Row U8 5 (.slice ((v24_)).1 64 ((v24_)).2) (sectF bx)) :: (Row (Kd.raw 4) 83 u3 cs0 :: Fx (Each KA ys cs0) :: []))) := ⟨hQ_⟩
                                      clear hQ_
                                      have hHeld := trivial
                                      refine norm_ (a' := ?_) ?_ ?_
                                      rotate_left
                                      · simp only [putAll, Act.put, List.setIfInBounds_toArray, List.set_cons_zero, List.set_cons_succ]
                                        rfl
                                      refine three_ (i := 1) (j := 13) (k := 26) (Ni := some 10) (Nj := some 22) (Nk := some 35) #[J,J,J,J,J,J,J,Z,Z,J,J,J,J,Z,J,J,J,J,J,Z,J,J,J,J,J,J,Z,Z,Z,Z,Z] #[J,Z,J,J,J,J,J,Z,Z,J,J,J,J,J,J,J,J,J,J,Z,J,J,J,J,J,J,Z,Z,Z,Z,Z] #[J,Z,J,J,J,J,J,Z,Z,J,J,J,J,Z,J,J,J,J,J,Z,J,J,J,J,J,J,J,Z,Z,Z,Z] rfl rfl rfl rfl rfl rfl (by kernel_rfl) (by decide) (by decide) (by decide) (fun K hK => ?_) (fun K hK => ?_) (fun K hK => ?_)
                                      · skip
                                        refine value_ (w1 := ?_) (v := ?_) (by rfl) rfl ?_ ?_
                                        rotate_left 2
                                        · go_simp
                                          constructor
                                          · rfl
                                          · rfl
                                        have hN := (hSep.out).litRow (enc := Value.int .i64) (h1 := fun _ => rfl) (e := 3) kinds18 (by decide)
                                        refine hK.out _ _ trivial (fun hHeld => ?_)
                                        clear hK K
                                        refine norm_ (a' := ?_) ?_ ?_
                                        rotate_left
                                        · show Act.put _ (some 10) _ = _
                                          simp only [aP]
                                          rfl
                                        refine pu_ 7 16 ?_ #[J,J,J,J,J,J,J,J,Z,J,J,J,J,Z,J,J,J,J,J,Z,J,J,J,J,J,J,Z,Z,Z,Z,Z] rfl rfl ?_ ?_ ?_ ?_
                                        rotate_left
                                        · intro w'
                                          go_simp
                                          with_reducible rfl
                                        rotate_left
                                        · simp only [aP]
                                          rfl
                                        exact norm_ (by first | (simp only [putAll, Act.put, List.setIfInBounds_toArray, List.set_cons_zero, List.set_cons_succ]; done) | (simp only [putAll, Act.put, List.setIfInBounds_toArray, List.set_cons_zero, List.set_cons_succ]; rfl)) (hJ1_24 ((W_).heap.size, v24_) _ hN)
                                      · skip
                                        refine value_ (w1 := ?_) (v := ?_) (by rfl) rfl ?_ ?_
                                        rotate_left 2
                                        · go_simp
                                          constructor
                                          · rfl
                                          · rfl
                                        have hN := (hSep.out).litRow (enc := Value.int .i64) (h1 := fun _ => rfl) (e := 3) [64, (m5 : Int), (k : Int), 64, 0, 64, 20] (by simp)
                                        refine hK.out _ _ trivial (fun hHeld => ?_)
                                        clear hK K
                                        refine norm_ (a' := ?_) ?_ ?_
                                        rotate_left
                                        · show Act.put _ (some 22) _ = _
                                          simp only [aP]
                                          rfl
                                        refine pu_ 19 28 ?_ #[J,Z,J,J,J,J,J,Z,Z,J,J,J,J,J,J,J,J,J,J,J,J,J,J,J,J,J,Z,Z,Z,Z,Z] rfl rfl ?_ ?_ ?_ ?_
                                        rotate_left
                                        · intro w'
                                          go_simp
                                          with_reducible rfl
                                        rotate_left
                                        · simp only [aP]
                                          rfl
                                        exact norm_ (by first | (simp only [putAll, Act.put, List.setIfInBounds_toArray, List.set_cons_zero, List.set_cons_succ]; done) | (simp only [putAll, Act.put, List.setIfInBounds_toArray, List.set_cons_zero, List.set_cons_succ]; rfl)) (hJ13_24 ((W_).heap.size, v24_) _ hN)
                                      · skip
                                        refine value_ (w1 := ?_) (v := ?_) (by rfl) rfl ?_ ?_
                                        rotate_left 2
                                        · go_simp
                                          constructor
                                          · rfl
                                          · rfl
                                        have hN := chFx (pg := (pg : Int)) ((hSep.out))
                                        refine hK.out _ _ trivial (fun hHeld => ?_)
                                        clear hK K
                                        refine norm_ (a' := ?_) ?_ ?_
                                        rotate_left
                                        · show Act.put _ (some 35) _ = _
                                          simp only [aP]
                                          rfl
                                        exact norm_ (by first | (simp only [putAll, Act.put, List.setIfInBounds_toArray, List.set_cons_zero, List.set_cons_succ]; done) | (simp only [putAll, Act.put, List.setIfInBounds_toArray, List.set_cons_zero, List.set_cons_succ]; rfl)) (hJ24_26 (v24_, (W_).heap.size) _ hN)
                                  · skip
                                    rintro v13_ W_ hQ_
                                    have hSep : Aside0 (Sep w W_ ((Row I64 3 (.slice (some ⟨(v13_), 0, none⟩) 7 7) [64, (m5 : Int), (k : Int), 64, 0, 64, 20]) :: (Row (Kd.raw 4) 83 u3 cs0 :: Fx (Each KA ys cs0) :: []))) := ⟨hQ_⟩
                                    clear hQ_
                                    have hHeld := trivial
                                    refine norm_ (a' := ?_) ?_ ?_
                                    rotate_left
                                    · simp only [putAll, Act.put, List.setIfInBounds_toArray, List.set_cons_zero, List.set_cons_succ]
                                      rfl
                                    refine two_ (i := 1) (j := 24) (Ni := some 10) (Nj := some 33) #[J,J,J,J,J,J,J,Z,Z,J,J,J,J,J,J,J,J,J,J,J,J,J,J,J,Z,Z,Z,Z,Z,Z,Z] #[J,Z,J,J,J,J,J,Z,Z,J,J,J,J,J,J,J,J,J,J,J,J,J,J,J,J,Z,Z,Z,Z,Z,Z] rfl rfl rfl rfl (by kernel_rfl) (by decide) (by decide) (fun K hK => ?_) (fun K hK => ?_)
                                    · skip
                                      refine value_ (w1 := ?_) (v := ?_) (by rfl) rfl ?_ ?_
                                      rotate_left 2
                                      · go_simp
                                        constructor
                                        · rfl
                                        · rfl
                                      have hN := (hSep.out).litRow (enc := Value.int .i64) (h1 := fun _ => rfl) (e := 3) kinds18 (by decide)
                                      refine hK.out _ _ trivial (fun hHeld => ?_)
                                      clear hK K
                                      refine norm_ (a' := ?_) ?_ ?_
                                      rotate_left
                                      · show Act.put _ (some 10) _ = _
                                        simp only [aP]
                                        rfl
                                      refine pu_ 7 16 ?_ #[J,J,J,J,J,J,J,J,Z,J,J,J,J,J,J,J,J,J,J,J,J,J,J,J,Z,Z,Z,Z,Z,Z,Z] rfl rfl ?_ ?_ ?_ ?_
                                      rotate_left
                                      · intro w'
                                        go_simp
                                        with_reducible rfl
                                      rotate_left
                                      · simp only [aP]
                                        rfl
                                      exact norm_ (by first | (simp only [putAll, Act.put, List.setIfInBounds_toArray, List.set_cons_zero, List.set_cons_succ]; done) | (simp only [putAll, Act.put, List.setIfInBounds_toArray, List.set_cons_zero, List.set_cons_succ]; rfl)) (hJ1_13 ((W_).heap.size, v13_) _ hN)
                                    · skip
                                      refine goes_ Tryz.func42 (by kernel_rfl) rfl #[.int .u8 bx] (by rfl) rfl rfl (by simp only [List.map_toArray, List.map_cons, List.map_nil]; rfl) ?_
                                      with_reducible refine (sectorQ bx _).mono ?_
                                      rintro e wn_ ⟨vn_, rfl, hS_⟩
                                      refine ⟨_, rfl, ?_⟩
                                      have hN := (hSep.out).lift1 hS_
                                      clear hS_
                                      refine hK.out _ _ trivial (fun hHeld => ?_)
                                      clear hK K
                                      refine norm_ (a' := ?_) ?_ ?_
                                      rotate_left
                                      · show Act.put _ (some 33) _ = _
                                        simp only [aP]
                                        rfl
                                      refine pu_ 25 34 ?_ #[J,Z,J,J,J,J,J,Z,Z,J,J,J,J,J,J,J,J,J,J,J,J,J,J,J,J,J,Z,Z,Z,Z,Z] rfl rfl ?_ ?_ ?_ ?_
                                      rotate_left
                                      · intro w'
                                        go_simp
                                        with_reducible rfl
                                      rotate_left
                                      · simp only [aP]
                                        rfl
                                      exact norm_ (by first | (simp only [putAll, Act.put, List.setIfInBounds_toArray, List.set_cons_zero, List.set_cons_succ]; done) | (simp only [putAll, Act.put, List.setIfInBounds_toArray, List.set_cons_zero, List.set_cons_succ]; rfl)) (hJ13_24 (v13_, vn_) _ hN.at2)
                                · skip
                                  rintro v1_ W_ hQ_
                                  have hSep : Aside0 (Sep w W_ ((Row I64 3 (.slice (some ⟨(v1_), 0, none⟩) 11 11) kinds18) :: (Row (Kd.raw 4) 83 u3 cs0 :: Fx (Each KA ys cs0) :: []))) := ⟨hQ_⟩
                                  clear hQ_
                                  have hHeld := trivial
                                  refine norm_ (a' := ?_) ?_ ?_
                                  rotate_left
                                  · simp only [putAll, Act.put, List.setIfInBounds_toArray, List.set_cons_zero, List.set_cons_succ]
                                    rfl
                                  refine three_ (i := 8) (j := 13) (k := 24) (Ni := some 17) (Nj := some 22) (Nk := some 33) #[J,J,J,J,J,J,J,J,J,J,J,J,J,Z,J,J,J,J,J,Z,J,J,J,J,Z,Z,Z,Z,Z,Z,Z] #[J,J,J,J,J,J,J,J,Z,J,J,J,J,J,J,J,J,J,J,Z,J,J,J,J,Z,Z,Z,Z,Z,Z,Z] #[J,J,J,J,J,J,J,J,Z,J,J,J,J,Z,J,J,J,J,J,Z,J,J,J,J,J,Z,Z,Z,Z,Z,Z] rfl rfl rfl rfl rfl rfl (by kernel_rfl) (by decide) (by decide) (by decide) (fun K hK => ?_) (fun K hK => ?_) (fun K hK => ?_)
                                  · skip
                                    have hs_ := (((hSep.out)).rowCell (enc := Value.int .i64) 0 ki HKI.out).1
                                    rw [HKX.out] at hs_
                                    refine value_ (w1 := ?_) (v := ?_) (by rfl) rfl ?_ ?_
                                    rotate_left 2
                                    · go_simp
                                      constructor
                                      · rfl
                                      · rfl
                                    have hN := ((hSep.out)).tail.unpu (rfl : KX = KX)
                                    refine hK.out _ _ trivial (fun hHeld => ?_)
                                    clear hK K
                                    refine norm_ (a' := ?_) ?_ ?_
                                    rotate_left
                                    · show Act.put _ (some 17) _ = _
                                      simp only [aP]
                                      rfl
                                    exact norm_ (by first | (simp only [putAll, Act.put, List.setIfInBounds_toArray, List.set_cons_zero, List.set_cons_succ]; done) | (simp only [putAll, Act.put, List.setIfInBounds_toArray, List.set_cons_zero, List.set_cons_succ]; rfl)) (hJ1_8 (v1_, KX) _ hN)
                                  · skip
                                    refine value_ (w1 := ?_) (v := ?_) (by rfl) rfl ?_ ?_
                                    rotate_left 2
                                    · go_simp
                                      constructor
                                      · rfl
                                      · rfl
                                    have hN := (hSep.out).litRow (enc := Value.int .i64) (h1 := fun _ => rfl) (e := 3) [64, (m5 : Int), (k : Int), 64, 0, 64, 20] (by simp)
                                    refine hK.out _ _ trivial (fun hHeld => ?_)
                                    clear hK K
                                    refine norm_ (a' := ?_) ?_ ?_
                                    rotate_left
                                    · show Act.put _ (some 22) _ = _
                                      simp only [aP]
                                      rfl
                                    refine pu_ 19 28 ?_ #[J,J,J,J,J,J,J,J,Z,J,J,J,J,J,J,J,J,J,J,J,J,J,J,J,Z,Z,Z,Z,Z,Z,Z] rfl rfl ?_ ?_ ?_ ?_
                                    rotate_left
                                    · intro w'
                                      go_simp
                                      with_reducible rfl
                                    rotate_left
                                    · simp only [aP]
                                      rfl
                                    exact norm_ (by first | (simp only [putAll, Act.put, List.setIfInBounds_toArray, List.set_cons_zero, List.set_cons_succ]; done) | (simp only [putAll, Act.put, List.setIfInBounds_toArray, List.set_cons_zero, List.set_cons_succ]; rfl)) (hJ1_13 (v1_, (W_).heap.size) _ hN.at2)
                                  · skip
                                    refine goes_ Tryz.func42 (by kernel_rfl) rfl #[.int .u8 bx] (by rfl) rfl rfl (by simp only [List.map_toArray, List.map_cons, List.map_nil]; rfl) ?_
                                    with_reducible refine (sectorQ bx _).mono ?_
                                    rintro e wn_ ⟨vn_, rfl, hS_⟩
                                    refine ⟨_, rfl, ?_⟩
                                    have hN := (hSep.out).lift1 hS_
                                    clear hS_
                                    refine hK.out _ _ trivial (fun hHeld => ?_)
                                    clear hK K
                                    refine norm_ (a' := ?_) ?_ ?_
                                    rotate_left
                                    · show Act.put _ (some 33) _ = _
                                      simp only [aP]
                                      rfl
                                    refine pu_ 25 34 ?_ #[J,J,J,J,J,J,J,J,Z,J,J,J,J,Z,J,J,J,J,J,Z,J,J,J,J,J,J,Z,Z,Z,Z,Z] rfl rfl ?_ ?_ ?_ ?_
                                    rotate_left
                                    · intro w'
                                      go_simp
                                      with_reducible rfl
                                    rotate_left
                                    · simp only [aP]
                                      rfl
                                    exact norm_ (by first | (simp only [putAll, Act.put, List.setIfInBounds_toArray, List.set_cons_zero, List.set_cons_succ]; done) | (simp only [putAll, Act.put, List.setIfInBounds_toArray, List.set_cons_zero, List.set_cons_succ]; rfl)) (hJ1_24 (v1_, vn_) _ hN.at2)
                              · skip
                                rintro ⟨v24_, v26_⟩ W_ hQ_
                                have hSep : Aside0 (Sep w W_ ((Fx (fun W' => KC.C W' (some ⟨(v26_), 0, none⟩) 1 [((pg : Int), sectF bx)])) :: (Row (Kd.raw 4) 83 u3 cs0 :: Fx (Each KA ys cs0) :: []))) := ⟨hQ_⟩
                                clear hQ_
                                have hHeld := trivial
                                refine norm_ (a' := ?_) ?_ ?_
                                rotate_left
                                · simp only [putAll, Act.put, List.setIfInBounds_toArray, List.set_cons_zero, List.set_cons_succ]
                                  rfl
                                refine two_ (i := 1) (j := 13) (Ni := some 10) (Nj := some 22) #[J,J,J,J,J,J,J,Z,Z,J,J,J,J,Z,J,J,J,J,J,Z,J,J,J,J,J,J,J,Z,Z,Z,Z] #[J,Z,J,J,J,J,J,Z,Z,J,J,J,J,J,J,J,J,J,J,Z,J,J,J,J,J,J,J,Z,Z,Z,Z] rfl rfl rfl rfl (by kernel_rfl) (by decide) (by decide) (fun K hK => ?_) (fun K hK => ?_)
                                · skip
                                  refine value_ (w1 := ?_) (v := ?_) (by rfl) rfl ?_ ?_
                                  rotate_left 2
                                  · go_simp
                                    constructor
                                    · rfl
                                    · rfl
                                  have hN := (hSep.out).litRow (enc := Value.int .i64) (h1 := fun _ => rfl) (e := 3) kinds18 (by decide)
                                  refine hK.out _ _ trivial (fun hHeld => ?_)
                                  clear hK K
                                  refine norm_ (a' := ?_) ?_ ?_
                                  rotate_left
                                  · show Act.put _ (some 10) _ = _
                                    simp only [aP]
                                    rfl
                                  refine pu_ 7 16 ?_ #[J,J,J,J,J,J,J,J,Z,J,J,J,J,Z,J,J,J,J,J,Z,J,J,J,J,J,J,J,Z,Z,Z,Z] rfl rfl ?_ ?_ ?_ ?_
                                  rotate_left
                                  · intro w'
                                    go_simp
                                    with_reducible rfl
                                  rotate_left
                                  · simp only [aP]
                                    rfl
                                  exact norm_ (by first | (simp only [putAll, Act.put, List.setIfInBounds_toArray, List.set_cons_zero, List.set_cons_succ]; done) | (simp only [putAll, Act.put, List.setIfInBounds_toArray, List.set_cons_zero, List.set_cons_succ]; rfl)) (hJ1_24_26 ((W_).heap.size, v24_, v26_) _ hN)
                                · skip
                                  refine value_ (w1 := ?_) (v := ?_) (by rfl) rfl ?_ ?_
                                  rotate_left 2
                                  · go_simp
                                    constructor
                                    · rfl
                                    · rfl
                                  have hN := (hSep.out).litRow (enc := Value.int .i64) (h1 := fun _ => rfl) (e := 3) [64, (m5 : Int), (k : Int), 64, 0, 64, 20] (by simp)
                                  refine hK.out _ _ trivial (fun hHeld => ?_)
                                  clear hK K
                                  refine norm_ (a' := ?_) ?_ ?_
                                  rotate_left
                                  · show Act.put _ (some 22) _ = _
                                    simp only [aP]
                                    rfl
                                  refine pu_ 19 28 ?_ #[J,Z,J,J,J,J,J,Z,Z,J,J,J,J,J,J,J,J,J,J,J,J,J,J,J,J,J,J,Z,Z,Z,Z] rfl rfl ?_ ?_ ?_ ?_
                                  rotate_left
                                  · intro w'
                                    go_simp
                                    with_reducible rfl
                                  rotate_left
                                  · simp only [aP]
                                    rfl
                                  exact norm_ (by first | (simp only [putAll, Act.put, List.setIfInBounds_toArray, List.set_cons_zero, List.set_cons_succ]; done) | (simp only [putAll, Act.put, List.setIfInBounds_toArray, List.set_cons_zero, List.set_cons_succ]; rfl)) (hJ13_24_26 ((W_).heap.size, v24_, v26_) _ hN)
                            · skip
                              rintro ⟨v13_, v24_⟩ W_ hQ_
                              have hSep : Aside0 (Sep w W_ ((Row I64 3 (.slice (some ⟨(v13_), 0, none⟩) 7 7) [64, (m5 : Int), (k : Int), 64, 0, 64, 20]) :: (Row U8 5 (.slice ((v24_)).1 64 ((v24_)).2) (sectF bx)) :: (Row (Kd.raw 4) 83 u3 cs0 :: Fx (Each KA ys cs0) :: []))) := ⟨hQ_⟩
                              clear hQ_
                              have hHeld := trivial
                              refine norm_ (a' := ?_) ?_ ?_
                              rotate_left
                              · simp only [putAll, Act.put, List.setIfInBounds_toArray, List.set_cons_zero, List.set_cons_succ]
                                rfl
                              refine two_ (i := 1) (j := 26) (Ni := some 10) (Nj := some 35) #[J,J,J,J,J,J,J,Z,Z,J,J,J,J,J,J,J,J,J,J,J,J,J,J,J,J,J,Z,Z,Z,Z,Z] #[J,Z,J,J,J,J,J,Z,Z,J,J,J,J,J,J,J,J,J,J,J,J,J,J,J,J,J,J,Z,Z,Z,Z] rfl rfl rfl rfl (by kernel_rfl) (by decide) (by decide) (fun K hK => ?_) (fun K hK => ?_)
                              · skip
                                refine value_ (w1 := ?_) (v := ?_) (by rfl) rfl ?_ ?_
                                rotate_left 2
                                · go_simp
                                  constructor
                                  · rfl
                                  · rfl
                                have hN := (hSep.out).litRow (enc := Value.int .i64) (h1 := fun _ => rfl) (e := 3) kinds18 (by decide)
                                refine hK.out _ _ trivial (fun hHeld => ?_)
                                clear hK K
                                refine norm_ (a' := ?_) ?_ ?_
                                rotate_left
                                · show Act.put _ (some 10) _ = _
                                  simp only [aP]
                                  rfl
                                refine pu_ 7 16 ?_ #[J,J,J,J,J,J,J,J,Z,J,J,J,J,J,J,J,J,J,J,J,J,J,J,J,J,J,Z,Z,Z,Z,Z] rfl rfl ?_ ?_ ?_ ?_
                                rotate_left
                                · intro w'
                                  go_simp
                                  with_reducible rfl
                                rotate_left
                                · simp only [aP]
                                  rfl
                                exact norm_ (by first | (simp only [putAll, Act.put, List.setIfInBounds_toArray, List.set_cons_zero, List.set_cons_succ]; done) | (simp only [putAll, Act.put, List.setIfInBounds_toArray, List.set_cons_zero, List.set_cons_succ]; rfl)) (hJ1_13_24 ((W_).heap.size, v13_, v24_) _ hN)
                              · skip
                                refine value_ (w1 := ?_) (v := ?_) (by rfl) rfl ?_ ?_
                                rotate_left 2
                                · go_simp
                                  constructor
                                  · rfl
                                  · rfl
                                have hN := chFx (pg := (pg : Int)) ((hSep.out).at2)
                                refine hK.out _ _ trivial (fun hHeld => ?_)
                                clear hK K
                                refine norm_ (a' := ?_) ?_ ?_
                                rotate_left
                                · show Act.put _ (some 35) _ = _
                                  simp only [aP]
                                  rfl
                                exact norm_ (by first | (simp only [putAll, Act.put, List.setIfInBounds_toArray, List.set_cons_zero, List.set_cons_succ]; done) | (simp only [putAll, Act.put, List.setIfInBounds_toArray, List.set_cons_zero, List.set_cons_succ]; rfl)) (hJ13_24_26 (v13_, v24_, (W_).heap.size) _ hN.at2)
                          · skip
                            rintro ⟨v1_, v24_⟩ W_ hQ_
                            have hSep : Aside0 (Sep w W_ ((Row I64 3 (.slice (some ⟨(v1_), 0, none⟩) 11 11) kinds18) :: (Row U8 5 (.slice ((v24_)).1 64 ((v24_)).2) (sectF bx)) :: (Row (Kd.raw 4) 83 u3 cs0 :: Fx (Each KA ys cs0) :: []))) := ⟨hQ_⟩
                            clear hQ_
                            have hHeld := trivial
                            refine norm_ (a' := ?_) ?_ ?_
                            rotate_left
                            · simp only [putAll, Act.put, List.setIfInBounds_toArray, List.set_cons_zero, List.set_cons_succ]
                              rfl
                            refine three_ (i := 8) (j := 13) (k := 26) (Ni := some 17) (Nj := some 22) (Nk := some 35) #[J,J,J,J,J,J,J,J,J,J,J,J,J,Z,J,J,J,J,J,Z,J,J,J,J,J,J,Z,Z,Z,Z,Z] #[J,J,J,J,J,J,J,J,Z,J,J,J,J,J,J,J,J,J,J,Z,J,J,J,J,J,J,Z,Z,Z,Z,Z] #[J,J,J,J,J,J,J,J,Z,J,J,J,J,Z,J,J,J,J,J,Z,J,J,J,J,J,J,J,Z,Z,Z,Z] rfl rfl rfl rfl rfl rfl (by kernel_rfl) (by decide) (by decide) (by decide) (fun K hK => ?_) (fun K hK => ?_) (fun K hK => ?_)
                            · skip
                              have hs_ := (((hSep.out)).rowCell (enc := Value.int .i64) 0 ki HKI.out).1
                              rw [HKX.out] at hs_
                              refine value_ (w1 := ?_) (v := ?_) (by rfl) rfl ?_ ?_
                              rotate_left 2
                              · go_simp
                                constructor
                                · rfl
                                · rfl
                              have hN := ((hSep.out)).tail.unpu (rfl : KX = KX)
                              refine hK.out _ _ trivial (fun hHeld => ?_)
                              clear hK K
                              refine norm_ (a' := ?_) ?_ ?_
                              rotate_left
                              · show Act.put _ (some 17) _ = _
                                simp only [aP]
                                rfl
                              exact norm_ (by first | (simp only [putAll, Act.put, List.setIfInBounds_toArray, List.set_cons_zero, List.set_cons_succ]; done) | (simp only [putAll, Act.put, List.setIfInBounds_toArray, List.set_cons_zero, List.set_cons_succ]; rfl)) (hJ1_8_24 (v1_, KX, v24_) _ hN)
                            · skip
                              refine value_ (w1 := ?_) (v := ?_) (by rfl) rfl ?_ ?_
                              rotate_left 2
                              · go_simp
                                constructor
                                · rfl
                                · rfl
                              have hN := (hSep.out).litRow (enc := Value.int .i64) (h1 := fun _ => rfl) (e := 3) [64, (m5 : Int), (k : Int), 64, 0, 64, 20] (by simp)
                              refine hK.out _ _ trivial (fun hHeld => ?_)
                              clear hK K
                              refine norm_ (a' := ?_) ?_ ?_
                              rotate_left
                              · show Act.put _ (some 22) _ = _
                                simp only [aP]
                                rfl
                              refine pu_ 19 28 ?_ #[J,J,J,J,J,J,J,J,Z,J,J,J,J,J,J,J,J,J,J,J,J,J,J,J,J,J,Z,Z,Z,Z,Z] rfl rfl ?_ ?_ ?_ ?_
                              rotate_left
                              · intro w'
                                go_simp
                                with_reducible rfl
                              rotate_left
                              · simp only [aP]
                                rfl
                              exact norm_ (by first | (simp only [putAll, Act.put, List.setIfInBounds_toArray, List.set_cons_zero, List.set_cons_succ]; done) | (simp only [putAll, Act.put, List.setIfInBounds_toArray, List.set_cons_zero, List.set_cons_succ]; rfl)) (hJ1_13_24 (v1_, (W_).heap.size, v24_) _ hN.at2)
                            · skip
                              refine value_ (w1 := ?_) (v := ?_) (by rfl) rfl ?_ ?_
                              rotate_left 2
                              · go_simp
                                constructor
                                · rfl
                                · rfl
                              have hN := chFx (pg := (pg : Int)) ((hSep.out).at2)
                              refine hK.out _ _ trivial (fun hHeld => ?_)
                              clear hK K
                              refine norm_ (a' := ?_) ?_ ?_
                              rotate_left
                              · show Act.put _ (some 35) _ = _
                                simp only [aP]
                                rfl
                              exact norm_ (by first | (simp only [putAll, Act.put, List.setIfInBounds_toArray, List.set_cons_zero, List.set_cons_succ]; done) | (simp only [putAll, Act.put, List.setIfInBounds_toArray, List.set_cons_zero, List.set_cons_succ]; rfl)) (hJ1_24_26 (v1_, v24_, (W_).heap.size) _ hN.at2)
                        · skip
                          rintro ⟨v1_, v13_⟩ W_ hQ_
                          have hSep : Aside0 (Sep w W_ ((Row I64 3 (.slice (some ⟨(v1_), 0, none⟩) 11 11) kinds18) :: (Row I64 3 (.slice (some ⟨(v13_), 0, none⟩) 7 7) [64, (m5 : Int), (k : Int), 64, 0, 64, 20]) :: (Row (Kd.raw 4) 83 u3 cs0 :: Fx (Each KA ys cs0) :: []))) := ⟨hQ_⟩
                          clear hQ_
                          have hHeld := trivial
                          refine norm_ (a' := ?_) ?_ ?_
                          rotate_left
                          · simp only [putAll, Act.put, List.setIfInBounds_toArray, List.set_cons_zero, List.set_cons_succ]
                            rfl
                          refine two_ (i := 8) (j := 24) (Ni := some 17) (Nj := some 33) #[J,J,J,J,J,J,J,J,J,J,J,J,J,J,J,J,J,J,J,J,J,J,J,J,Z,Z,Z,Z,Z,Z,Z] #[J,J,J,J,J,J,J,J,Z,J,J,J,J,J,J,J,J,J,J,J,J,J,J,J,J,Z,Z,Z,Z,Z,Z] rfl rfl rfl rfl (by kernel_rfl) (by decide) (by decide) (fun K hK => ?_) (fun K hK => ?_)
                          · skip
                            have hs_ := (((hSep.out)).rowCell (enc := Value.int .i64) 0 ki HKI.out).1
                            rw [HKX.out] at hs_
                            refine value_ (w1 := ?_) (v := ?_) (by rfl) rfl ?_ ?_
                            rotate_left 2
                            · go_simp
                              constructor
                              · rfl
                              · rfl
                            have hN := ((hSep.out)).tail.unpu (rfl : KX = KX)
                            refine hK.out _ _ trivial (fun hHeld => ?_)
                            clear hK K
                            refine norm_ (a' := ?_) ?_ ?_
                            rotate_left
                            · show Act.put _ (some 17) _ = _
                              simp only [aP]
                              rfl
                            exact norm_ (by first | (simp only [putAll, Act.put, List.setIfInBounds_toArray, List.set_cons_zero, List.set_cons_succ]; done) | (simp only [putAll, Act.put, List.setIfInBounds_toArray, List.set_cons_zero, List.set_cons_succ]; rfl)) (hJ1_8_13 (v1_, KX, v13_) _ hN)
                          · skip
                            refine goes_ Tryz.func42 (by kernel_rfl) rfl #[.int .u8 bx] (by rfl) rfl rfl (by simp only [List.map_toArray, List.map_cons, List.map_nil]; rfl) ?_
                            with_reducible refine (sectorQ bx _).mono ?_
                            rintro e wn_ ⟨vn_, rfl, hS_⟩
                            refine ⟨_, rfl, ?_⟩
                            have hN := (hSep.out).lift1 hS_
                            clear hS_
                            refine hK.out _ _ trivial (fun hHeld => ?_)
                            clear hK K
                            refine norm_ (a' := ?_) ?_ ?_
                            rotate_left
                            · show Act.put _ (some 33) _ = _
                              simp only [aP]
                              rfl
                            refine pu_ 25 34 ?_ #[J,J,J,J,J,J,J,J,Z,J,J,J,J,J,J,J,J,J,J,J,J,J,J,J,J,J,Z,Z,Z,Z,Z] rfl rfl ?_ ?_ ?_ ?_
                            rotate_left
                            · intro w'
                              go_simp
                              with_reducible rfl
                            rotate_left
                            · simp only [aP]
                              rfl
                            exact norm_ (by first | (simp only [putAll, Act.put, List.setIfInBounds_toArray, List.set_cons_zero, List.set_cons_succ]; done) | (simp only [putAll, Act.put, List.setIfInBounds_toArray, List.set_cons_zero, List.set_cons_succ]; rfl)) (hJ1_13_24 (v1_, v13_, vn_) _ hN.to3)
                      · skip
                        rintro ⟨v1_, v8_⟩ W_ hQ_
                        have hSep : Aside0 (Sep w W_ ((Pu ((v8_) = KX)) :: (Row (Kd.raw 4) 83 u3 cs0 :: Fx (Each KA ys cs0) :: []))) := ⟨hQ_⟩
                        clear hQ_
                        have hHeld := trivial
                        refine norm_ (a' := ?_) ?_ ?_
                        rotate_left
                        · simp only [putAll, Act.put, List.setIfInBounds_toArray, List.set_cons_zero, List.set_cons_succ]
                          rfl
                        refine two_ (i := 13) (j := 24) (Ni := some 22) (Nj := some 33) #[J,J,J,J,J,J,J,J,J,J,J,J,J,J,J,J,J,J,J,Z,J,J,J,J,Z,Z,Z,Z,Z,Z,Z] #[J,J,J,J,J,J,J,J,J,J,J,J,J,Z,J,J,J,J,J,Z,J,J,J,J,J,Z,Z,Z,Z,Z,Z] rfl rfl rfl rfl (by kernel_rfl) (by decide) (by decide) (fun K hK => ?_) (fun K hK => ?_)
                        · skip
                          refine value_ (w1 := ?_) (v := ?_) (by rfl) rfl ?_ ?_
                          rotate_left 2
                          · go_simp
                            constructor
                            · rfl
                            · rfl
                          have hN := (hSep.out).litRow (enc := Value.int .i64) (h1 := fun _ => rfl) (e := 3) [64, (m5 : Int), (k : Int), 64, 0, 64, 20] (by simp)
                          refine hK.out _ _ trivial (fun hHeld => ?_)
                          clear hK K
                          refine norm_ (a' := ?_) ?_ ?_
                          rotate_left
                          · show Act.put _ (some 22) _ = _
                            simp only [aP]
                            rfl
                          refine pu_ 19 28 ?_ #[J,J,J,J,J,J,J,J,J,J,J,J,J,J,J,J,J,J,J,J,J,J,J,J,Z,Z,Z,Z,Z,Z,Z] rfl rfl ?_ ?_ ?_ ?_
                          rotate_left
                          · intro w'
                            go_simp
                            with_reducible rfl
                          rotate_left
                          · simp only [aP]
                            rfl
                          exact norm_ (by first | (simp only [putAll, Act.put, List.setIfInBounds_toArray, List.set_cons_zero, List.set_cons_succ]; done) | (simp only [putAll, Act.put, List.setIfInBounds_toArray, List.set_cons_zero, List.set_cons_succ]; rfl)) (hJ1_8_13 (v1_, v8_, (W_).heap.size) _ hN.at2)
                        · skip
                          refine goes_ Tryz.func42 (by kernel_rfl) rfl #[.int .u8 bx] (by rfl) rfl rfl (by simp only [List.map_toArray, List.map_cons, List.map_nil]; rfl) ?_
                          with_reducible refine (sectorQ bx _).mono ?_
                          rintro e wn_ ⟨vn_, rfl, hS_⟩
                          refine ⟨_, rfl, ?_⟩
                          have hN := (hSep.out).lift1 hS_
                          clear hS_
                          refine hK.out _ _ trivial (fun hHeld => ?_)
                          clear hK K
                          refine norm_ (a' := ?_) ?_ ?_
                          rotate_left
                          · show Act.put _ (some 33) _ = _
                            simp only [aP]
                            rfl
                          refine pu_ 25 34 ?_ #[J,J,J,J,J,J,J,J,J,J,J,J,J,Z,J,J,J,J,J,Z,J,J,J,J,J,J,Z,Z,Z,Z,Z] rfl rfl ?_ ?_ ?_ ?_
                          rotate_left
                          · intro w'
                            go_simp
                            with_reducible rfl
                          rotate_left
                          · simp only [aP]
                            rfl
                          exact norm_ (by first | (simp only [putAll, Act.put, List.setIfInBounds_toArray, List.set_cons_zero, List.set_cons_succ]; done) | (simp only [putAll, Act.put, List.setIfInBounds_toArray, List.set_cons_zero, List.set_cons_succ]; rfl)) (hJ1_8_24 (v1_, v8_, vn_) _ hN.at2)
                    · skip
                      rintro ⟨v13_, v24_, v26_⟩ W_ hQ_
                      have hSep : Aside0 (Sep w W_ ((Row I64 3 (.slice (some ⟨(v13_), 0, none⟩) 7 7) [64, (m5 : Int), (k : Int), 64, 0, 64, 20]) :: (Fx (fun W' => KC.C W' (some ⟨(v26_), 0, none⟩) 1 [((pg : Int), sectF bx)])) :: (Row (Kd.raw 4) 83 u3 cs0 :: Fx (Each KA ys cs0) :: []))) := ⟨hQ_⟩
                      clear hQ_
                      have hHeld := trivial
                      refine norm_ (a' := ?_) ?_ ?_
                      rotate_left
                      · simp only [putAll, Act.put, List.setIfInBounds_toArray, List.set_cons_zero, List.set_cons_succ]
                        rfl
                      refine one_ (i := 1) (N := some 10) #[J,J,J,J,J,J,J,Z,Z,J,J,J,J,J,J,J,J,J,J,J,J,J,J,J,J,J,J,Z,Z,Z,Z] rfl rfl (by kernel_rfl) (by decide) (fun K hK => ?_)
                      refine value_ (w1 := ?_) (v := ?_) (by rfl) rfl ?_ ?_
                      rotate_left 2
                      · go_simp
                        constructor
                        · rfl
                        · rfl
                      have hN := (hSep.out).litRow (enc := Value.int .i64) (h1 := fun _ => rfl) (e := 3) kinds18 (by decide)
                      refine hK.out _ _ trivial (fun hHeld => ?_)
                      clear hK K
                      refine norm_ (a' := ?_) ?_ ?_
                      rotate_left
                      · show Act.put _ (some 10) _ = _
                        simp only [aP]
                        rfl
                      refine pu_ 7 16 ?_ #[J,J,J,J,J,J,J,J,Z,J,J,J,J,J,J,J,J,J,J,J,J,J,J,J,J,J,J,Z,Z,Z,Z] rfl rfl ?_ ?_ ?_ ?_
                      rotate_left
                      · intro w'
                        go_simp
                        with_reducible rfl
                      rotate_left
                      · simp only [aP]
                        rfl
                      exact norm_ (by first | (simp only [putAll, Act.put, List.setIfInBounds_toArray, List.set_cons_zero, List.set_cons_succ]; done) | (simp only [putAll, Act.put, List.setIfInBounds_toArray, List.set_cons_zero, List.set_cons_succ]; rfl)) (hJ1_13_24_26 ((W_).heap.size, v13_, v24_, v26_) _ hN)
                  · skip
                    rintro ⟨v1_, v24_, v26_⟩ W_ hQ_
                    have hSep : Aside0 (Sep w W_ ((Row I64 3 (.slice (some ⟨(v1_), 0, none⟩) 11 11) kinds18) :: (Fx (fun W' => KC.C W' (some ⟨(v26_), 0, none⟩) 1 [((pg : Int), sectF bx)])) :: (Row (Kd.raw 4) 83 u3 cs0 :: Fx (Each KA ys cs0) :: []))) := ⟨hQ_⟩
                    clear hQ_
                    have hHeld := trivial
                    refine norm_ (a' := ?_) ?_ ?_
                    rotate_left
                    · simp only [putAll, Act.put, List.setIfInBounds_toArray, List.set_cons_zero, List.set_cons_succ]
                      rfl
                    refine two_ (i := 8) (j := 13) (Ni := some 17) (Nj := some 22) #[J,J,J,J,J,J,J,J,J,J,J,J,J,Z,J,J,J,J,J,Z,J,J,J,J,J,J,J,Z,Z,Z,Z] #[J,J,J,J,J,J,J,J,Z,J,J,J,J,J,J,J,J,J,J,Z,J,J,J,J,J,J,J,Z,Z,Z,Z] rfl rfl rfl rfl (by kernel_rfl) (by decide) (by decide) (fun K hK => ?_) (fun K hK => ?_)
                    · skip
                      have hs_ := (((hSep.out)).rowCell (enc := Value.int .i64) 0 ki HKI.out).1
                      rw [HKX.out] at hs_
                      refine value_ (w1 := ?_) (v := ?_) (by rfl) rfl ?_ ?_
                      rotate_left 2
                      · go_simp
                        constructor
                        · rfl
                        · rfl
                      have hN := ((hSep.out)).tail.unpu (rfl : KX = KX)
                      refine hK.out _ _ trivial (fun hHeld => ?_)
                      clear hK K
                      refine norm_ (a' := ?_) ?_ ?_
                      rotate_left
                      · show Act.put _ (some 17) _ = _
                        simp only [aP]
                        rfl
                      exact norm_ (by first | (simp only [putAll, Act.put, List.setIfInBounds_toArray, List.set_cons_zero, List.set_cons_succ]; done) | (simp only [putAll, Act.put, List.setIfInBounds_toArray, List.set_cons_zero, List.set_cons_succ]; rfl)) (hJ1_8_24_26 (v1_, KX, v24_, v26_) _ hN)
                    · skip
                      refine value_ (w1 := ?_) (v := ?_) (by rfl) rfl ?_ ?_
                      rotate_left 2
                      · go_simp
                        constructor
                        · rfl
                        · rfl
                      have hN := (hSep.out).litRow (enc := Value.int .i64) (h1 := fun _ => rfl) (e := 3) [64, (m5 : Int), (k : Int), 64, 0, 64, 20] (by simp)
                      refine hK.out _ _ trivial (fun hHeld => ?_)
                      clear hK K
                      refine norm_ (a' := ?_) ?_ ?_
                      rotate_left
                      · show Act.put _ (some 22) _ = _
                        simp only [aP]
                        rfl
                      refine pu_ 19 28 ?_ #[J,J,J,J,J,J,J,J,Z,J,J,J,J,J,J,J,J,J,J,J,J,J,J,J,J,J,J,Z,Z,Z,Z] rfl rfl ?_ ?_ ?_ ?_
                      rotate_left
                      · intro w'
                        go_simp
                        with_reducible rfl
                      rotate_left
                      · simp only [aP]
                        rfl
                      exact norm_ (by first | (simp only [putAll, Act.put, List.setIfInBounds_toArray, List.set_cons_zero, List.set_cons_succ]; done) | (simp only [putAll, Act.put, List.setIfInBounds_toArray, List.set_cons_zero, List.set_cons_succ]; rfl)) (hJ1_13_24_26 (v1_, (W_).heap.size, v24_, v26_) _ hN.at2)
                · skip
                  rintro ⟨v1_, v13_, v24_⟩ W_ hQ_
                  have hSep : Aside0 (Sep w W_ ((Row I64 3 (.slice (some ⟨(v1_), 0, none⟩) 11 11) kinds18) :: (Row I64 3 (.slice (some ⟨(v13_), 0, none⟩) 7 7) [64, (m5 : Int), (k : Int), 64, 0, 64, 20]) :: (Row U8 5 (.slice ((v24_)).1 64 ((v24_)).2) (sectF bx)) :: (Row (Kd.raw 4) 83 u3 cs0 :: Fx (Each KA ys cs0) :: []))) := ⟨hQ_⟩
                  clear hQ_
                  have hHeld := trivial
                  refine norm_ (a' := ?_) ?_ ?_
                  rotate_left
                  · simp only [putAll, Act.put, List.setIfInBounds_toArray, List.set_cons_zero, List.set_cons_succ]
                    rfl
                  refine two_ (i := 8) (j := 26) (Ni := some 17) (Nj := some 35) #[J,J,J,J,J,J,J,J,J,J,J,J,J,J,J,J,J,J,J,J,J,J,J,J,J,J,Z,Z,Z,Z,Z] #[J,J,J,J,J,J,J,J,Z,J,J,J,J,J,J,J,J,J,J,J,J,J,J,J,J,J,J,Z,Z,Z,Z] rfl rfl rfl rfl (by kernel_rfl) (by decide) (by decide) (fun K hK => ?_) (fun K hK => ?_)
                  · skip
                    have hs_ := (((hSep.out)).rowCell (enc := Value.int .i64) 0 ki HKI.out).1
                    rw [HKX.out] at hs_
                    refine value_ (w1 := ?_) (v := ?_) (by rfl) rfl ?_ ?_
                    rotate_left 2
                    · go_simp
                      constructor
                      · rfl
                      · rfl
                    have hN := ((hSep.out)).tail.unpu (rfl : KX = KX)
                    refine hK.out _ _ trivial (fun hHeld => ?_)
                    clear hK K
                    refine norm_ (a' := ?_) ?_ ?_
                    rotate_left
                    · show Act.put _ (some 17) _ = _
                      simp only [aP]
                      rfl
                    exact norm_ (by first | (simp only [putAll, Act.put, List.setIfInBounds_toArray, List.set_cons_zero, List.set_cons_succ]; done) | (simp only [putAll, Act.put, List.setIfInBounds_toArray, List.set_cons_zero, List.set_cons_succ]; rfl)) (hJ1_8_13_24 (v1_, KX, v13_, v24_) _ hN)
                  · skip
                    refine value_ (w1 := ?_) (v := ?_) (by rfl) rfl ?_ ?_
                    rotate_left 2
                    · go_simp
                      constructor
                      · rfl
                      · rfl
                    have hN := chFx (pg := (pg : Int)) ((hSep.out).at3)
                    refine hK.out _ _ trivial (fun hHeld => ?_)
                    clear hK K
                    refine norm_ (a' := ?_) ?_ ?_
                    rotate_left
                    · show Act.put _ (some 35) _ = _
                      simp only [aP]
                      rfl
                    exact norm_ (by first | (simp only [putAll, Act.put, List.setIfInBounds_toArray, List.set_cons_zero, List.set_cons_succ]; done) | (simp only [putAll, Act.put, List.setIfInBounds_toArray, List.set_cons_zero, List.set_cons_succ]; rfl)) (hJ1_13_24_26 (v1_, v13_, v24_, (W_).heap.size) _ hN.to3)
              · skip
                rintro ⟨v1_, v8_, v24_⟩ W_ hQ_
                have hSep : Aside0 (Sep w W_ ((Pu ((v8_) = KX)) :: (Row U8 5 (.slice ((v24_)).1 64 ((v24_)).2) (sectF bx)) :: (Row (Kd.raw 4) 83 u3 cs0 :: Fx (Each KA ys cs0) :: []))) := ⟨hQ_⟩
                clear hQ_
                have hHeld := trivial
                refine norm_ (a' := ?_) ?_ ?_
                rotate_left
                · simp only [putAll, Act.put, List.setIfInBounds_toArray, List.set_cons_zero, List.set_cons_succ]
                  rfl
                refine two_ (i := 13) (j := 26) (Ni := some 22) (Nj := some 35) #[J,J,J,J,J,J,J,J,J,J,J,J,J,J,J,J,J,J,J,Z,J,J,J,J,J,J,Z,Z,Z,Z,Z] #[J,J,J,J,J,J,J,J,J,J,J,J,J,Z,J,J,J,J,J,Z,J,J,J,J,J,J,J,Z,Z,Z,Z] rfl rfl rfl rfl (by kernel_rfl) (by decide) (by decide) (fun K hK => ?_) (fun K hK => ?_)
                · skip
                  refine value_ (w1 := ?_) (v := ?_) (by rfl) rfl ?_ ?_
                  rotate_left 2
                  · go_simp
                    constructor
                    · rfl
                    · rfl
                  have hN := (hSep.out).litRow (enc := Value.int .i64) (h1 := fun _ => rfl) (e := 3) [64, (m5 : Int), (k : Int), 64, 0, 64, 20] (by simp)
                  refine hK.out _ _ trivial (fun hHeld => ?_)
                  clear hK K
                  refine norm_ (a' := ?_) ?_ ?_
                  rotate_left
                  · show Act.put _ (some 22) _ = _
                    simp only [aP]
                    rfl
                  refine pu_ 19 28 ?_ #[J,J,J,J,J,J,J,J,J,J,J,J,J,J,J,J,J,J,J,J,J,J,J,J,J,J,Z,Z,Z,Z,Z] rfl rfl ?_ ?_ ?_ ?_
                  rotate_left
                  · intro w'
                    go_simp
                    with_reducible rfl
                  rotate_left
                  · simp only [aP]
                    rfl
                  exact norm_ (by first | (simp only [putAll, Act.put, List.setIfInBounds_toArray, List.set_cons_zero, List.set_cons_succ]; done) | (simp only [putAll, Act.put, List.setIfInBounds_toArray, List.set_cons_zero, List.set_cons_succ]; rfl)) (hJ1_8_13_24 (v1_, v8_, (W_).heap.size, v24_) _ hN.at2)
                · skip
                  refine value_ (w1 := ?_) (v := ?_) (by rfl) rfl ?_ ?_
                  rotate_left 2
                  · go_simp
                    constructor
                    · rfl
                    · rfl
                  have hN := chFx (pg := (pg : Int)) ((hSep.out).at2)
                  refine hK.out _ _ trivial (fun hHeld => ?_)
                  clear hK K
                  refine norm_ (a' := ?_) ?_ ?_
                  rotate_left
                  · show Act.put _ (some 35) _ = _
                    simp only [aP]
                    rfl
                  exact norm_ (by first | (simp only [putAll, Act.put, List.setIfInBounds_toArray, List.set_cons_zero, List.set_cons_succ]; done) | (simp only [putAll, Act.put, List.setIfInBounds_toArray, List.set_cons_zero, List.set_cons_succ]; rfl)) (hJ1_8_24_26 (v1_, v8_, v24_, (W_).heap.size) _ hN.at2)
            · skip
              rintro ⟨v1_, v8_, v13_⟩ W_ hQ_
              have hSep : Aside0 (Sep w W_ ((Pu ((v8_) = KX)) :: (Row I64 3 (.slice (some ⟨(v13_), 0, none⟩) 7 7) [64, (m5 : Int), (k : Int), 64, 0, 64, 20]) :: (Row (Kd.raw 4) 83 u3 cs0 :: Fx (Each KA ys cs0) :: []))) := ⟨hQ_⟩
              clear hQ_
              have hHeld := trivial
              refine norm_ (a' := ?_) ?_ ?_
              rotate_left
              · simp only [putAll, Act.put, List.setIfInBounds_toArray, List.set_cons_zero, List.set_cons_succ]
                rfl
              refine one_ (i := 24) (N := some 33) #[J,J,J,J,J,J,J,J,J,J,J,J,J,J,J,J,J,J,J,J,J,J,J,J,J,Z,Z,Z,Z,Z,Z] rfl rfl (by kernel_rfl) (by decide) (fun K hK => ?_)
              refine goes_ Tryz.func42 (by kernel_rfl) rfl #[.int .u8 bx] (by rfl) rfl rfl (by simp only [List.map_toArray, List.map_cons, List.map_nil]; rfl) ?_
              with_reducible refine (sectorQ bx _).mono ?_
              rintro e wn_ ⟨vn_, rfl, hS_⟩
              refine ⟨_, rfl, ?_⟩
              have hN := (hSep.out).lift1 hS_
              clear hS_
              refine hK.out _ _ trivial (fun hHeld => ?_)
              clear hK K
              refine norm_ (a' := ?_) ?_ ?_
              rotate_left
              · show Act.put _ (some 33) _ = _
                simp only [aP]
                rfl
              refine pu_ 25 34 ?_ #[J,J,J,J,J,J,J,J,J,J,J,J,J,J,J,J,J,J,J,J,J,J,J,J,J,J,Z,Z,Z,Z,Z] rfl rfl ?_ ?_ ?_ ?_
              rotate_left
              · intro w'
                go_simp
                with_reducible rfl
              rotate_left
              · simp only [aP]
                rfl
              exact norm_ (by first | (simp only [putAll, Act.put, List.setIfInBounds_toArray, List.set_cons_zero, List.set_cons_succ]; done) | (simp only [putAll, Act.put, List.setIfInBounds_toArray, List.set_cons_zero, List.set_cons_succ]; rfl)) (hJ1_8_13_24 (v1_, v8_, v13_, vn_) _ hN.to3)
          · skip
            rintro ⟨v1_, v13_, v24_, v26_⟩ W_ hQ_
            have hSep : Aside0 (Sep w W_ ((Row I64 3 (.slice (some ⟨(v1_), 0, none⟩) 11 11) kinds18) :: (Row I64 3 (.slice (some ⟨(v13_), 0, none⟩) 7 7) [64, (m5 : Int), (k : Int), 64, 0, 64, 20]) :: (Fx (fun W' => KC.C W' (some ⟨(v26_), 0, none⟩) 1 [((pg : Int), sectF bx)])) :: (Row (Kd.raw 4) 83 u3 cs0 :: Fx (Each KA ys cs0) :: []))) := ⟨hQ_⟩
            clear hQ_
            have hHeld := trivial
            refine norm_ (a' := ?_) ?_ ?_
            rotate_left
            · simp only [putAll, Act.put, List.setIfInBounds_toArray, List.set_cons_zero, List.set_cons_succ]
              rfl
            refine one_ (i := 8) (N := some 17) #[J,J,J,J,J,J,J,J,J,J,J,J,J,J,J,J,J,J,J,J,J,J,J,J,J,J,J,Z,Z,Z,Z] rfl rfl (by kernel_rfl) (by decide) (fun K hK => ?_)
            have hs_ := (((hSep.out)).rowCell (enc := Value.int .i64) 0 ki HKI.out).1
            rw [HKX.out] at hs_
            refine value_ (w1 := ?_) (v := ?_) (by rfl) rfl ?_ ?_
            rotate_left 2
            · go_simp
              constructor
              · rfl
              · rfl
            have hN := ((hSep.out)).tail.unpu (rfl : KX = KX)
            refine hK.out _ _ trivial (fun hHeld => ?_)
            clear hK K
            refine norm_ (a' := ?_) ?_ ?_
            rotate_left
            · show Act.put _ (some 17) _ = _
              simp only [aP]
              rfl
            exact norm_ (by first | (simp only [putAll, Act.put, List.setIfInBounds_toArray, List.set_cons_zero, List.set_cons_succ]; done) | (simp only [putAll, Act.put, List.setIfInBounds_toArray, List.set_cons_zero, List.set_cons_succ]; rfl)) (hJ1_8_13_24_26 (v1_, KX, v13_, v24_, v26_) _ hN)
        · skip
          rintro ⟨v1_, v8_, v24_, v26_⟩ W_ hQ_
          have hSep : Aside0 (Sep w W_ ((Pu ((v8_) = KX)) :: (Fx (fun W' => KC.C W' (some ⟨(v26_), 0, none⟩) 1 [((pg : Int), sectF bx)])) :: (Row (Kd.raw 4) 83 u3 cs0 :: Fx (Each KA ys cs0) :: []))) := ⟨hQ_⟩
          clear hQ_
          have hHeld := trivial
          refine norm_ (a' := ?_) ?_ ?_
          rotate_left
          · simp only [putAll, Act.put, List.setIfInBounds_toArray, List.set_cons_zero, List.set_cons_succ]
            rfl
          refine one_ (i := 13) (N := some 22) #[J,J,J,J,J,J,J,J,J,J,J,J,J,J,J,J,J,J,J,Z,J,J,J,J,J,J,J,Z,Z,Z,Z] rfl rfl (by kernel_rfl) (by decide) (fun K hK => ?_)
          refine value_ (w1 := ?_) (v := ?_) (by rfl) rfl ?_ ?_
          rotate_left 2
          · go_simp
            constructor
            · rfl
            · rfl
          have hN := (hSep.out).litRow (enc := Value.int .i64) (h1 := fun _ => rfl) (e := 3) [64, (m5 : Int), (k : Int), 64, 0, 64, 20] (by simp)
          refine hK.out _ _ trivial (fun hHeld => ?_)
          clear hK K
          refine norm_ (a' := ?_) ?_ ?_
          rotate_left
          · show Act.put _ (some 22) _ = _
            simp only [aP]
            rfl
          refine pu_ 19 28 ?_ #[J,J,J,J,J,J,J,J,J,J,J,J,J,J,J,J,J,J,J,J,J,J,J,J,J,J,J,Z,Z,Z,Z] rfl rfl ?_ ?_ ?_ ?_
          rotate_left
          · intro w'
            go_simp
            with_reducible rfl
          rotate_left
          · simp only [aP]
            rfl
          exact norm_ (by first | (simp only [putAll, Act.put, List.setIfInBounds_toArray, List.set_cons_zero, List.set_cons_succ]; done) | (simp only [putAll, Act.put, List.setIfInBounds_toArray, List.set_cons_zero, List.set_cons_succ]; rfl)) (hJ1_8_13_24_26 (v1_, v8_, (W_).heap.size, v24_, v26_) _ hN.at2)
      · skip
        rintro ⟨v1_, v8_, v13_, v24_⟩ W_ hQ_
        have hSep : Aside0 (Sep w W_ ((Pu ((v8_) = KX)) :: (Row I64 3 (.slice (some ⟨(v13_), 0, none⟩) 7 7) [64, (m5 : Int), (k : Int), 64, 0, 64, 20]) :: (Row U8 5 (.slice ((v24_)).1 64 ((v24_)).2) (sectF bx)) :: (Row (Kd.raw 4) 83 u3 cs0 :: Fx (Each KA ys cs0) :: []))) := ⟨hQ_⟩
        clear hQ_
        have hHeld := trivial
        refine norm_ (a' := ?_) ?_ ?_
        rotate_left
        · simp only [putAll, Act.put, List.setIfInBounds_toArray, List.set_cons_zero, List.set_cons_succ]
          rfl
        refine one_ (i := 26) (N := some 35) #[J,J,J,J,J,J,J,J,J,J,J,J,J,J,J,J,J,J,J,J,J,J,J,J,J,J,J,Z,Z,Z,Z] rfl rfl (by kernel_rfl) (by decide) (fun K hK => ?_)
        refine value_ (w1 := ?_) (v := ?_) (by rfl) rfl ?_ ?_
        rotate_left 2
        · go_simp
          constructor
          · rfl
          · rfl
        have hN := chFx (pg := (pg : Int)) ((hSep.out).at3)
        refine hK.out _ _ trivial (fun hHeld => ?_)
        clear hK K
        refine norm_ (a' := ?_) ?_ ?_
        rotate_left
        · show Act.put _ (some 35) _ = _
          simp only [aP]
          rfl
        exact norm_ (by first | (simp only [putAll, Act.put, List.setIfInBounds_toArray, List.set_cons_zero, List.set_cons_succ]; done) | (simp only [putAll, Act.put, List.setIfInBounds_toArray, List.set_cons_zero, List.set_cons_succ]; rfl)) (hJ1_8_13_24_26 (v1_, v8_, v13_, v24_, (W_).heap.size) _ hN.to3)
    rintro ⟨v1_, v8_, v13_, v24_, v26_⟩ W_ hQ_
    have hSep : Aside0 (Sep w W_ ((Pu ((v8_) = KX)) :: (Row I64 3 (.slice (some ⟨(v13_), 0, none⟩) 7 7) [64, (m5 : Int), (k : Int), 64, 0, 64, 20]) :: (Fx (fun W' => KC.C W' (some ⟨(v26_), 0, none⟩) 1 [((pg : Int), sectF bx)])) :: (Row (Kd.raw 4) 83 u3 cs0 :: Fx (Each KA ys cs0) :: []))) := ⟨hQ_⟩
    clear hQ_
    have hHeld := trivial
    obtain ⟨h8_, hT_⟩ := hSep.out.pu
    subst h8_
    have C28 := askCl (kk := v8_) hT_ rfl HMB.out
    have L28 := Aside0.mk (Sep.litOne (e := 83) C28 rfl (by intro u hu; simp only [List.mem_cons, List.not_mem_nil, or_false] at hu; rcases hu with rfl | rfl | rfl | rfl <;> rfl))
    refine norm_ (a' := ?_) ?_ ?_
    rotate_left
    · simp only [putAll, Act.put, List.setIfInBounds_toArray, List.set_cons_zero, List.set_cons_succ]
      rfl
    refine pu_ 27 36 ?_ #[J,J,J,J,J,J,J,J,J,J,J,J,J,J,J,J,J,J,J,J,J,J,J,J,J,J,J,J,Z,Z,Z] rfl rfl ?_ ?_ ?_ ?_
    rotate_left
    · intro w'
      go_simp
      with_reducible rfl
    rotate_left
    · simp only [aP]
      rfl
    refine one_ (i := 28) (N := some 37) #[J,J,J,J,J,J,J,J,J,J,J,J,J,J,J,J,J,J,J,J,J,J,J,J,J,J,J,J,J,Z,Z] rfl rfl (by kernel_rfl) (by decide) (fun K hK => ?_)
    refine value_ (w1 := ?_) (v := ?_) (by rfl) rfl ?_ ?_
    rotate_left 2
    · go_simp
      constructor
      · rfl
      · rfl
    refine hK.out _ _ trivial (fun hHeld => ?_)
    clear hK K
    refine norm_ (a' := ?_) ?_ ?_
    rotate_left
    · show Act.put _ (some 37) _ = _
      simp only [aP]
      rfl
    refine last_ (i := 29) (N := some 38) #[J,J,J,J,J,J,J,J,J,J,J,J,J,J,J,J,J,J,J,J,J,J,J,J,J,J,J,J,J,J,Z] rfl rfl (by kernel_rfl) (by decide) (fun K hK => ?_)
    have hcl_ := (Sep.pull [_, _, _] L28.out).fx.1
    refine (Sep.pull [_, _] L28.out).appendRawStep (by rfl) (.tmp 9) (.tmp 37) 23 (.agg #[.int .i64 0, .int .i64 0, .slice none 0 0, .slice none 0 0]) 64 rfl Tryz.underlying23 infoAsk rfl (by decide) (by decide) (some ⟨W_.heap.size, 0, none⟩) 1 1 (by rfl) (by rfl) L28.out.rowC' (by have h1_ := HYL.out.1; have h2_ := AK.out; rw [← hcl_]; simp only [List.length_cons, List.length_nil]; omega) ?_
    intro v29 w29 hS29
    have B29 := Aside0.mk (askUp hS29)
    clear hS29
    refine hK.out _ _ ?_
    clear hK K
    refine norm_ (a' := ?_) ?_ ?_
    rotate_left
    · show Act.put _ (some 38) _ = _
      simp only [aP]
      rfl
    refine pu_ 30 3 ?_ #[J,J,J,J,J,J,J,J,J,J,J,J,J,J,J,J,J,J,J,J,J,J,J,J,J,J,J,J,J,J,J] rfl rfl ?_ ?_ ?_ ?_
    rotate_left
    · intro w'
      go_simp
      with_reducible rfl
    rotate_left
    · simp only [aP]
      rfl
    refine done_ (by kernel_rfl) ?_
    go_wp2_with fail
    go_roundg (gk - 1)
    case measure => have := AK.out; omega
    case rel => exact ⟨i + 1, _, by go_num, by have := AK.out; omega, by rw [List.length_append, HYL.out.1]; rfl, fun x hx y hy => by
      rcases List.mem_append.1 hx with hx | hx
      · exact HYL.out.2 x hx y hy
      · rw [List.mem_singleton.1 hx] at hy
        rw [List.mem_singleton.1 hy]
        exact sectF_bytes HBX.out, B29.out⟩
end Go.Proofs.YtjngnigelkgekaaGreat.RStore
