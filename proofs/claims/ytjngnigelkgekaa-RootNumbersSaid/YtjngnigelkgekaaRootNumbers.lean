/- RootNumbers: the walk. -/
import Derived.Test.YtjngnigelkgekaaRootTells
namespace Go.Proofs.Ytjngnigelkgekaa.Kit.Sep
open Go.RowKit
theorem to6 {w0 w : World} {p q r s t u : HP} {F : List HP} (h : Sep w0 w (p :: q :: r :: s :: t :: u :: F)) : Sep w0 w (q :: r :: s :: t :: u :: p :: F) := h.to5.perm (.cons _ (.cons _ (.cons _ (.cons _ (.swap _ _ _)))))
end Go.Proofs.Ytjngnigelkgekaa.Kit.Sep
namespace Go.Proofs.Ytjngnigelkgekaa.Root
set_option linter.unusedVariables false
set_option linter.unusedSimpArgs false
open Go.RowKit Go.Proofs.YtjngnigelkgekaaW.PrintWords Go.Proofs.YtjngnigelkgekaaW.PrintLast Go.Proofs.YtjngnigelkgekaaW.PrintMore Go.Proofs.Ytjngnigelkgekaa.Kit Go.Proofs.Ytjngnigelkgekaa.Plain Go.Proofs.Ytjngnigelkgekaa.Disk
abbrev KI : Kd Int := Kd.scalar (Value.int .i64) (fun _ => rfl)
abbrev KE : Kd Int := Kd.scalar (Value.int .u32) (fun _ => rfl)
def la : List Int := [-1, 0, 1, 2, 64, 65, 2147483648, 1099511627776]
def lb : List Int := [-1, 0, 1, 64, 65, 2147483647]
def le : List Int := [0, 1, 4294967295]
def ls : List Int := [0, 4, 5, 67, 160, 1099511627776]
def lm : List Int := [1, 2, 4, 6, 7, 8, 90]
theorem le_in (i : Nat) : 0 ≤ le.getD i 0 ∧ le.getD i 0 ≤ 4294967295 := by
  rcases (show i = 0 ∨ i = 1 ∨ i = 2 ∨ 3 ≤ i by omega) with rfl | rfl | rfl | h
  · decide
  · decide
  · decide
  · rw [List.getD_eq_getElem?_getD, List.getElem?_eq_none (by exact h)]; decide
/-- Seven rows of bytes at hand, each 64 long. -/
def Seven (g : Nat) (W : World) : Prop := ∀ i, i < 7 → ∃ A c xs, W.cell? ⟨g, i, none⟩ = some (.slice A 64 c) ∧ 64 ≤ c ∧ U8.C W A 64 xs ∧ Bytes xs
theorem Seven.below {g : Nat} {W W' : World} (h : Seven g W) (hb : Below W.heap.size W W') : Seven g W' := fun i hi => by
  obtain ⟨A, c, xs, h0, h1, h2, h3⟩ := h i hi
  exact ⟨A, c, xs, cell_later hb h0, h1, Kd.C_below h2 hb, h3⟩
set_option maxHeartbeats 1600000 in
set_option maxRecDepth 100000 in
theorem rootNumbers_ (w : World) : Calls Try.prog 5 #[] w fun e w' => e = .returned (.bool true) ∧ Below w.heap.size w w' := by
  have A0 : Aside0 (Sep w _ [Row KI 3 (.slice (some ⟨w.heap.size, 0, none⟩) 8 8) la]) := ⟨(Sep.start w).litRow (enc := Value.int .i64) (h1 := fun _ => rfl) (e := 3) la (by decide)⟩
  go_enter Try.func5, Try.ntmps5
  go_wp2_with fail
  go_loopg [21] 8 (fun n_ v w1 => ∃ i : Nat, v = .int .i64 (i : Int) ∧ i + n_ = 8 ∧ Sep w w1 [Row KI 3 (.slice (some ⟨w.heap.size, 0, none⟩) 8 8) la])
  case atStart => exact ⟨0, rfl, rfl, A0.out⟩
  case round =>
    obtain ⟨i, rfl, hi, hS⟩ := hrel
    obtain ⟨G0, rfl⟩ : ∃ G, G = gk := ⟨_, rfl⟩
    obtain ⟨w1, rfl⟩ : ∃ x, x = wr := ⟨_, rfl⟩
    have AK0 := Aside0.mk hi
    have AS0 := Aside0.mk hS
    clear hi
    by_cases ci : i < 8
    case neg =>
      have hil : ¬ (i : Int) < 8 := by omega
      have hild : decide ((i : Int) < 8) = false := decide_eq_false hil
      clear hS
      have AB := Aside0.mk AS0.out.toBelow
      have HX : Aside0 (Bytes (rootF 2 3 9) ∧ (rootF 2 3 9).length = 64) := ⟨rootF_bytes _ _ _, rootF_len _ _ _⟩
      go_wp2_with fail
      refine (rroot_ 2 3 9 (by decide) _).mono ?_
      rintro e wa ⟨va, rfl, hSa⟩
      rw [m32_id (x := 2) (by decide) (by decide), m32_id (x := 3) (by decide) (by decide)] at hSa
      obtain ⟨Ar, cr, rfl⟩ := hSa.rowN (n := 64) (rootF_len _ _ _)
      have Ba := Aside0.mk ((Sep.start w).below AB.out |>.lift1 hSa)
      clear hSa
      generalize rootF 2 3 9 = r at Ba HX
      have hrc := Ba.out.rowC.2.1
      have HRC := Aside0.mk hrc
      go_wp2_with fail
      go_loopg [59] 64 (fun n_ v wb => ∃ i : Nat, v = .int .i64 (i : Int) ∧ i + n_ = 64 ∧ Sep w wb [Row U8 5 (.slice Ar 64 cr) r])
      case atStart => exact ⟨0, rfl, rfl, Ba.out⟩
      case round =>
        obtain ⟨i, rfl, hi, hS⟩ := hrel
        obtain ⟨wb, rfl⟩ : ∃ x, x = wr := ⟨_, rfl⟩
        have AK := Aside0.mk hi
        have AS := Aside0.mk hS
        clear hi hS
        by_cases ci : i < 64
        case pos =>
          have hil : (i : Int) < 64 := by omega
          have hild : decide ((i : Int) < 64) = true := decide_eq_true hil
          have L6 := Aside0.mk (AS.out.litRow (enc := Value.int .u8) (h1 := fun _ => rfl) (e := 5) [] (by decide))
          have hcut := cutHi (z := .int .u8 0) (bytes := 1) Try.underlying30 Base.infoB Ar 64 cr i (K := (i : Int)) rfl (by omega) hrc
          have HTC : Aside0 (∀ W : World, U8.C W Ar 64 r → U8.C W Ar i (r.take i)) := ⟨fun W hW => C_hi (b := i) hW (by omega) HRC.out⟩
          have HIC : Aside0 (i ≤ cr) := ⟨by omega⟩
          go_wp2_with (first | (refine gate_builtin (b := .append) (xs := #[.tmp 62, .tmp 63]) rfl ?_; go_loud (refine L6.out.appendRow rfl (.tmp 62) (.tmp 63) 30 (.int .u8 0) 1 rfl Try.underlying30 Base.infoB rfl (by decide) Ar 64 cr rfl rfl (Kd.C_alloc AS.out.rowC' _) (by have := HX.out.2; simp only [List.length_nil]; omega) ?_; intro v7 w7 hS7; rw [List.nil_append] at hS7; obtain ⟨g7, c7, rfl⟩ := hS7.rowFormN HX.out.2 (by decide); obtain ⟨e1, e2⟩ := hS7.rowCell (enc := Value.int .u8) 0 i ci; have B7 := Aside0.mk hS7; clear hS7)))
          have hyr : Aside0 (0 ≤ r.getD i 0 ∧ r.getD i 0 ≤ 255) := ⟨by have := HX.out.1.at (i : Int); unfold rd at this; rwa [Int.toNat_natCast] at this⟩
          have HXU := Aside0.mk (xor_in hyr.out.1 hyr.out.2 (t := 5) (by decide) (by decide))
          have B8 := Aside0.mk (B7.out.putRow (enc := Value.int .u8) i (Go.bits .xor .u8 (r.getD i 0) 5))
          have HY : Aside0 (Bytes (r.set i (Go.bits .xor .u8 (r.getD i 0) 5))) := ⟨set_bytes i HX.out.1 HXU.out.1 HXU.out.2⟩
          generalize r.set i (Go.bits .xor .u8 (r.getD i 0) 5) = y at B8 HY
          refine (reads_ B8.out.rowC' B8.out.rowC.2.1 HY.out).mono ?_
          rintro e w9 ⟨rfl, hb9⟩
          have B9 := Aside0.mk (B8.out.below hb9)
          clear hb9 e1 e2
          go_wp2_with fail
          refine (reads_ (HTC.out _ B9.out.at2.rowC') HIC.out (HX.out.1.take i)).mono ?_
          rintro e w10 ⟨rfl, hb10⟩
          have B10 := Aside0.mk (B9.out.below hb10)
          clear hb10
          go_wp2_with fail
          refine (lbest_ B10.out.rowC' B10.out.rowC.2.1 HY.out B10.out.at2.rowC' HRC.out HX.out.1).mono ?_
          rintro e w11 ⟨rfl, hb11⟩
          have B11 := Aside0.mk (B10.out.below hb11)
          clear hb11
          go_wp2_with fail
          refine (lbest_ B11.out.at2.rowC' HRC.out HX.out.1 B11.out.rowC' B11.out.rowC.2.1 HY.out).mono ?_
          rintro e w12 ⟨rfl, hb12⟩
          have B12 := Aside0.mk (B11.out.below hb12)
          clear hb12
          go_wp2_with fail
          go_roundg (gk - 1)
          case measure => have := AK.out; omega
          case rel => exact ⟨i + 1, by go_num, by have := AK.out; omega, B12.out.tail⟩
        case neg =>
          have hil : ¬ (i : Int) < 64 := by omega
          have hild : decide ((i : Int) < 64) = false := decide_eq_false hil
          have Bd := Aside0.mk AS.out.drew
          clear hrc
          have hmk : ∀ W : World, (Instr.makeSlice 30 (.int .i64 64) (.int .i64 64)).run Try.prog W = .ok (.slice (some ⟨W.heap.size, 0, none⟩) 64 64) (W.alloc (.cells (madeCells #[.int .u8 0] 64) 5)) := make_ (m := 64) (by omega)
          go_wp2_with fail
          refine start_ (n := 14) (S := fun w' => True) (ds := [12]) #[false, false, false, false, false, false, false, false, false, false, false, false, false, false] (by kernel_rfl) rfl rfl trivial (fun hHeld => ?_)
          refine pure_ (i := 0) (N := some 94) (v := ?_) (a' := ?_) #[true, false, false, false, false, false, false, false, false, false, false, false, false, false] rfl rfl (by kernel_rfl) (fun _ _ _ h => h) (Or.inl ⟨by rfl, ?_⟩) ?_ ?_
          rotate_left
          · intro w'
            go_simp
            with_reducible rfl
          rotate_left
          · simp only [Act.put, List.setIfInBounds_toArray, List.set_cons_zero, List.set_cons_succ, i64_w, i32_w]
            rfl
          refine pure_ (i := 1) (N := some 95) (v := ?_) (a' := ?_) #[true, true, false, false, false, false, false, false, false, false, false, false, false, false] rfl rfl (by kernel_rfl) (fun _ _ _ h => h) (Or.inl ⟨by rfl, ?_⟩) ?_ ?_
          rotate_left
          · intro w'
            go_simp
            with_reducible rfl
          rotate_left
          · simp only [Act.put, List.setIfInBounds_toArray, List.set_cons_zero, List.set_cons_succ, i64_w, i32_w]
            rfl
          refine pure_ (i := 3) (N := some 97) (v := ?_) (a' := ?_) #[true, true, false, true, false, false, false, false, false, false, false, false, false, false] rfl rfl (by kernel_rfl) (fun _ _ _ h => h) (Or.inl ⟨by rfl, ?_⟩) ?_ ?_
          rotate_left
          · intro w'
            go_simp
            with_reducible rfl
          rotate_left
          · simp only [Act.put, List.setIfInBounds_toArray, List.set_cons_zero, List.set_cons_succ, i64_w, i32_w]
            rfl
          refine pure_ (i := 5) (N := some 99) (v := ?_) (a' := ?_) #[true, true, false, true, false, true, false, false, false, false, false, false, false, false] rfl rfl (by kernel_rfl) (fun _ _ _ h => h) (Or.inl ⟨by rfl, ?_⟩) ?_ ?_
          rotate_left
          · intro w'
            go_simp
            with_reducible rfl
          rotate_left
          · simp only [Act.put, List.setIfInBounds_toArray, List.set_cons_zero, List.set_cons_succ, i64_w, i32_w]
            rfl
          refine pure_ (i := 7) (N := some 101) (v := ?_) (a' := ?_) #[true, true, false, true, false, true, false, true, false, false, false, false, false, false] rfl rfl (by kernel_rfl) (fun _ _ _ h => h) (Or.inl ⟨by rfl, ?_⟩) ?_ ?_
          rotate_left
          · intro w'
            go_simp
            with_reducible rfl
          rotate_left
          · simp only [Act.put, List.setIfInBounds_toArray, List.set_cons_zero, List.set_cons_succ, i64_w, i32_w]
            rfl
          refine pure_ (i := 10) (N := some 104) (v := ?_) (a' := ?_) #[true, true, false, true, false, true, false, true, false, false, true, false, false, false] rfl rfl (by kernel_rfl) (fun _ _ _ h => h) (Or.inl ⟨by rfl, ?_⟩) ?_ ?_
          rotate_left
          · intro w'
            go_simp
            with_reducible rfl
          rotate_left
          · simp only [Act.put, List.setIfInBounds_toArray, List.set_cons_zero, List.set_cons_succ, i64_w, i32_w]
            rfl
          refine join_ (σ := Value × Value × Value × Value × Value × Value) 2 #[true, true, true, true, true, true, true, true, true, true, true, true, false, false] (fun s_ => [(96, s_.1), (98, s_.2.1), (100, s_.2.2.1), (102, s_.2.2.2.1), (103, s_.2.2.2.2.1), (105, s_.2.2.2.2.2)]) (fun s_ w' => Sep w w' ((Row U8 5 (s_.1) (rootF (m32 2) (m32 3) 8)) :: (Row U8 5 (s_.2.1) (rootF (m32 3) (m32 3) 9)) :: (Row U8 5 (s_.2.2.1) (rootF (m32 1) (m32 1) 20)) :: (Row U8 5 (s_.2.2.2.1) (rootF (m32 9) (m32 50) 30)) :: (Row U8 5 (s_.2.2.2.2.1) (List.replicate 64 0)) :: (Row U8 5 (s_.2.2.2.2.2) (rootF (m32 2) (m32 3) 0)) :: [Row U8 5 (.slice Ar 64 cr) r])) ?_ ?_
          rotate_left
          · intro hJ2_4_6_8_9_11
            refine join_ (σ := Value × Value × Value × Value × Value) 3 #[true, true, true, true, true, true, true, true, true, true, true, false, false, false] (fun s_ => [(96, s_.1), (98, s_.2.1), (100, s_.2.2.1), (102, s_.2.2.2.1), (103, s_.2.2.2.2)]) (fun s_ w' => Sep w w' ((Row U8 5 (s_.1) (rootF (m32 2) (m32 3) 8)) :: (Row U8 5 (s_.2.1) (rootF (m32 3) (m32 3) 9)) :: (Row U8 5 (s_.2.2.1) (rootF (m32 1) (m32 1) 20)) :: (Row U8 5 (s_.2.2.2.1) (rootF (m32 9) (m32 50) 30)) :: (Row U8 5 (s_.2.2.2.2) (List.replicate 64 0)) :: [Row U8 5 (.slice Ar 64 cr) r])) ?_ ?_
            rotate_left
            · intro hJ2_4_6_8_9
              refine join_ (σ := Value × Value × Value × Value × Value) 3 #[true, true, true, true, true, true, true, true, true, false, true, true, false, false] (fun s_ => [(96, s_.1), (98, s_.2.1), (100, s_.2.2.1), (102, s_.2.2.2.1), (105, s_.2.2.2.2)]) (fun s_ w' => Sep w w' ((Row U8 5 (s_.1) (rootF (m32 2) (m32 3) 8)) :: (Row U8 5 (s_.2.1) (rootF (m32 3) (m32 3) 9)) :: (Row U8 5 (s_.2.2.1) (rootF (m32 1) (m32 1) 20)) :: (Row U8 5 (s_.2.2.2.1) (rootF (m32 9) (m32 50) 30)) :: (Row U8 5 (s_.2.2.2.2) (rootF (m32 2) (m32 3) 0)) :: [Row U8 5 (.slice Ar 64 cr) r])) ?_ ?_
              rotate_left
              · intro hJ2_4_6_8_11
                refine join_ (σ := Value × Value × Value × Value) 4 #[true, true, true, true, true, true, true, true, true, false, true, false, false, false] (fun s_ => [(96, s_.1), (98, s_.2.1), (100, s_.2.2.1), (102, s_.2.2.2)]) (fun s_ w' => Sep w w' ((Row U8 5 (s_.1) (rootF (m32 2) (m32 3) 8)) :: (Row U8 5 (s_.2.1) (rootF (m32 3) (m32 3) 9)) :: (Row U8 5 (s_.2.2.1) (rootF (m32 1) (m32 1) 20)) :: (Row U8 5 (s_.2.2.2) (rootF (m32 9) (m32 50) 30)) :: [Row U8 5 (.slice Ar 64 cr) r])) ?_ ?_
                rotate_left
                · intro hJ2_4_6_8
                  refine join_ (σ := Value × Value × Value × Value) 4 #[true, true, true, true, true, true, true, true, false, true, true, false, false, false] (fun s_ => [(96, s_.1), (98, s_.2.1), (100, s_.2.2.1), (103, s_.2.2.2)]) (fun s_ w' => Sep w w' ((Row U8 5 (s_.1) (rootF (m32 2) (m32 3) 8)) :: (Row U8 5 (s_.2.1) (rootF (m32 3) (m32 3) 9)) :: (Row U8 5 (s_.2.2.1) (rootF (m32 1) (m32 1) 20)) :: (Row U8 5 (s_.2.2.2) (List.replicate 64 0)) :: [Row U8 5 (.slice Ar 64 cr) r])) ?_ ?_
                  rotate_left
                  · intro hJ2_4_6_9
                    refine join_ (σ := Value × Value × Value) 5 #[true, true, true, true, true, true, true, true, false, false, true, false, false, false] (fun s_ => [(96, s_.1), (98, s_.2.1), (100, s_.2.2)]) (fun s_ w' => Sep w w' ((Row U8 5 (s_.1) (rootF (m32 2) (m32 3) 8)) :: (Row U8 5 (s_.2.1) (rootF (m32 3) (m32 3) 9)) :: (Row U8 5 (s_.2.2) (rootF (m32 1) (m32 1) 20)) :: [Row U8 5 (.slice Ar 64 cr) r])) ?_ ?_
                    rotate_left
                    · intro hJ2_4_6
                      refine join_ (σ := Value × Value × Value) 5 #[true, true, true, true, true, true, false, true, false, true, true, false, false, false] (fun s_ => [(96, s_.1), (98, s_.2.1), (103, s_.2.2)]) (fun s_ w' => Sep w w' ((Row U8 5 (s_.1) (rootF (m32 2) (m32 3) 8)) :: (Row U8 5 (s_.2.1) (rootF (m32 3) (m32 3) 9)) :: (Row U8 5 (s_.2.2) (List.replicate 64 0)) :: [Row U8 5 (.slice Ar 64 cr) r])) ?_ ?_
                      rotate_left
                      · intro hJ2_4_9
                        refine join_ (σ := Value × Value) 6 #[true, true, true, true, true, true, false, true, false, false, true, false, false, false] (fun s_ => [(96, s_.1), (98, s_.2)]) (fun s_ w' => Sep w w' ((Row U8 5 (s_.1) (rootF (m32 2) (m32 3) 8)) :: (Row U8 5 (s_.2) (rootF (m32 3) (m32 3) 9)) :: [Row U8 5 (.slice Ar 64 cr) r])) ?_ ?_
                        rotate_left
                        · intro hJ2_4
                          refine join_ (σ := Value × Value) 6 #[true, true, true, true, false, true, false, true, false, true, true, false, false, false] (fun s_ => [(96, s_.1), (103, s_.2)]) (fun s_ w' => Sep w w' ((Row U8 5 (s_.1) (rootF (m32 2) (m32 3) 8)) :: (Row U8 5 (s_.2) (List.replicate 64 0)) :: [Row U8 5 (.slice Ar 64 cr) r])) ?_ ?_
                          rotate_left
                          · intro hJ2_9
                            refine join_ (σ := Value) 7 #[true, true, true, true, false, true, false, true, false, false, true, false, false, false] (fun s_ => [(96, s_)]) (fun s_ w' => Sep w w' ((Row U8 5 (s_) (rootF (m32 2) (m32 3) 8)) :: [Row U8 5 (.slice Ar 64 cr) r])) ?_ ?_
                            rotate_left
                            · intro hJ2
                              refine join_ (σ := Value) 7 #[true, true, false, true, false, true, false, true, false, true, true, false, false, false] (fun s_ => [(103, s_)]) (fun s_ w' => Sep w w' ((Row U8 5 (s_) (List.replicate 64 0)) :: [Row U8 5 (.slice Ar 64 cr) r])) ?_ ?_
                              rotate_left
                              · intro hJ9
                                refine two_ (i := 2) (j := 9) (Ni := some 96) (Nj := some 103) #[true, true, true, true, false, true, false, true, false, false, true, false, false, false] #[true, true, false, true, false, true, false, true, false, true, true, false, false, false] rfl rfl rfl rfl (by kernel_rfl) (by decide) (by decide) (fun K hK => ?_) (fun K hK => ?_)
                                · skip
                                  refine goes_ Try.func39 (by kernel_rfl) rfl #[.agg #[.int .i64 2, .int .i64 3, .int .u32 8]] (by rfl) rfl rfl (by simp only [List.map_toArray, List.map_cons, List.map_nil]; rfl) ?_
                                  with_reducible refine (rroot_ 2 3 8 (by decide) _).mono ?_
                                  rintro e wn_ ⟨vn_, rfl, hS_⟩
                                  refine ⟨_, rfl, ?_⟩
                                  have hN := (Bd.out).lift1 hS_
                                  clear hS_
                                  refine hK.out _ _ trivial (fun hHeld => ?_)
                                  clear hK K
                                  refine norm_ (a' := ?_) ?_ ?_
                                  rotate_left
                                  · show Act.put _ (some 96) _ = _
                                    simp only [Act.put, List.setIfInBounds_toArray, List.set_cons_zero, List.set_cons_succ, i64_w, i32_w]
                                    rfl
                                  exact norm_ (by first | (simp only [putAll, Act.put, List.setIfInBounds_toArray, List.set_cons_zero, List.set_cons_succ]; done) | (simp only [putAll, Act.put, List.setIfInBounds_toArray, List.set_cons_zero, List.set_cons_succ]; rfl)) (hJ2 vn_ _ hN)
                                · skip
                                  refine value_ (w1 := ?_) (v := ?_) (by rfl) rfl ?_ ?_
                                  rotate_left 2
                                  · go_simp
                                    constructor
                                    · rfl
                                    · rfl
                                  have hN := madeB 64 (Bd.out) (by omega)
                                  refine hK.out _ _ trivial (fun hHeld => ?_)
                                  clear hK K
                                  refine norm_ (a' := ?_) ?_ ?_
                                  rotate_left
                                  · show Act.put _ (some 103) _ = _
                                    simp only [Act.put, List.setIfInBounds_toArray, List.set_cons_zero, List.set_cons_succ, i64_w, i32_w]
                                    rfl
                                  exact norm_ (by first | (simp only [putAll, Act.put, List.setIfInBounds_toArray, List.set_cons_zero, List.set_cons_succ]; done) | (simp only [putAll, Act.put, List.setIfInBounds_toArray, List.set_cons_zero, List.set_cons_succ]; rfl)) (hJ9 (.slice (some ⟨(wb.drew).heap.size, 0, none⟩) 64 64) _ hN)
                              · skip
                                rintro v9_ W_ hQ_
                                have hSep : Aside0 (Sep w W_ ((Row U8 5 (v9_) (List.replicate 64 0)) :: [Row U8 5 (.slice Ar 64 cr) r])) := ⟨hQ_⟩
                                clear hQ_
                                have hHeld := trivial
                                refine norm_ (a' := ?_) ?_ ?_
                                rotate_left
                                · simp only [putAll, Act.put, List.setIfInBounds_toArray, List.set_cons_zero, List.set_cons_succ]
                                  rfl
                                refine one_ (i := 2) (N := some 96) #[true, true, true, true, false, true, false, true, false, true, true, false, false, false] rfl rfl (by kernel_rfl) (by decide) (fun K hK => ?_)
                                refine goes_ Try.func39 (by kernel_rfl) rfl #[.agg #[.int .i64 2, .int .i64 3, .int .u32 8]] (by rfl) rfl rfl (by simp only [List.map_toArray, List.map_cons, List.map_nil]; rfl) ?_
                                with_reducible refine (rroot_ 2 3 8 (by decide) _).mono ?_
                                rintro e wn_ ⟨vn_, rfl, hS_⟩
                                refine ⟨_, rfl, ?_⟩
                                have hN := (hSep.out).lift1 hS_
                                clear hS_
                                refine hK.out _ _ trivial (fun hHeld => ?_)
                                clear hK K
                                refine norm_ (a' := ?_) ?_ ?_
                                rotate_left
                                · show Act.put _ (some 96) _ = _
                                  simp only [Act.put, List.setIfInBounds_toArray, List.set_cons_zero, List.set_cons_succ, i64_w, i32_w]
                                  rfl
                                exact norm_ (by first | (simp only [putAll, Act.put, List.setIfInBounds_toArray, List.set_cons_zero, List.set_cons_succ]; done) | (simp only [putAll, Act.put, List.setIfInBounds_toArray, List.set_cons_zero, List.set_cons_succ]; rfl)) (hJ2_9 (vn_, v9_) _ hN)
                            · skip
                              rintro v2_ W_ hQ_
                              have hSep : Aside0 (Sep w W_ ((Row U8 5 (v2_) (rootF (m32 2) (m32 3) 8)) :: [Row U8 5 (.slice Ar 64 cr) r])) := ⟨hQ_⟩
                              clear hQ_
                              have hHeld := trivial
                              refine norm_ (a' := ?_) ?_ ?_
                              rotate_left
                              · simp only [putAll, Act.put, List.setIfInBounds_toArray, List.set_cons_zero, List.set_cons_succ]
                                rfl
                              refine two_ (i := 4) (j := 9) (Ni := some 98) (Nj := some 103) #[true, true, true, true, true, true, false, true, false, false, true, false, false, false] #[true, true, true, true, false, true, false, true, false, true, true, false, false, false] rfl rfl rfl rfl (by kernel_rfl) (by decide) (by decide) (fun K hK => ?_) (fun K hK => ?_)
                              · skip
                                refine goes_ Try.func39 (by kernel_rfl) rfl #[.agg #[.int .i64 3, .int .i64 3, .int .u32 9]] (by rfl) rfl rfl (by simp only [List.map_toArray, List.map_cons, List.map_nil]; rfl) ?_
                                with_reducible refine (rroot_ 3 3 9 (by decide) _).mono ?_
                                rintro e wn_ ⟨vn_, rfl, hS_⟩
                                refine ⟨_, rfl, ?_⟩
                                have hN := (hSep.out).lift1 hS_
                                clear hS_
                                refine hK.out _ _ trivial (fun hHeld => ?_)
                                clear hK K
                                refine norm_ (a' := ?_) ?_ ?_
                                rotate_left
                                · show Act.put _ (some 98) _ = _
                                  simp only [Act.put, List.setIfInBounds_toArray, List.set_cons_zero, List.set_cons_succ, i64_w, i32_w]
                                  rfl
                                exact norm_ (by first | (simp only [putAll, Act.put, List.setIfInBounds_toArray, List.set_cons_zero, List.set_cons_succ]; done) | (simp only [putAll, Act.put, List.setIfInBounds_toArray, List.set_cons_zero, List.set_cons_succ]; rfl)) (hJ2_4 (v2_, vn_) _ hN.at2)
                              · skip
                                refine value_ (w1 := ?_) (v := ?_) (by rfl) rfl ?_ ?_
                                rotate_left 2
                                · go_simp
                                  constructor
                                  · rfl
                                  · rfl
                                have hN := madeB 64 (hSep.out) (by omega)
                                refine hK.out _ _ trivial (fun hHeld => ?_)
                                clear hK K
                                refine norm_ (a' := ?_) ?_ ?_
                                rotate_left
                                · show Act.put _ (some 103) _ = _
                                  simp only [Act.put, List.setIfInBounds_toArray, List.set_cons_zero, List.set_cons_succ, i64_w, i32_w]
                                  rfl
                                exact norm_ (by first | (simp only [putAll, Act.put, List.setIfInBounds_toArray, List.set_cons_zero, List.set_cons_succ]; done) | (simp only [putAll, Act.put, List.setIfInBounds_toArray, List.set_cons_zero, List.set_cons_succ]; rfl)) (hJ2_9 (v2_, .slice (some ⟨(W_).heap.size, 0, none⟩) 64 64) _ hN.at2)
                          · skip
                            rintro ⟨v2_, v9_⟩ W_ hQ_
                            have hSep : Aside0 (Sep w W_ ((Row U8 5 (v2_) (rootF (m32 2) (m32 3) 8)) :: (Row U8 5 (v9_) (List.replicate 64 0)) :: [Row U8 5 (.slice Ar 64 cr) r])) := ⟨hQ_⟩
                            clear hQ_
                            have hHeld := trivial
                            refine norm_ (a' := ?_) ?_ ?_
                            rotate_left
                            · simp only [putAll, Act.put, List.setIfInBounds_toArray, List.set_cons_zero, List.set_cons_succ]
                              rfl
                            refine one_ (i := 4) (N := some 98) #[true, true, true, true, true, true, false, true, false, true, true, false, false, false] rfl rfl (by kernel_rfl) (by decide) (fun K hK => ?_)
                            refine goes_ Try.func39 (by kernel_rfl) rfl #[.agg #[.int .i64 3, .int .i64 3, .int .u32 9]] (by rfl) rfl rfl (by simp only [List.map_toArray, List.map_cons, List.map_nil]; rfl) ?_
                            with_reducible refine (rroot_ 3 3 9 (by decide) _).mono ?_
                            rintro e wn_ ⟨vn_, rfl, hS_⟩
                            refine ⟨_, rfl, ?_⟩
                            have hN := (hSep.out).lift1 hS_
                            clear hS_
                            refine hK.out _ _ trivial (fun hHeld => ?_)
                            clear hK K
                            refine norm_ (a' := ?_) ?_ ?_
                            rotate_left
                            · show Act.put _ (some 98) _ = _
                              simp only [Act.put, List.setIfInBounds_toArray, List.set_cons_zero, List.set_cons_succ, i64_w, i32_w]
                              rfl
                            exact norm_ (by first | (simp only [putAll, Act.put, List.setIfInBounds_toArray, List.set_cons_zero, List.set_cons_succ]; done) | (simp only [putAll, Act.put, List.setIfInBounds_toArray, List.set_cons_zero, List.set_cons_succ]; rfl)) (hJ2_4_9 (v2_, vn_, v9_) _ hN.at2)
                        · skip
                          rintro ⟨v2_, v4_⟩ W_ hQ_
                          have hSep : Aside0 (Sep w W_ ((Row U8 5 (v2_) (rootF (m32 2) (m32 3) 8)) :: (Row U8 5 (v4_) (rootF (m32 3) (m32 3) 9)) :: [Row U8 5 (.slice Ar 64 cr) r])) := ⟨hQ_⟩
                          clear hQ_
                          have hHeld := trivial
                          refine norm_ (a' := ?_) ?_ ?_
                          rotate_left
                          · simp only [putAll, Act.put, List.setIfInBounds_toArray, List.set_cons_zero, List.set_cons_succ]
                            rfl
                          refine two_ (i := 6) (j := 9) (Ni := some 100) (Nj := some 103) #[true, true, true, true, true, true, true, true, false, false, true, false, false, false] #[true, true, true, true, true, true, false, true, false, true, true, false, false, false] rfl rfl rfl rfl (by kernel_rfl) (by decide) (by decide) (fun K hK => ?_) (fun K hK => ?_)
                          · skip
                            refine goes_ Try.func39 (by kernel_rfl) rfl #[.agg #[.int .i64 1, .int .i64 1, .int .u32 20]] (by rfl) rfl rfl (by simp only [List.map_toArray, List.map_cons, List.map_nil]; rfl) ?_
                            with_reducible refine (rroot_ 1 1 20 (by decide) _).mono ?_
                            rintro e wn_ ⟨vn_, rfl, hS_⟩
                            refine ⟨_, rfl, ?_⟩
                            have hN := (hSep.out).lift1 hS_
                            clear hS_
                            refine hK.out _ _ trivial (fun hHeld => ?_)
                            clear hK K
                            refine norm_ (a' := ?_) ?_ ?_
                            rotate_left
                            · show Act.put _ (some 100) _ = _
                              simp only [Act.put, List.setIfInBounds_toArray, List.set_cons_zero, List.set_cons_succ, i64_w, i32_w]
                              rfl
                            exact norm_ (by first | (simp only [putAll, Act.put, List.setIfInBounds_toArray, List.set_cons_zero, List.set_cons_succ]; done) | (simp only [putAll, Act.put, List.setIfInBounds_toArray, List.set_cons_zero, List.set_cons_succ]; rfl)) (hJ2_4_6 (v2_, v4_, vn_) _ hN.to3)
                          · skip
                            refine value_ (w1 := ?_) (v := ?_) (by rfl) rfl ?_ ?_
                            rotate_left 2
                            · go_simp
                              constructor
                              · rfl
                              · rfl
                            have hN := madeB 64 (hSep.out) (by omega)
                            refine hK.out _ _ trivial (fun hHeld => ?_)
                            clear hK K
                            refine norm_ (a' := ?_) ?_ ?_
                            rotate_left
                            · show Act.put _ (some 103) _ = _
                              simp only [Act.put, List.setIfInBounds_toArray, List.set_cons_zero, List.set_cons_succ, i64_w, i32_w]
                              rfl
                            exact norm_ (by first | (simp only [putAll, Act.put, List.setIfInBounds_toArray, List.set_cons_zero, List.set_cons_succ]; done) | (simp only [putAll, Act.put, List.setIfInBounds_toArray, List.set_cons_zero, List.set_cons_succ]; rfl)) (hJ2_4_9 (v2_, v4_, .slice (some ⟨(W_).heap.size, 0, none⟩) 64 64) _ hN.to3)
                      · skip
                        rintro ⟨v2_, v4_, v9_⟩ W_ hQ_
                        have hSep : Aside0 (Sep w W_ ((Row U8 5 (v2_) (rootF (m32 2) (m32 3) 8)) :: (Row U8 5 (v4_) (rootF (m32 3) (m32 3) 9)) :: (Row U8 5 (v9_) (List.replicate 64 0)) :: [Row U8 5 (.slice Ar 64 cr) r])) := ⟨hQ_⟩
                        clear hQ_
                        have hHeld := trivial
                        refine norm_ (a' := ?_) ?_ ?_
                        rotate_left
                        · simp only [putAll, Act.put, List.setIfInBounds_toArray, List.set_cons_zero, List.set_cons_succ]
                          rfl
                        refine one_ (i := 6) (N := some 100) #[true, true, true, true, true, true, true, true, false, true, true, false, false, false] rfl rfl (by kernel_rfl) (by decide) (fun K hK => ?_)
                        refine goes_ Try.func39 (by kernel_rfl) rfl #[.agg #[.int .i64 1, .int .i64 1, .int .u32 20]] (by rfl) rfl rfl (by simp only [List.map_toArray, List.map_cons, List.map_nil]; rfl) ?_
                        with_reducible refine (rroot_ 1 1 20 (by decide) _).mono ?_
                        rintro e wn_ ⟨vn_, rfl, hS_⟩
                        refine ⟨_, rfl, ?_⟩
                        have hN := (hSep.out).lift1 hS_
                        clear hS_
                        refine hK.out _ _ trivial (fun hHeld => ?_)
                        clear hK K
                        refine norm_ (a' := ?_) ?_ ?_
                        rotate_left
                        · show Act.put _ (some 100) _ = _
                          simp only [Act.put, List.setIfInBounds_toArray, List.set_cons_zero, List.set_cons_succ, i64_w, i32_w]
                          rfl
                        exact norm_ (by first | (simp only [putAll, Act.put, List.setIfInBounds_toArray, List.set_cons_zero, List.set_cons_succ]; done) | (simp only [putAll, Act.put, List.setIfInBounds_toArray, List.set_cons_zero, List.set_cons_succ]; rfl)) (hJ2_4_6_9 (v2_, v4_, vn_, v9_) _ hN.to3)
                    · skip
                      rintro ⟨v2_, v4_, v6_⟩ W_ hQ_
                      have hSep : Aside0 (Sep w W_ ((Row U8 5 (v2_) (rootF (m32 2) (m32 3) 8)) :: (Row U8 5 (v4_) (rootF (m32 3) (m32 3) 9)) :: (Row U8 5 (v6_) (rootF (m32 1) (m32 1) 20)) :: [Row U8 5 (.slice Ar 64 cr) r])) := ⟨hQ_⟩
                      clear hQ_
                      have hHeld := trivial
                      refine norm_ (a' := ?_) ?_ ?_
                      rotate_left
                      · simp only [putAll, Act.put, List.setIfInBounds_toArray, List.set_cons_zero, List.set_cons_succ]
                        rfl
                      refine two_ (i := 8) (j := 9) (Ni := some 102) (Nj := some 103) #[true, true, true, true, true, true, true, true, true, false, true, false, false, false] #[true, true, true, true, true, true, true, true, false, true, true, false, false, false] rfl rfl rfl rfl (by kernel_rfl) (by decide) (by decide) (fun K hK => ?_) (fun K hK => ?_)
                      · skip
                        refine goes_ Try.func39 (by kernel_rfl) rfl #[.agg #[.int .i64 9, .int .i64 50, .int .u32 30]] (by rfl) rfl rfl (by simp only [List.map_toArray, List.map_cons, List.map_nil]; rfl) ?_
                        with_reducible refine (rroot_ 9 50 30 (by decide) _).mono ?_
                        rintro e wn_ ⟨vn_, rfl, hS_⟩
                        refine ⟨_, rfl, ?_⟩
                        have hN := (hSep.out).lift1 hS_
                        clear hS_
                        refine hK.out _ _ trivial (fun hHeld => ?_)
                        clear hK K
                        refine norm_ (a' := ?_) ?_ ?_
                        rotate_left
                        · show Act.put _ (some 102) _ = _
                          simp only [Act.put, List.setIfInBounds_toArray, List.set_cons_zero, List.set_cons_succ, i64_w, i32_w]
                          rfl
                        exact norm_ (by first | (simp only [putAll, Act.put, List.setIfInBounds_toArray, List.set_cons_zero, List.set_cons_succ]; done) | (simp only [putAll, Act.put, List.setIfInBounds_toArray, List.set_cons_zero, List.set_cons_succ]; rfl)) (hJ2_4_6_8 (v2_, v4_, v6_, vn_) _ hN.to4)
                      · skip
                        refine value_ (w1 := ?_) (v := ?_) (by rfl) rfl ?_ ?_
                        rotate_left 2
                        · go_simp
                          constructor
                          · rfl
                          · rfl
                        have hN := madeB 64 (hSep.out) (by omega)
                        refine hK.out _ _ trivial (fun hHeld => ?_)
                        clear hK K
                        refine norm_ (a' := ?_) ?_ ?_
                        rotate_left
                        · show Act.put _ (some 103) _ = _
                          simp only [Act.put, List.setIfInBounds_toArray, List.set_cons_zero, List.set_cons_succ, i64_w, i32_w]
                          rfl
                        exact norm_ (by first | (simp only [putAll, Act.put, List.setIfInBounds_toArray, List.set_cons_zero, List.set_cons_succ]; done) | (simp only [putAll, Act.put, List.setIfInBounds_toArray, List.set_cons_zero, List.set_cons_succ]; rfl)) (hJ2_4_6_9 (v2_, v4_, v6_, .slice (some ⟨(W_).heap.size, 0, none⟩) 64 64) _ hN.to4)
                  · skip
                    rintro ⟨v2_, v4_, v6_, v9_⟩ W_ hQ_
                    have hSep : Aside0 (Sep w W_ ((Row U8 5 (v2_) (rootF (m32 2) (m32 3) 8)) :: (Row U8 5 (v4_) (rootF (m32 3) (m32 3) 9)) :: (Row U8 5 (v6_) (rootF (m32 1) (m32 1) 20)) :: (Row U8 5 (v9_) (List.replicate 64 0)) :: [Row U8 5 (.slice Ar 64 cr) r])) := ⟨hQ_⟩
                    clear hQ_
                    have hHeld := trivial
                    refine norm_ (a' := ?_) ?_ ?_
                    rotate_left
                    · simp only [putAll, Act.put, List.setIfInBounds_toArray, List.set_cons_zero, List.set_cons_succ]
                      rfl
                    refine one_ (i := 8) (N := some 102) #[true, true, true, true, true, true, true, true, true, true, true, false, false, false] rfl rfl (by kernel_rfl) (by decide) (fun K hK => ?_)
                    refine goes_ Try.func39 (by kernel_rfl) rfl #[.agg #[.int .i64 9, .int .i64 50, .int .u32 30]] (by rfl) rfl rfl (by simp only [List.map_toArray, List.map_cons, List.map_nil]; rfl) ?_
                    with_reducible refine (rroot_ 9 50 30 (by decide) _).mono ?_
                    rintro e wn_ ⟨vn_, rfl, hS_⟩
                    refine ⟨_, rfl, ?_⟩
                    have hN := (hSep.out).lift1 hS_
                    clear hS_
                    refine hK.out _ _ trivial (fun hHeld => ?_)
                    clear hK K
                    refine norm_ (a' := ?_) ?_ ?_
                    rotate_left
                    · show Act.put _ (some 102) _ = _
                      simp only [Act.put, List.setIfInBounds_toArray, List.set_cons_zero, List.set_cons_succ, i64_w, i32_w]
                      rfl
                    exact norm_ (by first | (simp only [putAll, Act.put, List.setIfInBounds_toArray, List.set_cons_zero, List.set_cons_succ]; done) | (simp only [putAll, Act.put, List.setIfInBounds_toArray, List.set_cons_zero, List.set_cons_succ]; rfl)) (hJ2_4_6_8_9 (v2_, v4_, v6_, vn_, v9_) _ hN.to4)
                · skip
                  rintro ⟨v2_, v4_, v6_, v8_⟩ W_ hQ_
                  have hSep : Aside0 (Sep w W_ ((Row U8 5 (v2_) (rootF (m32 2) (m32 3) 8)) :: (Row U8 5 (v4_) (rootF (m32 3) (m32 3) 9)) :: (Row U8 5 (v6_) (rootF (m32 1) (m32 1) 20)) :: (Row U8 5 (v8_) (rootF (m32 9) (m32 50) 30)) :: [Row U8 5 (.slice Ar 64 cr) r])) := ⟨hQ_⟩
                  clear hQ_
                  have hHeld := trivial
                  refine norm_ (a' := ?_) ?_ ?_
                  rotate_left
                  · simp only [putAll, Act.put, List.setIfInBounds_toArray, List.set_cons_zero, List.set_cons_succ]
                    rfl
                  refine two_ (i := 9) (j := 11) (Ni := some 103) (Nj := some 105) #[true, true, true, true, true, true, true, true, true, true, true, false, false, false] #[true, true, true, true, true, true, true, true, true, false, true, true, false, false] rfl rfl rfl rfl (by kernel_rfl) (by decide) (by decide) (fun K hK => ?_) (fun K hK => ?_)
                  · skip
                    refine value_ (w1 := ?_) (v := ?_) (by rfl) rfl ?_ ?_
                    rotate_left 2
                    · go_simp
                      constructor
                      · rfl
                      · rfl
                    have hN := madeB 64 (hSep.out) (by omega)
                    refine hK.out _ _ trivial (fun hHeld => ?_)
                    clear hK K
                    refine norm_ (a' := ?_) ?_ ?_
                    rotate_left
                    · show Act.put _ (some 103) _ = _
                      simp only [Act.put, List.setIfInBounds_toArray, List.set_cons_zero, List.set_cons_succ, i64_w, i32_w]
                      rfl
                    exact norm_ (by first | (simp only [putAll, Act.put, List.setIfInBounds_toArray, List.set_cons_zero, List.set_cons_succ]; done) | (simp only [putAll, Act.put, List.setIfInBounds_toArray, List.set_cons_zero, List.set_cons_succ]; rfl)) (hJ2_4_6_8_9 (v2_, v4_, v6_, v8_, .slice (some ⟨(W_).heap.size, 0, none⟩) 64 64) _ hN.to5)
                  · skip
                    refine goes_ Try.func39 (by kernel_rfl) rfl #[.agg #[.int .i64 2, .int .i64 3, .int .u32 0]] (by rfl) rfl rfl (by simp only [List.map_toArray, List.map_cons, List.map_nil]; rfl) ?_
                    with_reducible refine (rroot_ 2 3 0 (by decide) _).mono ?_
                    rintro e wn_ ⟨vn_, rfl, hS_⟩
                    refine ⟨_, rfl, ?_⟩
                    have hN := (hSep.out).lift1 hS_
                    clear hS_
                    refine hK.out _ _ trivial (fun hHeld => ?_)
                    clear hK K
                    refine norm_ (a' := ?_) ?_ ?_
                    rotate_left
                    · show Act.put _ (some 105) _ = _
                      simp only [Act.put, List.setIfInBounds_toArray, List.set_cons_zero, List.set_cons_succ, i64_w, i32_w]
                      rfl
                    exact norm_ (by first | (simp only [putAll, Act.put, List.setIfInBounds_toArray, List.set_cons_zero, List.set_cons_succ]; done) | (simp only [putAll, Act.put, List.setIfInBounds_toArray, List.set_cons_zero, List.set_cons_succ]; rfl)) (hJ2_4_6_8_11 (v2_, v4_, v6_, v8_, vn_) _ hN.to5)
              · skip
                rintro ⟨v2_, v4_, v6_, v8_, v11_⟩ W_ hQ_
                have hSep : Aside0 (Sep w W_ ((Row U8 5 (v2_) (rootF (m32 2) (m32 3) 8)) :: (Row U8 5 (v4_) (rootF (m32 3) (m32 3) 9)) :: (Row U8 5 (v6_) (rootF (m32 1) (m32 1) 20)) :: (Row U8 5 (v8_) (rootF (m32 9) (m32 50) 30)) :: (Row U8 5 (v11_) (rootF (m32 2) (m32 3) 0)) :: [Row U8 5 (.slice Ar 64 cr) r])) := ⟨hQ_⟩
                clear hQ_
                have hHeld := trivial
                refine norm_ (a' := ?_) ?_ ?_
                rotate_left
                · simp only [putAll, Act.put, List.setIfInBounds_toArray, List.set_cons_zero, List.set_cons_succ]
                  rfl
                refine one_ (i := 9) (N := some 103) #[true, true, true, true, true, true, true, true, true, true, true, true, false, false] rfl rfl (by kernel_rfl) (by decide) (fun K hK => ?_)
                refine value_ (w1 := ?_) (v := ?_) (by rfl) rfl ?_ ?_
                rotate_left 2
                · go_simp
                  constructor
                  · rfl
                  · rfl
                have hN := madeB 64 (hSep.out) (by omega)
                refine hK.out _ _ trivial (fun hHeld => ?_)
                clear hK K
                refine norm_ (a' := ?_) ?_ ?_
                rotate_left
                · show Act.put _ (some 103) _ = _
                  simp only [Act.put, List.setIfInBounds_toArray, List.set_cons_zero, List.set_cons_succ, i64_w, i32_w]
                  rfl
                exact norm_ (by first | (simp only [putAll, Act.put, List.setIfInBounds_toArray, List.set_cons_zero, List.set_cons_succ]; done) | (simp only [putAll, Act.put, List.setIfInBounds_toArray, List.set_cons_zero, List.set_cons_succ]; rfl)) (hJ2_4_6_8_9_11 (v2_, v4_, v6_, v8_, .slice (some ⟨(W_).heap.size, 0, none⟩) 64 64, v11_) _ hN.to5)
            · skip
              rintro ⟨v2_, v4_, v6_, v8_, v9_⟩ W_ hQ_
              have hSep : Aside0 (Sep w W_ ((Row U8 5 (v2_) (rootF (m32 2) (m32 3) 8)) :: (Row U8 5 (v4_) (rootF (m32 3) (m32 3) 9)) :: (Row U8 5 (v6_) (rootF (m32 1) (m32 1) 20)) :: (Row U8 5 (v8_) (rootF (m32 9) (m32 50) 30)) :: (Row U8 5 (v9_) (List.replicate 64 0)) :: [Row U8 5 (.slice Ar 64 cr) r])) := ⟨hQ_⟩
              clear hQ_
              have hHeld := trivial
              refine norm_ (a' := ?_) ?_ ?_
              rotate_left
              · simp only [putAll, Act.put, List.setIfInBounds_toArray, List.set_cons_zero, List.set_cons_succ]
                rfl
              refine one_ (i := 11) (N := some 105) #[true, true, true, true, true, true, true, true, true, true, true, true, false, false] rfl rfl (by kernel_rfl) (by decide) (fun K hK => ?_)
              refine goes_ Try.func39 (by kernel_rfl) rfl #[.agg #[.int .i64 2, .int .i64 3, .int .u32 0]] (by rfl) rfl rfl (by simp only [List.map_toArray, List.map_cons, List.map_nil]; rfl) ?_
              with_reducible refine (rroot_ 2 3 0 (by decide) _).mono ?_
              rintro e wn_ ⟨vn_, rfl, hS_⟩
              refine ⟨_, rfl, ?_⟩
              have hN := (hSep.out).lift1 hS_
              clear hS_
              refine hK.out _ _ trivial (fun hHeld => ?_)
              clear hK K
              refine norm_ (a' := ?_) ?_ ?_
              rotate_left
              · show Act.put _ (some 105) _ = _
                simp only [Act.put, List.setIfInBounds_toArray, List.set_cons_zero, List.set_cons_succ, i64_w, i32_w]
                rfl
              exact norm_ (by first | (simp only [putAll, Act.put, List.setIfInBounds_toArray, List.set_cons_zero, List.set_cons_succ]; done) | (simp only [putAll, Act.put, List.setIfInBounds_toArray, List.set_cons_zero, List.set_cons_succ]; rfl)) (hJ2_4_6_8_9_11 (v2_, v4_, v6_, v8_, v9_, vn_) _ hN.to6)
          rintro ⟨v2_, v4_, v6_, v8_, v9_, v11_⟩ W_ hQ_
          have hSep : Aside0 (Sep w W_ ((Row U8 5 (v2_) (rootF (m32 2) (m32 3) 8)) :: (Row U8 5 (v4_) (rootF (m32 3) (m32 3) 9)) :: (Row U8 5 (v6_) (rootF (m32 1) (m32 1) 20)) :: (Row U8 5 (v8_) (rootF (m32 9) (m32 50) 30)) :: (Row U8 5 (v9_) (List.replicate 64 0)) :: (Row U8 5 (v11_) (rootF (m32 2) (m32 3) 0)) :: [Row U8 5 (.slice Ar 64 cr) r])) := ⟨hQ_⟩
          clear hQ_
          have hHeld := trivial
          have B2 := hSep.out
          obtain ⟨A2, c2, rfl⟩ := B2.rowN (n := 64) (rootF_len _ _ _)
          obtain ⟨A4, c4, rfl⟩ := B2.at2.rowN (n := 64) (rootF_len _ _ _)
          obtain ⟨A6, c6, rfl⟩ := B2.at3.rowN (n := 64) (rootF_len _ _ _)
          obtain ⟨A8, c8, rfl⟩ := B2.at4.rowN (n := 64) (rootF_len _ _ _)
          obtain ⟨A9, c9, rfl⟩ := B2.at5.rowN (n := 64) List.length_replicate
          obtain ⟨A11, c11, rfl⟩ := B2.tail.at5.rowN (n := 64) (rootF_len _ _ _)
          have B3 := Aside0.mk (B2.newBlk 30 #[.slice Ar 64 cr, .slice A2 64 c2, .slice A4 64 c4, .slice A6 64 c6, .slice A8 64 c8, .slice A9 64 c9, .slice A11 64 c11])
          clear B2
          refine norm_ (a' := ?_) ?_ ?_
          rotate_left
          · simp only [putAll, Act.put, List.setIfInBounds_toArray, List.set_cons_zero, List.set_cons_succ]
            rfl
          refine last_ (i := 12) (N := some 106) #[true, true, true, true, true, true, true, true, true, true, true, true, true, false] rfl rfl (by kernel_rfl) (by decide) (fun K hK => ?_)
          refine value_ (w1 := ?_) (v := ?_) (by rfl) rfl ?_ ?_
          rotate_left 2
          · go_simp
            constructor
            · rfl
            · rfl
          refine hK.out _ _ ?_
          clear hK K
          refine norm_ (a' := ?_) ?_ ?_
          rotate_left
          · show Act.put _ (some 106) _ = _
            simp only [Act.put, List.setIfInBounds_toArray, List.set_cons_zero, List.set_cons_succ, i64_w, i32_w]
            rfl
          refine pure_ (i := 13) (N := some 12) (v := ?_) (a' := ?_) #[true, true, true, true, true, true, true, true, true, true, true, true, true, true] rfl rfl (by kernel_rfl) (fun _ _ _ h => h) (Or.inl ⟨by rfl, ?_⟩) ?_ ?_
          rotate_left
          · intro w'
            go_simp
            with_reducible rfl
          rotate_left
          · simp only [Act.put, List.setIfInBounds_toArray, List.set_cons_zero, List.set_cons_succ, i64_w, i32_w]
            rfl
          refine done_ (by kernel_rfl) ?_
          have H7 : Aside0 (Seven W_.heap.size (W_.alloc (.cells #[.slice Ar 64 cr, .slice A2 64 c2, .slice A4 64 c4, .slice A6 64 c6, .slice A8 64 c8, .slice A9 64 c9, .slice A11 64 c11] 30))) := ⟨fun i hi => by
            have h := B3.out
            have ht := h.tail
            rcases (show i = 0 ∨ i = 1 ∨ i = 2 ∨ i = 3 ∨ i = 4 ∨ i = 5 ∨ i = 6 by omega) with rfl | rfl | rfl | rfl | rfl | rfl | rfl
            · exact ⟨Ar, cr, r, (h.cell 0).trans rfl, HRC.out, ht.tail.tail.at5.rowC', HX.out.1⟩
            · exact ⟨A2, c2, _, (h.cell 1).trans rfl, ht.rowC.2.1, ht.rowC', rootF_bytes _ _ _⟩
            · exact ⟨A4, c4, _, (h.cell 2).trans rfl, ht.at2.rowC.2.1, ht.at2.rowC', rootF_bytes _ _ _⟩
            · exact ⟨A6, c6, _, (h.cell 3).trans rfl, ht.at3.rowC.2.1, ht.at3.rowC', rootF_bytes _ _ _⟩
            · exact ⟨A8, c8, _, (h.cell 4).trans rfl, ht.at4.rowC.2.1, ht.at4.rowC', rootF_bytes _ _ _⟩
            · exact ⟨A9, c9, _, (h.cell 5).trans rfl, ht.at5.rowC.2.1, ht.at5.rowC', zeros_bytes _⟩
            · exact ⟨A11, c11, _, (h.cell 6).trans rfl, ht.tail.at5.rowC.2.1, ht.tail.at5.rowC', rootF_bytes _ _ _⟩⟩
          have HB3 := Aside0.mk B3.out.toBelow
          obtain ⟨w28, hw28⟩ : ∃ w28, W_.alloc (.cells #[.slice Ar 64 cr, .slice A2 64 c2, .slice A4 64 c4, .slice A6 64 c6, .slice A8 64 c8, .slice A9 64 c9, .slice A11 64 c11] 30) = w28 := ⟨_, rfl⟩
          rw [hw28] at H7 HB3 ⊢
          obtain ⟨g, hg⟩ : ∃ g, W_.heap.size = g := ⟨_, rfl⟩
          rw [hg] at H7 ⊢
          clear hw28 hg B3 hmk
          go_wp2_with fail
          go_loopg [109] 7 (fun n_ v wx => ∃ i : Nat, v = .int .i64 (i : Int) ∧ i + n_ = 7 ∧ Below w.heap.size w wx ∧ Seven g wx)
          case atStart => exact ⟨0, rfl, rfl, HB3.out, H7.out⟩
          case round =>
            obtain ⟨i, rfl, hi, hB, hS7⟩ := hrel
            obtain ⟨wx, rfl⟩ : ∃ x, x = wr := ⟨_, rfl⟩
            obtain ⟨G0, rfl⟩ : ∃ G, G = gk := ⟨_, rfl⟩
            have AK0 := Aside0.mk hi
            have AB0 := Aside0.mk (And.intro hB hS7)
            clear hi hB hS7
            by_cases ci : i < 7
            case neg =>
              have hil : ¬ (i : Int) < 7 := by omega
              have hild : decide ((i : Int) < 7) = false := decide_eq_false hil
              go_wp2_with fail
              refine (reads_ (A := none) (n := 0) (c := 0) (l := []) (Kd.C_nil _ _) (Nat.le_refl _) Bytes.nil).mono ?_
              rintro e wy ⟨rfl, hby⟩
              have Y1 := Aside0.mk ((Sep.start w).below AB0.out.1 |>.below hby)
              clear hby
              go_wp2_with fail
              refine (rroot_ 2147483648 1 1 (by decide) _).mono ?_
              rintro e wz ⟨vz, rfl, hSz⟩
              obtain ⟨Az, cz, rfl⟩ := hSz.rowN (n := 64) (rootF_len _ _ _)
              have Y2 := Aside0.mk (Y1.out.lift1 hSz)
              clear hSz
              go_wp2_with fail
              refine (reads_ Y2.out.rowC' Y2.out.rowC.2.1 (rootF_bytes _ _ _)).mono ?_
              rintro e wu ⟨rfl, hbu⟩
              have Y3 := Aside0.mk (Y2.out.below hbu)
              clear hbu
              go_wp2_with fail
              refine (known_ _).mono ?_
              rintro e wv ⟨rfl, hbv⟩
              have Y4 := Aside0.mk (Y3.out.below hbv)
              clear hbv
              go_wp2_with fail
              go_ret
              exact ⟨by first | rfl | (simp; done), Y4.out.toBelow⟩
            case pos =>
            have hil : (i : Int) < 7 := by omega
            have hild : decide ((i : Int) < 7) = true := decide_eq_true hil
            obtain ⟨Aa, ca, xa, f1, f2, f3, f4⟩ := AB0.out.2 i ci
            have HA := Aside0.mk (And.intro f2 (And.intro f3 f4))
            clear f2 f3 f4
            go_wp2_with fail
            clear f1
            go_loopg [115] 7 (fun n_ v wy => ∃ j : Nat, v = .int .i64 (j : Int) ∧ j + n_ = 7 ∧ Below wx.heap.size wx wy)
            case atStart => exact ⟨0, rfl, rfl, Below.refl _ _⟩
            case round =>
              obtain ⟨j, rfl, hj, hB⟩ := hrel
              obtain ⟨wy, rfl⟩ : ∃ x, x = wr := ⟨_, rfl⟩
              obtain ⟨G1, rfl⟩ : ∃ G, G = gk := ⟨_, rfl⟩
              have AK1 := Aside0.mk hj
              have AB1 := Aside0.mk hB
              clear hj hB
              by_cases cj : j < 7
              case neg =>
                have hjl : ¬ (j : Int) < 7 := by omega
                have hjld : decide ((j : Int) < 7) = false := decide_eq_false hjl
                go_wp2_with fail
                go_roundg (G0 - 1)
                case measure => have := AK0.out; omega
                case rel => exact ⟨i + 1, by go_num, by have := AK0.out; omega, ((Sep.start w).below AB0.out.1 |>.below AB1.out).toBelow, AB0.out.2.below AB1.out⟩
              case pos =>
              have hjl : (j : Int) < 7 := by omega
              have hjld : decide ((j : Int) < 7) = true := decide_eq_true hjl
              obtain ⟨Ab, cb, xb, f1, f2, f3, f4⟩ := (AB0.out.2.below AB1.out) j cj
              have HBb := Aside0.mk (And.intro f2 (And.intro f3 f4))
              have C1 : Aside0 (Sep wy _ [Row KI 3 (.slice (some ⟨wy.heap.size, 0, none⟩) 7 7) lm]) := ⟨(Sep.start wy).litRow (enc := Value.int .i64) (h1 := fun _ => rfl) (e := 3) lm (by decide)⟩
              clear f2 f3 f4
              go_wp2_with fail
              clear f1
              go_loopg [121] 7 (fun n_ v wu => ∃ k : Nat, v = .int .i64 (k : Int) ∧ k + n_ = 7 ∧ Sep wy wu [Row KI 3 (.slice (some ⟨wy.heap.size, 0, none⟩) 7 7) lm])
              case atStart => exact ⟨0, rfl, rfl, C1.out⟩
              case round =>
                obtain ⟨k, rfl, hk, hS⟩ := hrel
                have AK2 := Aside0.mk hk
                have AS2 := Aside0.mk hS
                clear hk
                by_cases ck : k < 7
                case neg =>
                  have hkl : ¬ (k : Int) < 7 := by omega
                  have hkld : decide ((k : Int) < 7) = false := decide_eq_false hkl
                  clear hS
                  go_wp2_with fail
                  go_roundg (G1 - 1)
                  case measure => have := AK1.out; omega
                  case rel => exact ⟨j + 1, by go_num, by have := AK1.out; omega, ((Sep.start wx).below AB1.out |>.below AS2.out.toBelow).toBelow⟩
                case pos =>
                have hkl : (k : Int) < 7 := by omega
                have hkld : decide ((k : Int) < 7) = true := decide_eq_true hkl
                have f1 := (hS.rowCell (enc := Value.int .i64) (0 : Int) k ck).1
                generalize lm.getD k 0 = m at f1
                clear hS
                go_wp2_with fail
                refine (lbest_ (m := m) (Kd.C_below (Kd.C_below HA.out.2.1 AB1.out) AS2.out.toBelow) HA.out.1 HA.out.2.2 (Kd.C_below HBb.out.2.1 AS2.out.toBelow) HBb.out.1 HBb.out.2.2).mono ?_
                rintro e wt ⟨rfl, hbt⟩
                have AS3 := Aside0.mk (AS2.out.below hbt)
                clear hbt f1
                go_wp2_with fail
                go_roundg (gk - 1)
                case measure => have := AK2.out; omega
                case rel => exact ⟨k + 1, by go_num, by have := AK2.out; omega, AS3.out⟩
    case pos =>
    have hil : (i : Int) < 8 := by omega
    have hild : decide ((i : Int) < 8) = true := decide_eq_true hil
    have f1 := (hS.rowCell (enc := Value.int .i64) (0 : Int) i ci).1
    generalize la.getD i 0 = x at f1
    clear hS
    have B0 : Aside0 (Sep w _ [Row KI 3 (.slice (some ⟨w1.heap.size, 0, none⟩) 6 6) lb, Row KI 3 (.slice (some ⟨w.heap.size, 0, none⟩) 8 8) la]) := ⟨AS0.out.litRow (enc := Value.int .i64) (h1 := fun _ => rfl) (e := 3) lb (by decide)⟩
    go_wp2_with fail
    clear f1
    go_loopg [27] 6 (fun n_ v w2 => ∃ j : Nat, v = .int .i64 (j : Int) ∧ j + n_ = 6 ∧ Sep w w2 [Row KI 3 (.slice (some ⟨w1.heap.size, 0, none⟩) 6 6) lb, Row KI 3 (.slice (some ⟨w.heap.size, 0, none⟩) 8 8) la])
    case atStart => exact ⟨0, rfl, rfl, B0.out⟩
    case round =>
      obtain ⟨j, rfl, hj, hS⟩ := hrel
      obtain ⟨G1, rfl⟩ : ∃ G, G = gk := ⟨_, rfl⟩
      obtain ⟨w2, rfl⟩ : ∃ x, x = wr := ⟨_, rfl⟩
      have AK1 := Aside0.mk hj
      have AS1 := Aside0.mk hS
      clear hj
      by_cases cj : j < 6
      case neg =>
        have hil : ¬ (j : Int) < 6 := by omega
        have hild : decide ((j : Int) < 6) = false := decide_eq_false hil
        clear hS
        go_wp2_with fail
        go_roundg (G0 - 1)
        case measure => have := AK0.out; omega
        case rel => exact ⟨i + 1, by go_num, by have := AK0.out; omega, AS1.out.tail⟩
      case pos =>
      have hjl : (j : Int) < 6 := by omega
      have hjld : decide ((j : Int) < 6) = true := decide_eq_true hjl
      have f1 := (hS.rowCell (enc := Value.int .i64) (0 : Int) j cj).1
      generalize lb.getD j 0 = y at f1
      clear hS
      have B1 : Aside0 (Sep w _ [Row KE 24 (.slice (some ⟨w2.heap.size, 0, none⟩) 3 3) le, Row KI 3 (.slice (some ⟨w1.heap.size, 0, none⟩) 6 6) lb, Row KI 3 (.slice (some ⟨w.heap.size, 0, none⟩) 8 8) la]) := ⟨AS1.out.litRow (enc := Value.int .u32) (h1 := fun _ => rfl) (e := 24) le (by decide)⟩
      go_wp2_with fail
      clear f1
      go_loopg [33] 3 (fun n_ v w3 => ∃ k : Nat, v = .int .i64 (k : Int) ∧ k + n_ = 3 ∧ Sep w w3 [Row KE 24 (.slice (some ⟨w2.heap.size, 0, none⟩) 3 3) le, Row KI 3 (.slice (some ⟨w1.heap.size, 0, none⟩) 6 6) lb, Row KI 3 (.slice (some ⟨w.heap.size, 0, none⟩) 8 8) la])
      case atStart => exact ⟨0, rfl, rfl, B1.out⟩
      case round =>
        obtain ⟨k, rfl, hk, hS⟩ := hrel
        obtain ⟨G2, rfl⟩ : ∃ G, G = gk := ⟨_, rfl⟩
        obtain ⟨w3, rfl⟩ : ∃ x, x = wr := ⟨_, rfl⟩
        have AK2 := Aside0.mk hk
        have AS2 := Aside0.mk hS
        clear hk
        by_cases ck : k < 3
        case neg =>
          have hil : ¬ (k : Int) < 3 := by omega
          have hild : decide ((k : Int) < 3) = false := decide_eq_false hil
          clear hS
          go_wp2_with fail
          go_roundg (G1 - 1)
          case measure => have := AK1.out; omega
          case rel => exact ⟨j + 1, by go_num, by have := AK1.out; omega, AS2.out.tail⟩
        case pos =>
        have hkl : (k : Int) < 3 := by omega
        have hkld : decide ((k : Int) < 3) = true := decide_eq_true hkl
        have f1 := (hS.rowCell (enc := Value.int .u32) (0 : Int) k ck).1
        have HE := Aside0.mk (le_in k)
        generalize le.getD k 0 = z at f1 HE
        clear hS
        have B2 : Aside0 (Sep w _ [Row KI 3 (.slice (some ⟨w3.heap.size, 0, none⟩) 6 6) ls, Row KE 24 (.slice (some ⟨w2.heap.size, 0, none⟩) 3 3) le, Row KI 3 (.slice (some ⟨w1.heap.size, 0, none⟩) 6 6) lb, Row KI 3 (.slice (some ⟨w.heap.size, 0, none⟩) 8 8) la]) := ⟨AS2.out.litRow (enc := Value.int .i64) (h1 := fun _ => rfl) (e := 3) ls (by decide)⟩
        go_wp2_with fail
        clear f1
        go_loopg [39] 6 (fun n_ v w4 => ∃ m : Nat, v = .int .i64 (m : Int) ∧ m + n_ = 6 ∧ Sep w w4 [Row KI 3 (.slice (some ⟨w3.heap.size, 0, none⟩) 6 6) ls, Row KE 24 (.slice (some ⟨w2.heap.size, 0, none⟩) 3 3) le, Row KI 3 (.slice (some ⟨w1.heap.size, 0, none⟩) 6 6) lb, Row KI 3 (.slice (some ⟨w.heap.size, 0, none⟩) 8 8) la])
        case atStart => exact ⟨0, rfl, rfl, B2.out⟩
        case round =>
          obtain ⟨m, rfl, hm, hS⟩ := hrel
          obtain ⟨G3, rfl⟩ : ∃ G, G = gk := ⟨_, rfl⟩
          obtain ⟨w4, rfl⟩ : ∃ x, x = wr := ⟨_, rfl⟩
          have AK3 := Aside0.mk hm
          have AS3 := Aside0.mk hS
          clear hm
          by_cases cm : m < 6
          case neg =>
            have hil : ¬ (m : Int) < 6 := by omega
            have hild : decide ((m : Int) < 6) = false := decide_eq_false hil
            clear hS
            go_wp2_with fail
            go_roundg (G2 - 1)
            case measure => have := AK2.out; omega
            case rel => exact ⟨k + 1, by go_num, by have := AK2.out; omega, AS3.out.tail⟩
          case pos =>
          have hml : (m : Int) < 6 := by omega
          have hmld : decide ((m : Int) < 6) = true := decide_eq_true hml
          have f1 := (hS.rowCell (enc := Value.int .i64) (0 : Int) m cm).1
          generalize ls.getD m 0 = s at f1
          clear hS
          go_wp2_with fail
          refine (same_ x y z s x HE.out _).mono ?_
          rintro e w5 ⟨rfl, hb5⟩
          have B4 := Aside0.mk (AS3.out.below hb5)
          clear hb5 f1
          go_wp2_with fail
          go_roundg (G3 - 1)
          case measure => have := AK3.out; omega
          case rel => exact ⟨m + 1, by go_num, by have := AK3.out; omega, B4.out⟩
end Go.Proofs.Ytjngnigelkgekaa.Root
