/- DeltaNumbers: the walk. -/
import Derived.Test.YtkcinjimjehcnaaLaw4e
import Derived.Test.YtkcinjimjehcnaaWGuard
namespace Go.Proofs.Ytkcinjimjehcnaa.Delta
set_option linter.unusedVariables false
set_option linter.unusedSimpArgs false
open Go.RowKit Go.Proofs.YtkcinjimjehcnaaW.PrintWords Go.Proofs.YtkcinjimjehcnaaW.PrintLast Go.Proofs.YtkcinjimjehcnaaW.PrintMore Go.Proofs.Ytkcinjimjehcnaa.Kit Go.Proofs.Ytkcinjimjehcnaa.Base Go.Proofs.Ytkcinjimjehcnaa.Plain Go.Proofs.Ytkcinjimjehcnaa.Tape
abbrev zs : List Int := List.replicate 64 0
theorem zs_bytes : Bytes zs := fun x hx => by rw [(List.mem_replicate.1 hx).2]; decide
def xl : List Chg := [(1, zs), (3, zs)]
theorem nil_bytes : Bytes [] := fun x hx => by cases hx
theorem one1 : Bytes [0] := fun x hx => by
  obtain rfl := List.mem_singleton.1 hx
  decide
theorem xl_len : (deltaF xl).length = 134 := by decide +kernel
theorem xl_bytes : Bytes (deltaF xl) := delta_bytes (fun c hc => by
  simp only [xl, List.mem_cons, List.not_mem_nil, or_false] at hc
  rcases hc with rfl | rfl <;> exact zs_bytes)
/-- Two changes of one page's bytes, as a literal. -/
theorem two_lit {w0 W : World} {F : List HP} {g : Nat} {B : Option Addr} {n c : Nat} {bs : List Int} {p q : Int} (h : Sep w0 W (Blk g 42 #[.int .i64 p, .slice B n c, .int .i64 q, .slice B n c] :: F)) (hb : U8.C W B n bs) (hc : n ≤ c) : KC.C W (some ⟨g, 0, none⟩) 2 [(p, bs), (q, bs)] := by
  obtain rfl := hb.1
  exact kc_blk (l := [(p, bs), (q, bs)]) h.blk (by simp) (fun i x hx => by
    match i, hx with
    | 0, hx => cases hx; exact ⟨_, _, rfl, rfl, hc, hb⟩
    | 1, hx => cases hx; exact ⟨_, _, rfl, rfl, hc, hb⟩)
theorem one_lit {w0 W : World} {F : List HP} {g : Nat} {B : Option Addr} {n c : Nat} {bs : List Int} {p : Int} (h : Sep w0 W (Blk g 42 #[.int .i64 p, .slice B n c] :: F)) (hb : U8.C W B n bs) (hc : n ≤ c) : KC.C W (some ⟨g, 0, none⟩) 1 [(p, bs)] := by
  obtain rfl := hb.1
  exact kc_blk (l := [(p, bs)]) h.blk (by simp) (fun i x hx => by
    match i, hx with
    | 0, hx => cases hx; exact ⟨_, _, rfl, rfl, hc, hb⟩)
set_option maxHeartbeats 6400000 in
set_option maxRecDepth 100000 in
theorem deltaNumbers_ (w : World) : Calls Try.prog 8 #[] w fun e w' => e = .returned (.bool true) ∧ Below w.heap.size w w' := by
  have hmk := make_ (m := 64) (by omega)
  rw [show ((64 : Nat) : Int) = 64 from rfl] at hmk
  have A0 := Aside0.mk (madeB 64 (Sep.start w) (by omega))
  go_enter Try.func8, Try.ntmps8
  go_wp2_with fail
  clear hmk
  obtain ⟨cut63, T63⟩ := take8 (A := some ⟨w.heap.size, 0, none⟩) (n := 64) (c := 64) (b := 63) (K := 63) (l := zs) rfl (by simp) (by decide) (by decide)
  have HT63 := Aside0.mk T63
  clear T63
  go_loopg [2] 6 (fun m v wr => ∃ j : Nat, v = .int .i64 ((j : Int) - 1) ∧ j + m = 6 ∧ Sep w wr [Row U8 5 (.slice (some ⟨w.heap.size, 0, none⟩) 64 64) zs])
  case atStart => exact ⟨0, rfl, rfl, A0.out⟩
  case round =>
    obtain ⟨j, rfl, hjm, hS⟩ := hrel
    obtain ⟨G, rfl⟩ : ∃ G, G = gk := ⟨_, rfl⟩
    have AK := Aside0.mk hjm
    have AS := Aside0.mk hS
    clear hS
    by_cases hj : j < 6
    · have hjp : (j : Int) - 1 < 5 := by omega
      have hj0 : 0 ≤ (j : Int) := by omega
      clear hjm
      go_wp2_with fail
      go_loopg [3] 6 (fun m v wr => ∃ i : Nat, v = .int .i64 ((i : Int) - 1) ∧ i + m = 6 ∧ Sep w wr [Row U8 5 (.slice (some ⟨w.heap.size, 0, none⟩) 64 64) zs])
      case atStart => exact ⟨0, rfl, rfl, AS.out⟩
      case round =>
        obtain ⟨i, rfl, him, hS⟩ := hrel
        obtain ⟨G2, rfl⟩ : ∃ G2, G2 = gk := ⟨_, rfl⟩
        have AK2 := Aside0.mk him
        have AS2 := Aside0.mk hS
        clear hS
        by_cases hi : i < 6
        · have hip : (i : Int) - 1 < 5 := by omega
          have hi0 : 0 ≤ (i : Int) := by omega
          clear him
          go_wp2_with fail
          go_loopg [4] 7 (fun m v wr => ∃ k : Nat, v = .int .i64 ((k : Int) - 1) ∧ k + m = 7 ∧ Sep w wr [Row U8 5 (.slice (some ⟨w.heap.size, 0, none⟩) 64 64) zs])
          case atStart => exact ⟨0, rfl, rfl, AS2.out⟩
          case round =>
            obtain ⟨k, rfl, hkm, hS⟩ := hrel
            have AK3 := Aside0.mk hkm
            have AS3 := Aside0.mk hS
            clear hS
            by_cases hk : k < 7
            · have hkp : (k : Int) - 1 < 6 := by omega
              have hk0 : 0 ≤ (k : Int) := by omega
              clear hkm
              have L1 := Aside0.mk (AS3.out.newBlk 42 #[.int .i64 ((j : Int) - 1), .slice (some ⟨w.heap.size, 0, none⟩) 64 64, .int .i64 ((i : Int) - 1), .slice (some ⟨w.heap.size, 0, none⟩) 64 64])
              go_wp2_with fail
              refine (lsame_ (two_lit L1.out L1.out.at2.rowC' (Nat.le_refl _)) ((k : Int) - 1)).mono ?_
              rintro e w2 ⟨rfl, hb2⟩
              have B2 := Aside0.mk (L1.out.below hb2).tail
              clear hb2
              have L2 := Aside0.mk (B2.out.newBlk 42 #[.int .i64 ((j : Int) - 1), .slice (some ⟨w.heap.size, 0, none⟩) 63 64])
              go_wp2_with fail
              refine (lsame_ (one_lit L2.out (HT63.out _ L2.out.at2.rowC') (by decide)) ((k : Int) - 1)).mono ?_
              rintro e w3 ⟨rfl, hb3⟩
              have B3 := Aside0.mk (L2.out.below hb3).tail
              clear hb3
              go_wp2_with fail
              refine (lsame_ (A := none) (n := 0) (c := 0) (l := []) (Kd.C_nil _ _) _).mono ?_
              rintro e w4 ⟨rfl, hb4⟩
              have B4 := Aside0.mk (B3.out.below hb4)
              clear hb4
              go_wp2_with fail
              go_roundg (gk - 1)
              case measure => have := AK3.out; omega
              case rel => exact ⟨k + 1, by go_num, by have := AK3.out; omega, B4.out⟩
            · have hkp : ¬ (k : Int) - 1 < 6 := by omega
              clear hkm
              go_wp2_with fail
              go_roundg (G2 - 1)
              case measure => have := AK2.out; omega
              case rel => exact ⟨i + 1, by go_num, by have := AK2.out; omega, AS3.out⟩
        · have hip : ¬ (i : Int) - 1 < 5 := by omega
          clear him
          go_wp2_with fail
          go_roundg (G - 1)
          case measure => have := AK.out; omega
          case rel => exact ⟨j + 1, by go_num, by have := AK.out; omega, AS2.out⟩
    · have hjp : ¬ (j : Int) - 1 < 5 := by omega
      clear hjm
      have L1 := Aside0.mk (AS.out.newBlk 42 #[.int .i64 1, .slice (some ⟨w.heap.size, 0, none⟩) 64 64, .int .i64 3, .slice (some ⟨w.heap.size, 0, none⟩) 64 64])
      go_wp2_with fail
      refine (rdelta_ (l := xl) (two_lit L1.out L1.out.at2.rowC' (Nat.le_refl _)) (by rw [xl_len]; decide)).mono ?_
      rintro e w2 ⟨v2, rfl, hS2⟩
      obtain ⟨Ax, cx, rfl⟩ := hS2.rowN xl_len
      have B2 := Aside0.mk (L1.out.lift1 hS2)
      clear hS2
      have X0 := Aside0.mk (Sep.weakR (L := [Row U8 5 (.slice Ax 134 cx) (deltaF xl)]) B2.out)
      have hcx : 134 ≤ cx := B2.out.rowC.2.1
      clear B2 L1 AS A0 HT63 cut63
      go_wp2_with fail
      go_loopg [6] 135 (fun m v wr => ∃ k : Nat, v = .int .i64 (k : Int) ∧ k + m = 135 ∧ Sep w wr [Row U8 5 (.slice Ax 134 cx) (deltaF xl)])
      case atStart => exact ⟨0, rfl, rfl, X0.out⟩
      case round =>
        obtain ⟨k, rfl, hkm, hS⟩ := hrel
        have AK4 := Aside0.mk hkm
        have X1 := Aside0.mk hS
        clear hS
        by_cases hk : k < 135
        · have hkp : (k : Int) ≤ 134 := by omega
          obtain ⟨cutK, TK⟩ := take8 (A := Ax) (n := 134) (c := cx) (b := k) (K := (k : Int)) (l := deltaF xl) rfl xl_len (by omega) hcx
          have HTK := Aside0.mk TK
          have HLK : Aside0 (((deltaF xl).take k).length = k) := ⟨by rw [List.length_take, xl_len]; omega⟩
          have hkc : k ≤ cx := by omega
          clear hkm TK
          go_wp2_with fail
          refine (lreads_ (HTK.out _ X1.out.rowC') hkc (xl_bytes.take k) (by omega) 4).mono ?_
          rintro e w3 ⟨rfl, hb3⟩
          have L3 := Aside0.mk ((X1.out.below hb3).litRow (enc := Value.int .u8) (h1 := fun _ => rfl) (e := 5) [] (by decide))
          clear hb3
          go_wp2_with (first
            | (refine gate_builtin (b := .append) (xs := #[.tmp 66, .tmp 69]) rfl ?_; refine gate_guard (by rfl) ?_; go_loud (refine L3.out.appendRow rfl (.tmp 66) (.tmp 69) 22 (.int .u8 0) 1 rfl Try.underlying22 infoB rfl (by decide) Ax k cx rfl rfl (HTK.out _ L3.out.at2.rowC') (by rw [HLK.out]; simp; omega) ?_; intro v4 w4 hS4; obtain ⟨A4, c4, rfl⟩ := hS4.rowN (n := k) (by rw [List.nil_append]; exact HLK.out); have L5 := Aside0.mk (hS4.litRow (enc := Value.int .u8) (h1 := fun _ => rfl) (e := 5) [0] (by decide)).at2; clear hS4))
            | (refine gate_builtin (b := .append) (xs := #[.tmp 70, .tmp 71]) rfl ?_; refine gate_guard (by rfl) ?_; go_loud (refine L5.out.appendRow rfl (.tmp 70) (.tmp 71) 22 (.int .u8 0) 1 rfl Try.underlying22 infoB rfl (by decide) (some ⟨w4.heap.size, 0, none⟩) 1 1 rfl rfl L5.out.at2.rowC' (by rw [List.nil_append, HLK.out]; simp; omega) ?_; intro v6 w6 hS6; obtain ⟨A6, c6, rfl⟩ := hS6.rowN (n := k + 1) (by rw [List.nil_append, List.length_append, HLK.out]; rfl); have B6 := Aside0.mk hS6.drop2; clear hS6)))
          refine (lreads_ B6.out.rowC' B6.out.rowC.2.1 ((nil_bytes.app (xl_bytes.take k)).app one1) (by omega) 4).mono ?_
          rintro e w7 ⟨rfl, hb7⟩
          have X7 := Aside0.mk (B6.out.below hb7).tail
          clear hb7 cutK
          by_cases hk2 : k < 134
          · have hkp2 : (k : Int) < 134 := by omega
            obtain ⟨x0, hx0⟩ : ∃ x0, (deltaF xl).getD k 0 = x0 := ⟨_, rfl⟩
            have HX0 := Aside0.mk hx0
            clear hx0
            have L7 := Aside0.mk (X7.out.litRow (enc := Value.int .u8) (h1 := fun _ => rfl) (e := 5) [] (by decide))
            go_wp2_with (first | (refine gate_builtin (b := .append) (xs := #[.tmp 80, .tmp 81]) rfl ?_; go_loud (refine L7.out.appendRow rfl (.tmp 80) (.tmp 81) 22 (.int .u8 0) 1 rfl Try.underlying22 infoB rfl (by decide) Ax 134 cx rfl rfl L7.out.at2.rowC' (by rw [xl_len]; decide) ?_; intro v8 w8 hS8; rw [List.nil_append] at hS8; obtain ⟨g8, c8, rfl⟩ := hS8.rowFormN (n := 134) xl_len (by decide); have f1 := (hS8.rowCell (0 : Int) k hk2).1; rw [HX0.out] at f1; have f2 := (hS8.rowCell (0 : Int) k hk2).2; have B8 := Aside0.mk hS8; clear hS8)))
            have S9 := B8.out.putRow (enc := Value.int .u8) k (Go.bits .xor .u8 x0 3)
            have HYB : Aside0 (Bytes ((deltaF xl).set k (Go.bits .xor .u8 x0 3))) := ⟨bytes_set xl_bytes (xor8_in x0 3).1 (xor8_in x0 3).2 k⟩
            have B9 := Aside0.mk S9
            clear S9
            go_wp2_with fail
            refine (lreads_ B9.out.rowC' B9.out.rowC.2.1 HYB.out (by decide) 4).mono ?_
            rintro e w10 ⟨rfl, hb10⟩
            have B10 := Aside0.mk (B9.out.below hb10)
            clear hb10 f1 f2
            go_wp2_with fail
            refine (lreads_ B10.out.rowC' B10.out.rowC.2.1 HYB.out (by decide) 9).mono ?_
            rintro e w11 ⟨rfl, hb11⟩
            have B11 := Aside0.mk (B10.out.below hb11).tail
            clear hb11
            go_wp2_with fail
            go_roundg (gk - 1)
            case measure => have := AK4.out; omega
            case rel => exact ⟨k + 1, by go_num, by have := AK4.out; omega, B11.out⟩
          · have hkp2 : ¬ (k : Int) < 134 := by omega
            go_wp2_with fail
            go_roundg (gk - 1)
            case measure => have := AK4.out; omega
            case rel => exact ⟨k + 1, by go_num, by have := AK4.out; omega, X7.out⟩
        · have hkp : ¬ (k : Int) ≤ 134 := by omega
          clear hkm
          go_wp2_with fail
          go_loopg [8] 70 (fun m v wr => ∃ q : Nat, v = .int .i64 ((q : Int) - 2) ∧ q + m = 70 ∧ Sep w wr [Row U8 5 (.slice Ax 134 cx) (deltaF xl)])
          case atStart => exact ⟨0, rfl, rfl, X1.out⟩
          case round =>
            obtain ⟨q, rfl, hqm, hS⟩ := hrel
            have AK5 := Aside0.mk hqm
            have X5 := Aside0.mk hS
            clear hS
            by_cases hq : q < 70
            · have hqp : (q : Int) - 2 < 68 := by omega
              have hq0 : 0 ≤ (q : Int) := by omega
              clear hqm
              go_wp2_with fail
              refine (need_ ((q : Int) - 2) _).mono ?_
              rintro e wn ⟨rfl, rfl⟩
              go_wp2_with fail
              refine (rneed_ ((q : Int) - 2) _).mono ?_
              rintro e wn ⟨rfl, rfl⟩
              generalize needF ((q : Int) - 2) = nd
              have hnd : (nd != nd) = false := by simp
              go_wp2_with fail
              go_roundg (gk - 1)
              case measure => have := AK5.out; omega
              case rel => exact ⟨q + 1, by go_num, by have := AK5.out; omega, X5.out⟩
            · have hqp : ¬ (q : Int) - 2 < 68 := by omega
              clear hqm
              go_wp2_with fail
              refine (lreads_ X5.out.rowC' hcx xl_bytes (by decide) 3).mono ?_
              rintro e w10 ⟨rfl, hb10⟩
              have B10 := Aside0.mk (X5.out.below hb10)
              clear hb10
              go_wp2_with fail
              refine (lreads_ B10.out.rowC' hcx xl_bytes (by decide) 65).mono ?_
              rintro e w11 ⟨rfl, hb11⟩
              have B11 := Aside0.mk (B10.out.below hb11)
              clear hb11
              go_wp2_with fail
              refine (lreads_ B11.out.rowC' hcx xl_bytes (by decide) (-1)).mono ?_
              rintro e w12 ⟨rfl, hb12⟩
              have B12 := Aside0.mk (B11.out.below hb12)
              clear hb12
              go_wp2_with fail
              refine (known_ _).mono ?_
              rintro e w13 ⟨rfl, hb13⟩
              go_wp2_with fail
              go_ret
              exact ⟨by first | rfl | (simp; done), (B12.out.below hb13).toBelow⟩
end Go.Proofs.Ytkcinjimjehcnaa.Delta
