/- Redo4, Redo14, Redo15, Open: what RedoNumbers needs. -/
import Derived.Test.YtjngnigelkgekaaTredoNumbers14
import Derived.Test.YtjngnigelkgekaaProg
import Derived.WalkKit
import Derived.ProofKit
import Derived.OpenShut
import Derived.ShutString
import Derived.ChangeOld
import Derived.Below
import Derived.SizedLaws
namespace Go.Proofs.Ytjngnigelkgekaa.Redo
set_option linter.unusedVariables false
set_option linter.unusedSimpArgs false
open Go.RowKit Go.Proofs.YtjngnigelkgekaaW.PrintWords Go.Proofs.YtjngnigelkgekaaW.PrintLast Go.Proofs.YtjngnigelkgekaaW.PrintMore Go.Proofs.Ytjngnigelkgekaa.Kit Go.Proofs.Ytjngnigelkgekaa.Plain Go.Proofs.Ytjngnigelkgekaa.Disk Go.Proofs.Ytjngnigelkgekaa.Root
/-- A constant's block, for good. -/
theorem litFx {w0 W : World} {F : List HP} (h : Sep w0 W F) (k : IntKind) (C : Array Value) (t : TypeId) (fr : Nat × Nat) (xs : List Int) (hC : C = (xs.map (Value.int k)).toArray) (hn : xs.length ≤ 9223372036854775807) :
    Sep w0 (W.alloc (.cells C t fr)) (Fx (fun W' => Kd.C (Kd.int k) W' (some ⟨W.heap.size, 0, none⟩) xs.length xs) :: F) := by
  subst hC
  refine h.gain (below_alloc (Below.refl _ _) _) (ok := fun j => j = W.heap.size) ⟨fun W' hm => ?_, fun j hj => by rw [hj, show (W.alloc (.cells (xs.map (Value.int k)).toArray t fr)).heap.size = W.heap.size + 1 from by simp]; omega⟩ (fun j hj => by omega)
  refine Kd.C_of_reads (enc := Value.int k) (d := 0) (h1 := fun _ => rfl) ⟨rfl, hn, fun _ => ⟨_, rfl, fun j hj => ?_⟩⟩
  have h2 : W'.cell? ((⟨W.heap.size, 0, none⟩ : Addr).add j) = (W.alloc (.cells (xs.map (Value.int k)).toArray t fr)).cell? ((⟨W.heap.size, 0, none⟩ : Addr).add j) := by
    rw [add_plain]
    unfold World.cell?
    rw [hm _ rfl]
  rw [h2, add_plain, World.cell?_alloc_mark]
  simp [List.getD_eq_getElem?_getD, hj]
abbrev kz : List Int := List.replicate (8 * 64) 0
abbrev ka : List Int := [97, 99, 114, 111, 115, 115]
abbrev kw : Wt := appW kz (fun _ => none) 60 ka
theorem kz_len : kz.length = 64 * 8 := by rw [List.length_replicate]
theorem k_log0 : logF 8 kz (fun _ => none) 2 3 4 = List.replicate 128 0 := by decide +kernel
theorem k_ok : okA 8 2 3 4 60 6 = true := by decide +kernel
theorem k_ok2 : okA 8 2 3 4 128 1 = false := by decide +kernel
theorem k_ok3 : okA 8 2 3 4 128 0 = true := by decide +kernel
theorem k_app : appR 8 kz (fun _ => none) 2 3 4 60 ka = kw := rfl
theorem k_log1 : (logF 8 kz kw 2 3 4).length = 128 := by decide +kernel
theorem k_sub : ((logF 8 kz kw 2 3 4).take 66).drop 60 = ka := by decide +kernel
theorem k_str : strOfNums ka = ⟨#[97, 99, 114, 111, 115, 115]⟩ := by decide +kernel
theorem k_keys : keysI kz kw = [2, 3] := by decide +kernel
theorem k_log2 (wt : Wt) : logF 8 kz wt 0 0 0 = [] := by
  unfold logF
  rw [if_neg (by decide)]
theorem k_app2 (wt : Wt) : appR 8 kz wt 2 3 4 128 [120] = wt := rfl
theorem k_app3 (wt : Wt) : appR 8 kz wt 2 3 4 128 [] = wt := by
  show appW kz wt 128 [] = wt
  exact appW_nil _ _ _
set_option maxHeartbeats 1600000 in
set_option maxRecDepth 100000 in
theorem known_ (w : World) : Calls Try.prog 62 #[] w fun e w' => e = .returned (.bool true) ∧ Below w.heap.size w w' := by
  have kc := fun (w : World) (C : Array Value) (n c : Nat) => Lib.run_convert_bytes_const (P := Try.prog) w 30 5 C n c Try.underlying30 Try.underlying5
  have HZL := Aside0.mk kz_len
  have HL0 := Aside0.mk k_log0
  have HA1 := Aside0.mk k_app
  have HK1 := Aside0.mk k_keys
  have HG1 := Aside0.mk k_log1
  have HS1 := Aside0.mk k_sub
  have HG2 := Aside0.mk k_log2
  have HA2 := Aside0.mk k_app2
  have HA3 := Aside0.mk k_app3
  have HW1 : Aside0 (∀ i b, kw i = some b → b.length = 64) := ⟨appW_len (n := 8) kz_len Ref.none_len (by decide)⟩
  generalize hkw : kw = tw at HA1 HK1 HG1 HS1 HW1
  generalize hkz : kz = zz at HZL HL0 HA1 HK1 HG1 HS1 HG2 HA2 HA3
  have HZ := Aside0.mk hkz
  clear hkz hkw
  go_enter Try.func62, Try.ntmps62
  go_wp2_with fail
  refine (new_ok (n := 8) (by decide) (by decide)).mono ?_
  rintro e w1 ⟨g, rfl, hS1⟩
  rw [show List.replicate (8 * 64) (0 : Int) = zz from HZ.out] at hS1
  have B1 := Aside0.mk (hS1.newBlk 26 #[.int .i64 2, .int .i64 3, .int .u32 4])
  have z0 := (B1.out.cell 0).trans rfl
  have z1 := (B1.out.cell 1).trans rfl
  have z2 := (B1.out.cell 2).trans rfl
  clear hS1
  go_wp2_with fail
  refine (records_no B1.out.at2 HZL.out Ref.none_len 2 3 4 (by rw [HL0.out]; decide) (by rw [HL0.out]; exact fun x hx => by have := List.eq_of_mem_replicate hx; omega) (by rw [HL0.out]; decide +kernel)).mono ?_
  rintro e w2 ⟨rfl, hS2⟩
  have B2 := Aside0.mk hS2.at2
  have B3 := Aside0.mk (litFx hS2.at2 .u8 #[.int .u8 97, .int .u8 99, .int .u8 114, .int .u8 111, .int .u8 115, .int .u8 115] 5 (6, 7) ka rfl (by decide))
  clear z0 z1 z2 hS2
  have z0 := (B2.out.cell 0).trans rfl
  have z1 := (B2.out.cell 1).trans rfl
  have z2 := (B2.out.cell 2).trans rfl
  go_wp2_with fail
  refine (append_ (n := 8) (xs := ka) (m := 6) (cp := 6) B3.out.at3 HZL.out (by decide) Ref.none_len 2 3 4 60 (by decide) (fun W' hW => hW.fx) (Nat.le_refl _)).mono ?_
  rintro e w3 ⟨rfl, hS3⟩
  rw [HA1.out] at hS3
  rw [k_ok]
  have B4 := Aside0.mk hS3
  clear z0 z1 z2 hS3
  have z0 := (B4.out.at3.cell 0).trans rfl
  have z1 := (B4.out.at3.cell 1).trans rfl
  have z2 := (B4.out.at3.cell 2).trans rfl
  go_wp2_with fail
  refine (bytes_ B4.out HZL.out HW1.out 2 3 4).mono ?_
  rintro e w4 ⟨v4, rfl, hS4⟩
  obtain ⟨A4, c4, rfl⟩ := hS4.rowN (n := 128) HG1.out
  have hc4 := hS4.rowC.2.1
  obtain ⟨A5, hcut, hC5⟩ := Base.mid8 (A := A4) (n := 128) (c := c4) (a := 60) (b := 66) (l := logF 8 zz tw 2 3 4) (J := 60) (K := 66) rfl rfl HG1.out (by decide) (by decide) hc4
  have h5 := hC5 _ hS4.rowC'
  rw [HS1.out] at h5
  have hs5 := Str.strC (c := c4 - 60) h5
  rw [k_str] at hs5
  have B5 := Aside0.mk hS4.tail
  clear z0 z1 z2 hS4 hC5 h5
  rw [show 66 - 60 = 6 from rfl] at hcut hs5
  go_wp2_with fail
  clear hs5 hcut
  refine (waits_ B5.out).mono ?_
  rintro e w6 ⟨v6, rfl, hS6⟩
  rw [HK1.out] at hS6
  obtain ⟨A6, c6, rfl⟩ := hS6.rowN (n := 2) rfl
  have B6 := Aside0.mk (hS6.litRow (enc := Value.int .i64) (h1 := fun _ => rfl) (e := 3) [2, 3] (by decide))
  clear hS6
  go_wp2_with fail
  refine (Book.sameI_ (xs := [2, 3]) (ys := [2, 3]) B6.out.at2.rowC.2.2 B6.out.rowC.2.2).mono ?_
  rintro e w7 ⟨rfl, hb7⟩
  have B7 := Aside0.mk (B6.out.below hb7).tail.tail
  clear hb7
  rw [show decide ([(2 : Int), 3] = [2, 3]) = true from rfl]
  have B8 := Aside0.mk (litFx B7.out .u8 #[.int .u8 120] 5 (1, 2) [120] rfl (by decide))
  have z0 := (B7.out.at3.cell 0).trans rfl
  have z1 := (B7.out.at3.cell 1).trans rfl
  have z2 := (B7.out.at3.cell 2).trans rfl
  go_wp2_with fail
  refine (append_ (n := 8) (xs := [120]) (m := 1) (cp := 1) B8.out.at2 HZL.out (by decide) HW1.out 2 3 4 128 (by decide) (fun W' hW => hW.fx) (Nat.le_refl _)).mono ?_
  rintro e w9 ⟨rfl, hS9⟩
  rw [HA2.out] at hS9
  rw [k_ok2]
  have B9 := Aside0.mk hS9
  clear z0 z1 z2 hS9 kc
  have z0 := (B9.out.at4.cell 0).trans rfl
  have z1 := (B9.out.at4.cell 1).trans rfl
  have z2 := (B9.out.at4.cell 2).trans rfl
  go_wp2_with fail
  refine (append_ (n := 8) (xs := []) (m := 0) (cp := 0) B9.out HZL.out (by decide) HW1.out 2 3 4 128 (by decide) (fun W' hW => Kd.C_nil _ _) (Nat.le_refl _)).mono ?_
  rintro e w10 ⟨rfl, hS10⟩
  rw [HA3.out] at hS10
  rw [k_ok3]
  have B10 := Aside0.mk hS10
  clear z0 z1 z2 hS10
  go_wp2_with fail
  refine (bytes_ B10.out HZL.out HW1.out 0 0 0).mono ?_
  rintro e w11 ⟨v11, rfl, hS11⟩
  rw [HG2.out] at hS11
  obtain ⟨A11, c11, rfl⟩ := hS11.rowN (n := 0) rfl
  have B11 := Aside0.mk hS11.tail
  clear hS11
  have z0 := (B11.out.at4.cell 0).trans rfl
  have z1 := (B11.out.at4.cell 1).trans rfl
  have z2 := (B11.out.at4.cell 2).trans rfl
  go_wp2_with fail
  refine (append_nil 2 3 4 0 _).mono ?_
  rintro e w12 ⟨rfl, hb12⟩
  have B12 := Aside0.mk (B11.out.below hb12)
  clear z0 z1 z2 hb12
  go_wp2_with fail
  go_ret
  exact ⟨by first | rfl | (simp; done), B12.out.toBelow⟩
end Go.Proofs.Ytjngnigelkgekaa.Redo
namespace Go.Proofs.Ytjngnigelkgekaa.Redo
set_option linter.unusedVariables false
set_option linter.unusedSimpArgs false
open Go.RowKit Go.Proofs.YtjngnigelkgekaaW.PrintWords Go.Proofs.YtjngnigelkgekaaW.PrintLast Go.Proofs.YtjngnigelkgekaaW.PrintMore Go.Proofs.Ytjngnigelkgekaa.Kit Go.Proofs.Ytjngnigelkgekaa.Plain Go.Proofs.Ytjngnigelkgekaa.Disk Go.Proofs.Ytjngnigelkgekaa.Root Go.Proofs.Ytjngnigelkgekaa.Frame
open Go.Proofs.Ytjngnigelkgekaa.Home (K2 RT)
end Go.Proofs.Ytjngnigelkgekaa.Redo
namespace Go.Proofs.Ytjngnigelkgekaa.Redo
set_option linter.unusedVariables false
set_option linter.unusedSimpArgs false
open Go.RowKit Go.Proofs.YtjngnigelkgekaaW.PrintWords Go.Proofs.YtjngnigelkgekaaW.PrintLast Go.Proofs.YtjngnigelkgekaaW.PrintMore Go.Proofs.Ytjngnigelkgekaa.Kit Go.Proofs.Ytjngnigelkgekaa.Plain Go.Proofs.Ytjngnigelkgekaa.Disk Go.Proofs.Ytjngnigelkgekaa.Root Go.Proofs.Ytjngnigelkgekaa.Frame
open Go.Proofs.Ytjngnigelkgekaa.Home (K2 RT)
/-- Slices in cells, read. -/
def RowsAt (W : World) (vs : List Value) (xs : List (List Int)) : Prop := ∀ (i : Nat) (x : List Int), xs[i]? = some x → ∃ A c, vs[i]? = some (Value.slice A x.length c) ∧ x.length ≤ c ∧ (Kd.int .u8).C W A x.length x
theorem RowsAt.nil (W : World) : RowsAt W [] [] := fun i x h => by simp at h
theorem RowsAt.cons {W : World} {vs : List Value} {xs : List (List Int)} {x : List Int} {A : Option Addr} {n c : Nat} (h : RowsAt W vs xs) (hc : n ≤ c) (hx : (Kd.int .u8).C W A n x) : RowsAt W (.slice A n c :: vs) (x :: xs) := fun i y hy => by
  cases i with
  | zero =>
    obtain rfl : x = y := by simpa using hy
    have hl : x.length = n := hx.1
    exact ⟨A, c, by rw [hl]; rfl, by rw [hl]; exact hc, by rw [hl]; exact hx⟩
  | succ i => exact h i y (by simpa using hy)
/-- Rows told by their cells. -/
theorem blk_rows {w0 W : World} {F : List HP} {g : Nat} {t : TypeId} {vs : List Value} {xs : List (List Int)} (h : Sep w0 W (Blk g t vs.toArray :: F)) {n : Nat} (hn : xs.length = n) (hl : n ≤ 9223372036854775807) (hx : RowsAt W vs xs) : K2.C W (some ⟨g, 0, none⟩) n xs := by
  refine ⟨hn, hl, fun _ => ⟨_, rfl, fun i x hi => ?_⟩⟩
  obtain ⟨A, c, h1, h2, h3⟩ := hx i x hi
  refine ⟨[.slice A x.length c], rfl, ⟨A, c, rfl, h2, h3⟩, fun j u hj => ?_⟩
  have hj0 : j = 0 := by
    have := (List.getElem?_eq_some_iff.1 hj).1
    simp at this; omega
  subst hj0
  have hu : u = .slice A x.length c := by simpa using hj.symm
  subst hu
  rw [show i * K2.sz + 0 = i from Nat.mul_one i, add_plain, h.cell]
  simpa using h1
theorem two_in {av : Int} (h : -9223372036854775808 ≤ av ∧ av ≤ 9223372036854775000) : ∀ x ∈ [av, av + 5], -9223372036854775808 ≤ x ∧ x ≤ 9223372036854775807 := fun x hx => by
  simp at hx
  omega
theorem two_bts {xs : List Int} {n : Nat} (h : Bytes xs) : ∀ x ∈ [xs.take n, xs.take 9], Bytes x := fun x hx => by
  simp at hx
  rcases hx with rfl | rfl
  · exact h.take _
  · exact h.take _
theorem x200 {w0 W : World} {F : List HP} {g : Nat} {xs : List Int} (h : Sep w0 W (Row (Kd.int .u8) 5 (.slice (some ⟨g, 0, none⟩) 200 200) xs :: F)) (hl : xs.length = 200) : (Kd.int .u8).C W (some ⟨g, 0, none⟩) 200 xs := by
  have h2 := h.rowC.2.2
  rwa [hl] at h2
abbrev rootsC : Array Value := #[.int .i64 0, .int .i64 0, .int .u32 0, .int .i64 11, .int .i64 1, .int .u32 1, .int .i64 1, .int .i64 1, .int .u32 0, .int .i64 (-1), .int .i64 1, .int .u32 1, .int .i64 9, .int .i64 1, .int .u32 9]
theorem roots_at : ∀ {j : Nat}, j < 5 → ∃ ra rb rc, rootsC[j * 3]? = some (.int .i64 ra) ∧ rootsC[j * 3 + 1]? = some (.int .i64 rb) ∧ rootsC[j * 3 + 2]? = some (.int .u32 rc)
  | 0, _ => ⟨_, _, _, rfl, rfl, rfl⟩
  | 1, _ => ⟨_, _, _, rfl, rfl, rfl⟩
  | 2, _ => ⟨_, _, _, rfl, rfl, rfl⟩
  | 3, _ => ⟨_, _, _, rfl, rfl, rfl⟩
  | 4, _ => ⟨_, _, _, rfl, rfl, rfl⟩
  | j + 5, h => by omega
theorem six_rows {W : World} {A : Option Addr} {xs : List Int} (t1 : ∀ W : World, (Kd.int .u8).C W A 200 xs → (Kd.int .u8).C W A 64 (xs.take 64)) (t2 : ∀ W : World, (Kd.int .u8).C W A 200 xs → (Kd.int .u8).C W A 1 (xs.take 1)) (t3 : ∀ W : World, (Kd.int .u8).C W A 200 xs → (Kd.int .u8).C W A 3 (xs.take 3)) (h : (Kd.int .u8).C W A 200 xs) :
    RowsAt W [.slice A 200 200, .slice A 64 200, .slice A 1 200, .slice none 0 0, .slice A 3 200, .slice A 3 200] [xs, xs.take 64, xs.take 1, [], xs.take 3, xs.take 3] :=
  ((((((RowsAt.nil W).cons (by decide) (t3 _ h)).cons (by decide) (t3 _ h)).cons (Nat.le_refl _) (Kd.C_nil _ _)).cons (by decide) (t2 _ h)).cons (by decide) (t1 _ h)).cons (by decide) h
theorem six_bts {xs : List Int} (h : Bytes xs) : ∀ x ∈ [xs, xs.take 64, xs.take 1, [], xs.take 3, xs.take 3], Bytes x := fun x hx => by
  simp only [List.mem_cons, List.not_mem_nil, or_false] at hx
  rcases hx with rfl | rfl | rfl | rfl | rfl | rfl
  · exact h
  · exact h.take _
  · exact h.take _
  · exact Bytes.nil
  · exact h.take _
  · exact h.take _
theorem sq_nums {i : Nat} (h : i ≤ 200) : wrap64 ((i : Int) * (i : Int)) = (i : Int) * (i : Int) := by
  have h2 : i * i ≤ 200 * 200 := Nat.mul_le_mul h h
  have h3 : ((i * i : Nat) : Int) = (i : Int) * (i : Int) := Int.natCast_mul i i
  exact IntWalk.wrap64_in _ (by omega)
theorem logged4_ {A : Option Addr} {n c0 : Nat} {L : List Int} {w : World} (ht : I64.C w A n L) (c at_ turn : Int) (hc : 0 ≤ c ∧ c ≤ 4294967295) (h0 : 0 ≤ turn ∧ turn ≤ 255) :
    Calls Try.prog 61 #[.slice A n c0, .agg #[.int .i64 20, .int .i64 4, .int .u32 c], .int .i64 at_, .int .u8 turn] w fun e w' => e = .returned (.bool true) ∧ Below w.heap.size w w' := logged_ ht 20 c at_ turn 4 (by decide) hc h0
theorem tp_nums {i m : Nat} (hi : i < 90) (hm : m < 40) : wrap64 ((i : Int) * (i : Int)) = (i : Int) * (i : Int) ∧ wrap64 ((i : Int) * (i : Int) * 7) = (i : Int) * (i : Int) * 7 ∧ wrap64 ((m : Int) * 31) = (m : Int) * 31 ∧ wrap64 ((i : Int) * (i : Int) * 7 + (m : Int) * 31) = (i : Int) * (i : Int) * 7 + (m : Int) * 31 ∧ wrap64 ((i : Int) * (m : Int)) = (i : Int) * (m : Int) ∧ wrap64 ((i : Int) * (i : Int) * 7 + (m : Int) * 31 + (i : Int) * (m : Int)) = (i : Int) * (i : Int) * 7 + (m : Int) * 31 + (i : Int) * (m : Int) := by
  have h1 : i * i ≤ 90 * 90 := Nat.mul_le_mul (by omega) (by omega)
  have h2 : i * m ≤ 90 * 40 := Nat.mul_le_mul (by omega) (by omega)
  have h3 : ((i * i : Nat) : Int) = (i : Int) * (i : Int) := Int.natCast_mul i i
  have h4 : ((i * m : Nat) : Int) = (i : Int) * (m : Int) := Int.natCast_mul i m
  generalize (i : Int) * (i : Int) = a at *
  generalize (i : Int) * (m : Int) = b at *
  exact ⟨IntWalk.wrap64_in _ (by omega), IntWalk.wrap64_in _ (by omega), IntWalk.wrap64_in _ (by omega), IntWalk.wrap64_in _ (by omega), IntWalk.wrap64_in _ (by omega), IntWalk.wrap64_in _ (by omega)⟩
set_option maxHeartbeats 3200000 in
set_option maxRecDepth 100000 in
theorem redoNumbers_ (w : World) : Calls Try.prog 15 #[] w fun e w' => e = .returned (.bool true) ∧ Below w.heap.size w w' := by
  have hmk : ∀ W : World, (Instr.makeSlice 30 (.int .i64 200) (.int .i64 200)).run Try.prog W = .ok (.slice (some ⟨W.heap.size, 0, none⟩) 200 200) (W.alloc (.cells (madeCells #[.int .u8 0] 200) 5)) := make_ (m := 200) (by omega)
  have M1 := Aside0.mk (madeB 200 (Sep.start w) (by omega))
  have HZ : Aside0 ((List.replicate 200 (0 : Int)).length = 200 ∧ Bytes (List.replicate 200 (0 : Int))) := ⟨List.length_replicate, zeros_bytes 200⟩
  obtain ⟨G, hG⟩ : ∃ G, w.heap.size = G := ⟨_, rfl⟩
  generalize List.replicate 200 (0 : Int) = zz at M1 HZ
  go_enter Try.func15, Try.ntmps15
  go_wp2_with fail
  rw [hG] at M1
  have HG := Aside0.mk hG
  clear hG
  go_loopg [13] 200 (fun k_ p wr => ∃ (j : Nat) (xs : List Int), p = .int .i64 (j : Int) ∧ j + k_ = 200 ∧ xs.length = 200 ∧ Bytes xs ∧ Sep w wr [Row U8 5 (.slice (some ⟨G, 0, none⟩) 200 200) xs])
  case atStart => exact ⟨0, zz, rfl, by omega, HZ.out.1, HZ.out.2, M1.out⟩
  case round =>
    obtain ⟨j, xs, rfl, hjk, hxl, hxb, hS⟩ := hrel
    obtain ⟨w1, rfl⟩ : ∃ x, x = wr := ⟨_, rfl⟩
    have AK := Aside0.mk hjk
    have AS := Aside0.mk hS
    have HX := Aside0.mk (And.intro hxl hxb)
    clear hS hxl hxb hmk
    by_cases cj : j < 200
    case pos =>
      have hjl : (j : Int) < 200 := by omega
      obtain ⟨f1, f2⟩ := AS.out.rowCell (0 : Int) j cj
      have hsq := sq_nums (i := j) (by omega)
      have HY : Aside0 (0 ≤ ((j : Int) * (j : Int) + 1) % 256 ∧ ((j : Int) * (j : Int) + 1) % 256 ≤ 255) := ⟨by omega⟩
      have S2 := Aside0.mk (AS.out.putRow (enc := Value.int .u8) j (((j : Int) * (j : Int) + 1) % 256))
      clear hjk
      go_wp2_with fail
      go_roundg (gk - 1)
      case measure => have := AK.out; omega
      case rel => exact ⟨j + 1, _, by go_num, by have := AK.out; omega, by rw [List.length_set]; exact HX.out.1, Tape.bytes_set HX.out.2 HY.out.1 HY.out.2 j, S2.out⟩
    case neg =>
    obtain rfl : j = 200 := by omega
    clear hjk cj
    go_wp2_with fail
    go_loopg [3] 29 (fun k_ p wr => ∃ (k : Nat) (av : Int), p = .int .i64 av ∧ av = 7 * (k : Int) - 1 ∧ k + k_ = 29 ∧ Sep w wr [Row U8 5 (.slice (some ⟨G, 0, none⟩) 200 200) xs])
    case atStart => exact ⟨0, -1, rfl, by decide, by decide, AS.out⟩
    case round =>
      obtain ⟨k, av, rfl, hav, hkk, hS⟩ := hrel
      obtain ⟨G1, rfl⟩ : ∃ G, G = gk := ⟨_, rfl⟩
      obtain ⟨w2, rfl⟩ : ∃ x, x = wr := ⟨_, rfl⟩
      have AK2 := Aside0.mk (And.intro hav hkk)
      have AS2 := Aside0.mk hS
      clear hS
      by_cases cav : av < 200
      case pos =>
        have hwa : wrap64 (av + 7) = av + 7 := IntWalk.wrap64_in _ (by omega)
        clear hav hkk
        go_wp2_with fail
        go_loopg [4] 16 (fun k_ p wr => ∃ (q n : Nat), p = .int .i64 (n : Int) ∧ n = 13 * q ∧ q + k_ = 16 ∧ Sep w wr [Row U8 5 (.slice (some ⟨G, 0, none⟩) 200 200) xs])
        case atStart => exact ⟨0, 0, rfl, rfl, by decide, AS2.out⟩
        case round =>
          obtain ⟨q, n, rfl, hnq, hqk, hS⟩ := hrel
          obtain ⟨w3, rfl⟩ : ∃ x, x = wr := ⟨_, rfl⟩
          have AK3 := Aside0.mk (And.intro hnq hqk)
          have AS3 := Aside0.mk hS.drew
          have AS3' := Aside0.mk hS
          clear hS
          by_cases cn : n < 200
          case pos =>
            have hnl : (n : Int) < 200 := by omega
            have hw5 : wrap64 (av + 5) = av + 5 := IntWalk.wrap64_in _ (by have := AK2.out; omega)
            obtain ⟨hcut1, hT1⟩ := Base.take8 (A := some ⟨G, 0, none⟩) (c := 200) (b := n) (K := (n : Int)) rfl HX.out.1 (by omega) (Nat.le_refl _)
            obtain ⟨hcut2, hT2⟩ := Base.take8 (A := some ⟨G, 0, none⟩) (c := 200) (b := 9) (K := 9) rfl HX.out.1 (by decide) (Nat.le_refl _)
            have HT1 := Aside0.mk hT1
            have HT2 := Aside0.mk hT2
            have HAV : Aside0 (-9223372036854775808 ≤ av ∧ av ≤ 9223372036854775000) := ⟨by have := AK2.out; omega⟩
            clear hnq hqk cn hT1 hT2
            go_wp2_with fail
            refine start_ (n := 13) (S := fun w' => True) (ds := [11]) #[false, false, false, false, false, false, false, false, false, false, false, false, false] (by kernel_rfl) rfl rfl trivial (fun hHeld => ?_)
            refine pure_ (i := 0) (N := some 33) (v := ?_) (a' := ?_) #[true, false, false, false, false, false, false, false, false, false, false, false, false] rfl rfl (by kernel_rfl) (fun _ _ _ h => h) (Or.inl ⟨by rfl, ?_⟩) ?_ ?_
            rotate_left
            · intro w'
              go_simp
              with_reducible rfl
            rotate_left
            · simp only [Act.put, List.setIfInBounds_toArray, List.set_cons_zero, List.set_cons_succ, i64_w, i32_w]
              rfl
            refine pure_ (i := 1) (N := some 34) (v := ?_) (a' := ?_) #[true, true, false, false, false, false, false, false, false, false, false, false, false] rfl rfl (by kernel_rfl) (fun _ _ _ h => h) (Or.inl ⟨by rfl, ?_⟩) ?_ ?_
            rotate_left
            · intro w'
              go_simp
              with_reducible rfl
            rotate_left
            · simp only [Act.put, List.setIfInBounds_toArray, List.set_cons_zero, List.set_cons_succ, i64_w, i32_w]
              rfl
            refine pure_ (i := 2) (N := some 35) (v := ?_) (a' := ?_) #[true, true, true, false, false, false, false, false, false, false, false, false, false] rfl rfl (by kernel_rfl) (fun _ _ _ h => h) (Or.inl ⟨by rfl, ?_⟩) ?_ ?_
            rotate_left
            · intro w'
              go_simp
              with_reducible rfl
            rotate_left
            · simp only [Act.put, List.setIfInBounds_toArray, List.set_cons_zero, List.set_cons_succ, i64_w, i32_w]
              rfl
            refine pure_ (i := 3) (N := some 36) (v := ?_) (a' := ?_) #[true, true, true, true, false, false, false, false, false, false, false, false, false] rfl rfl (by kernel_rfl) (fun _ _ _ h => h) (Or.inl ⟨by rfl, ?_⟩) ?_ ?_
            rotate_left
            · intro w'
              go_simp
              with_reducible rfl
            rotate_left
            · simp only [Act.put, List.setIfInBounds_toArray, List.set_cons_zero, List.set_cons_succ, i64_w, i32_w]
              rfl
            refine pure_ (i := 5) (N := some 38) (v := ?_) (a' := ?_) #[true, true, true, true, false, true, false, false, false, false, false, false, false] rfl rfl (by kernel_rfl) (fun _ _ _ h => h) (Or.inl ⟨by rfl, ?_⟩) ?_ ?_
            rotate_left
            · intro w'
              go_simp
              with_reducible rfl
            rotate_left
            · simp only [Act.put, List.setIfInBounds_toArray, List.set_cons_zero, List.set_cons_succ, i64_w, i32_w]
              rfl
            refine pure_ (i := 6) (N := some 39) (v := ?_) (a' := ?_) #[true, true, true, true, false, true, true, false, false, false, false, false, false] rfl rfl (by kernel_rfl) (fun _ _ _ h => h) (Or.inl ⟨by rfl, ?_⟩) ?_ ?_
            rotate_left
            · intro w'
              go_simp
              with_reducible rfl
            rotate_left
            · simp only [Act.put, List.setIfInBounds_toArray, List.set_cons_zero, List.set_cons_succ, i64_w, i32_w]
              rfl
            refine pure_ (i := 7) (N := some 40) (v := ?_) (a' := ?_) #[true, true, true, true, false, true, true, true, false, false, false, false, false] rfl rfl (by kernel_rfl) (fun _ _ _ h => h) (Or.inl ⟨by rfl, ?_⟩) ?_ ?_
            rotate_left
            · intro w'
              go_simp
              with_reducible rfl
            rotate_left
            · simp only [Act.put, List.setIfInBounds_toArray, List.set_cons_zero, List.set_cons_succ, i64_w, i32_w]
              rfl
            refine pure_ (i := 8) (N := some 41) (v := ?_) (a' := ?_) #[true, true, true, true, false, true, true, true, true, false, false, false, false] rfl rfl (by kernel_rfl) (fun _ _ _ h => h) (Or.inl ⟨by rfl, ?_⟩) ?_ ?_
            rotate_left
            · intro w'
              go_simp
              with_reducible rfl
            rotate_left
            · simp only [Act.put, List.setIfInBounds_toArray, List.set_cons_zero, List.set_cons_succ, i64_w, i32_w]
              rfl
            refine pure_ (i := 9) (N := some 42) (v := ?_) (a' := ?_) #[true, true, true, true, false, true, true, true, true, true, false, false, false] rfl rfl (by kernel_rfl) (fun _ _ _ h => h) (Or.inl ⟨by rfl, ?_⟩) ?_ ?_
            rotate_left
            · intro w'
              go_simp
              with_reducible rfl
            rotate_left
            · simp only [Act.put, List.setIfInBounds_toArray, List.set_cons_zero, List.set_cons_succ, i64_w, i32_w]
              rfl
            refine join_ (σ := Value × Nat) 2 #[true, true, true, true, true, true, true, true, true, true, true, false, false] (fun s_ => [(37, s_.1), (43, .slice (some ⟨s_.2, 0, none⟩) 2 2)]) (fun s_ w' => Sep w w' ((Row (Kd.int .i64) 3 (s_.1) [av, av + 5]) :: (Blk (s_.2) 30 #[.slice (some ⟨G, 0, none⟩) n 200, .slice (some ⟨G, 0, none⟩) 9 200]) :: [Row U8 5 (.slice (some ⟨G, 0, none⟩) 200 200) xs])) ?_ ?_
            rotate_left
            · intro hJ4_10
              refine join_ (σ := Value) 3 #[true, true, true, true, true, true, true, true, true, true, false, false, false] (fun s_ => [(37, s_)]) (fun s_ w' => Sep w w' ((Row (Kd.int .i64) 3 (s_) [av, av + 5]) :: [Row U8 5 (.slice (some ⟨G, 0, none⟩) 200 200) xs])) ?_ ?_
              rotate_left
              · intro hJ4
                refine join_ (σ := Nat) 3 #[true, true, true, true, false, true, true, true, true, true, true, false, false] (fun s_ => [(43, .slice (some ⟨s_, 0, none⟩) 2 2)]) (fun s_ w' => Sep w w' ((Blk (s_) 30 #[.slice (some ⟨G, 0, none⟩) n 200, .slice (some ⟨G, 0, none⟩) 9 200]) :: [Row U8 5 (.slice (some ⟨G, 0, none⟩) 200 200) xs])) ?_ ?_
                rotate_left
                · intro hJ10
                  refine two_ (i := 4) (j := 10) (Ni := some 37) (Nj := some 43) #[true, true, true, true, true, true, true, true, true, true, false, false, false] #[true, true, true, true, false, true, true, true, true, true, true, false, false] rfl rfl rfl rfl (by kernel_rfl) (by decide) (by decide) (fun K hK => ?_) (fun K hK => ?_)
                  · skip
                    refine value_ (w1 := ?_) (v := ?_) (by rfl) rfl ?_ ?_
                    rotate_left 2
                    · go_simp
                      constructor
                      · rfl
                      · rfl
                    have hN := (AS3.out).litRow (enc := Value.int .i64) (h1 := fun _ => rfl) (e := 3) [av, av + 5] (by simp)
                    refine hK.out _ _ trivial (fun hHeld => ?_)
                    clear hK K
                    refine norm_ (a' := ?_) ?_ ?_
                    rotate_left
                    · show Act.put _ (some 37) _ = _
                      simp only [Act.put, List.setIfInBounds_toArray, List.set_cons_zero, List.set_cons_succ, i64_w, i32_w]
                      rfl
                    exact norm_ (by first | (simp only [putAll, Act.put, List.setIfInBounds_toArray, List.set_cons_zero, List.set_cons_succ]; done) | (simp only [putAll, Act.put, List.setIfInBounds_toArray, List.set_cons_zero, List.set_cons_succ]; rfl)) (hJ4 (.slice (some ⟨(w3.drew).heap.size, 0, none⟩) 2 2) _ hN)
                  · skip
                    refine value_ (w1 := ?_) (v := ?_) (by rfl) rfl ?_ ?_
                    rotate_left 2
                    · go_simp
                      constructor
                      · rfl
                      · rfl
                    have hN := (AS3.out).newBlk 30 #[.slice (some ⟨G, 0, none⟩) n 200, .slice (some ⟨G, 0, none⟩) 9 200]
                    refine hK.out _ _ trivial (fun hHeld => ?_)
                    clear hK K
                    refine norm_ (a' := ?_) ?_ ?_
                    rotate_left
                    · show Act.put _ (some 43) _ = _
                      simp only [Act.put, List.setIfInBounds_toArray, List.set_cons_zero, List.set_cons_succ, i64_w, i32_w]
                      rfl
                    exact norm_ (by first | (simp only [putAll, Act.put, List.setIfInBounds_toArray, List.set_cons_zero, List.set_cons_succ]; done) | (simp only [putAll, Act.put, List.setIfInBounds_toArray, List.set_cons_zero, List.set_cons_succ]; rfl)) (hJ10 (w3.drew).heap.size _ hN)
                · skip
                  rintro v10_ W_ hQ_
                  have hSep : Aside0 (Sep w W_ ((Blk (v10_) 30 #[.slice (some ⟨G, 0, none⟩) n 200, .slice (some ⟨G, 0, none⟩) 9 200]) :: [Row U8 5 (.slice (some ⟨G, 0, none⟩) 200 200) xs])) := ⟨hQ_⟩
                  clear hQ_
                  have hHeld := trivial
                  refine norm_ (a' := ?_) ?_ ?_
                  rotate_left
                  · simp only [putAll, Act.put, List.setIfInBounds_toArray, List.set_cons_zero, List.set_cons_succ]
                    rfl
                  refine one_ (i := 4) (N := some 37) #[true, true, true, true, true, true, true, true, true, true, true, false, false] rfl rfl (by kernel_rfl) (by decide) (fun K hK => ?_)
                  refine value_ (w1 := ?_) (v := ?_) (by rfl) rfl ?_ ?_
                  rotate_left 2
                  · go_simp
                    constructor
                    · rfl
                    · rfl
                  have hN := (hSep.out).litRow (enc := Value.int .i64) (h1 := fun _ => rfl) (e := 3) [av, av + 5] (by simp)
                  refine hK.out _ _ trivial (fun hHeld => ?_)
                  clear hK K
                  refine norm_ (a' := ?_) ?_ ?_
                  rotate_left
                  · show Act.put _ (some 37) _ = _
                    simp only [Act.put, List.setIfInBounds_toArray, List.set_cons_zero, List.set_cons_succ, i64_w, i32_w]
                    rfl
                  exact norm_ (by first | (simp only [putAll, Act.put, List.setIfInBounds_toArray, List.set_cons_zero, List.set_cons_succ]; done) | (simp only [putAll, Act.put, List.setIfInBounds_toArray, List.set_cons_zero, List.set_cons_succ]; rfl)) (hJ4_10 (.slice (some ⟨(W_).heap.size, 0, none⟩) 2 2, v10_) _ hN)
              · skip
                rintro v4_ W_ hQ_
                have hSep : Aside0 (Sep w W_ ((Row (Kd.int .i64) 3 (v4_) [av, av + 5]) :: [Row U8 5 (.slice (some ⟨G, 0, none⟩) 200 200) xs])) := ⟨hQ_⟩
                clear hQ_
                have hHeld := trivial
                refine norm_ (a' := ?_) ?_ ?_
                rotate_left
                · simp only [putAll, Act.put, List.setIfInBounds_toArray, List.set_cons_zero, List.set_cons_succ]
                  rfl
                refine one_ (i := 10) (N := some 43) #[true, true, true, true, true, true, true, true, true, true, true, false, false] rfl rfl (by kernel_rfl) (by decide) (fun K hK => ?_)
                refine value_ (w1 := ?_) (v := ?_) (by rfl) rfl ?_ ?_
                rotate_left 2
                · go_simp
                  constructor
                  · rfl
                  · rfl
                have hN := (hSep.out).newBlk 30 #[.slice (some ⟨G, 0, none⟩) n 200, .slice (some ⟨G, 0, none⟩) 9 200]
                refine hK.out _ _ trivial (fun hHeld => ?_)
                clear hK K
                refine norm_ (a' := ?_) ?_ ?_
                rotate_left
                · show Act.put _ (some 43) _ = _
                  simp only [Act.put, List.setIfInBounds_toArray, List.set_cons_zero, List.set_cons_succ, i64_w, i32_w]
                  rfl
                exact norm_ (by first | (simp only [putAll, Act.put, List.setIfInBounds_toArray, List.set_cons_zero, List.set_cons_succ]; done) | (simp only [putAll, Act.put, List.setIfInBounds_toArray, List.set_cons_zero, List.set_cons_succ]; rfl)) (hJ4_10 (v4_, (W_).heap.size) _ hN.at2)
            rintro ⟨v4_, v10_⟩ W_ hQ_
            have hSep : Aside0 (Sep w W_ ((Row (Kd.int .i64) 3 (v4_) [av, av + 5]) :: (Blk (v10_) 30 #[.slice (some ⟨G, 0, none⟩) n 200, .slice (some ⟨G, 0, none⟩) 9 200]) :: [Row U8 5 (.slice (some ⟨G, 0, none⟩) 200 200) xs])) := ⟨hQ_⟩
            clear hQ_
            have hHeld := trivial
            have hN0 := hSep.out
            obtain ⟨A4, c4, rfl⟩ := hN0.rowN (n := 2) rfl
            have B0 := Aside0.mk hN0
            clear hN0
            refine norm_ (a' := ?_) ?_ ?_
            rotate_left
            · simp only [putAll, Act.put, List.setIfInBounds_toArray, List.set_cons_zero, List.set_cons_succ]
              rfl
            refine last_ (i := 11) (N := some 44) #[true, true, true, true, true, true, true, true, true, true, true, true, false] rfl rfl (by kernel_rfl) (by decide) (fun K hK => ?_)
            refine goes_ Try.func60 (by kernel_rfl) rfl #[.agg #[.int .i64 3, .int .i64 2, .int .u32 1], .slice A4 2 c4, .slice (some ⟨v10_, 0, none⟩) 2 2] (by rfl) rfl rfl (by simp only [List.map_toArray, List.map_cons, List.map_nil]; rfl) ?_
            with_reducible refine (plays_ (ats := [av, av + 5]) (ls := [xs.take n, xs.take 9]) B0.out.rowC' (two_in HAV.out) (blk_rows (n := 2) (vs := [_, _]) B0.out.at2 rfl (by decide) (((RowsAt.nil _).cons (by decide) (HT2.out _ (x200 B0.out.at3 HX.out.1))).cons (by have := AK3.out; omega) (HT1.out _ (x200 B0.out.at3 HX.out.1)))) (two_bts HX.out.2) 3 2 1).mono ?_
            rintro e w11 ⟨rfl, hb11⟩
            refine ⟨_, rfl, ?_⟩
            have B11 := Aside0.mk (B0.out.below hb11)
            clear hb11
            refine hK.out _ _ ?_
            clear hK K
            refine norm_ (a' := ?_) ?_ ?_
            rotate_left
            · show Act.put _ (some 44) _ = _
              simp only [Act.put, List.setIfInBounds_toArray, List.set_cons_zero, List.set_cons_succ, i64_w, i32_w]
              rfl
            refine pure_ (i := 12) (N := some 45) (v := ?_) (a' := ?_) #[true, true, true, true, true, true, true, true, true, true, true, true, true] rfl rfl (by kernel_rfl) (fun _ _ _ h => h) (Or.inl ⟨by rfl, ?_⟩) ?_ ?_
            rotate_left
            · intro w'
              go_simp
              with_reducible rfl
            rotate_left
            · simp only [Act.put, List.setIfInBounds_toArray, List.set_cons_zero, List.set_cons_succ, i64_w, i32_w]
              rfl
            refine done_ (by kernel_rfl) ?_
            go_wp2_with fail
            go_roundg (gk - 1)
            case measure => have := AK3.out; omega
            case rel => exact ⟨q + 1, n + 13, by go_num, by have := AK3.out; omega, by have := AK3.out; omega, B11.out.tail.tail⟩
          case neg =>
          have hnl : ¬ (n : Int) < 200 := by omega
          clear hnq hqk cn
          go_wp2_with fail
          go_roundg (G1 - 1)
          case measure => have := AK2.out; omega
          case rel => exact ⟨k + 1, av + 7, by go_num, by have := AK2.out; omega, by have := AK2.out; omega, AS3'.out⟩
      case neg =>
      clear hav hkk
      have AS4 := Aside0.mk (AS2.out.newBlk 26 rootsC)
      obtain ⟨G5, hG5⟩ : ∃ G, w2.heap.size = G := ⟨_, rfl⟩
      go_wp2_with fail
      rw [hG5] at AS4
      clear hG5
      go_loopg [53] 5 (fun k_ p wr => ∃ (j : Nat), p = .int .i64 (j : Int) ∧ j + k_ = 5 ∧ Sep w wr [Blk G5 26 rootsC, Row U8 5 (.slice (some ⟨G, 0, none⟩) 200 200) xs])
      case atStart => exact ⟨0, rfl, by decide, AS4.out⟩
      case round =>
        obtain ⟨j, rfl, hjk, hS⟩ := hrel
        obtain ⟨w3, rfl⟩ : ∃ x, x = wr := ⟨_, rfl⟩
        have AK3 := Aside0.mk hjk
        have AS5 := Aside0.mk hS
        clear hS
        by_cases cj : j < 5
        case pos =>
          have hjl : (j : Int) < 5 := by omega
          obtain ⟨ra, rb, rc, q0, q1, q2⟩ := roots_at cj
          have z0 : w3.cell? ⟨G5, j * 3, none⟩ = some (.int .i64 ra) := (AS5.out.cell _).trans q0
          have z1 : w3.cell? ⟨G5, j * 3 + 1, none⟩ = some (.int .i64 rb) := (AS5.out.cell _).trans q1
          have z2 : w3.cell? ⟨G5, j * 3 + 2, none⟩ = some (.int .u32 rc) := (AS5.out.cell _).trans q2
          obtain ⟨G6, hG6⟩ : ∃ G, w3.heap.size = G := ⟨_, rfl⟩
          have AS6 := Aside0.mk (AS5.out.newBlk 26 #[.int .i64 ra, .int .i64 rb, .int .u32 rc])
          rw [hG6] at AS6
          clear q0 q1 q2 hjk cj
          go_wp2_with fail
          obtain ⟨w4, hw4⟩ : ∃ x, w3.alloc (.cells #[.int .i64 ra, .int .i64 rb, .int .u32 rc] 26) = x := ⟨_, rfl⟩
          rw [hw4] at AS6 ⊢
          have AS7 := Aside0.mk AS6.out.drew
          clear hw4 hG6 z0 z1 z2
          obtain ⟨hcut1, hT1⟩ := Base.take8 (A := some ⟨G, 0, none⟩) (c := 200) (b := 64) (K := 64) rfl HX.out.1 (by decide) (Nat.le_refl _)
          obtain ⟨hcut2, hT2⟩ := Base.take8 (A := some ⟨G, 0, none⟩) (c := 200) (b := 1) (K := 1) rfl HX.out.1 (by decide) (Nat.le_refl _)
          obtain ⟨hcut3, hT3⟩ := Base.take8 (A := some ⟨G, 0, none⟩) (c := 200) (b := 3) (K := 3) rfl HX.out.1 (by decide) (Nat.le_refl _)
          have HT1 := Aside0.mk hT1
          have HT2 := Aside0.mk hT2
          have HT3 := Aside0.mk hT3
          clear hT1 hT2 hT3
          refine start_ (n := 14) (S := fun w' => w'.cell? ⟨G6, 0, none⟩ = some (.int .i64 ra) ∧ w'.cell? ⟨G6, 1, none⟩ = some (.int .i64 rb) ∧ w'.cell? ⟨G6, 2, none⟩ = some (.int .u32 rc)) (ds := [12]) #[false, false, false, false, false, false, false, false, false, false, false, false, false, false] (by kernel_rfl) rfl rfl ⟨(AS7.out.cell 0).trans rfl, (AS7.out.cell 1).trans rfl, (AS7.out.cell 2).trans rfl⟩ (fun hHeld => ?_)
          refine pure_ (i := 2) (N := some 59) (v := ?_) (a' := ?_) #[false, false, true, false, false, false, false, false, false, false, false, false, false, false] rfl rfl (by kernel_rfl) (fun _ _ _ h => h) (Or.inl ⟨by rfl, ?_⟩) ?_ ?_
          rotate_left
          · intro w'
            go_simp
            with_reducible rfl
          rotate_left
          · simp only [Act.put, List.setIfInBounds_toArray, List.set_cons_zero, List.set_cons_succ, i64_w, i32_w]
            rfl
          refine pure_ (i := 3) (N := some 60) (v := ?_) (a' := ?_) #[false, false, true, true, false, false, false, false, false, false, false, false, false, false] rfl rfl (by kernel_rfl) (fun _ _ _ h => h) (Or.inl ⟨by rfl, ?_⟩) ?_ ?_
          rotate_left
          · intro w'
            go_simp
            with_reducible rfl
          rotate_left
          · simp only [Act.put, List.setIfInBounds_toArray, List.set_cons_zero, List.set_cons_succ, i64_w, i32_w]
            rfl
          refine pure_ (i := 4) (N := some 61) (v := ?_) (a' := ?_) #[false, false, true, true, true, false, false, false, false, false, false, false, false, false] rfl rfl (by kernel_rfl) (fun _ _ _ h => h) (Or.inl ⟨by rfl, ?_⟩) ?_ ?_
          rotate_left
          · intro w'
            go_simp
            with_reducible rfl
          rotate_left
          · simp only [Act.put, List.setIfInBounds_toArray, List.set_cons_zero, List.set_cons_succ, i64_w, i32_w]
            rfl
          refine pure_ (i := 5) (N := some 62) (v := ?_) (a' := ?_) #[false, false, true, true, true, true, false, false, false, false, false, false, false, false] rfl rfl (by kernel_rfl) (fun _ _ _ h => h) (Or.inl ⟨by rfl, ?_⟩) ?_ ?_
          rotate_left
          · intro w'
            go_simp
            with_reducible rfl
          rotate_left
          · simp only [Act.put, List.setIfInBounds_toArray, List.set_cons_zero, List.set_cons_succ, i64_w, i32_w]
            rfl
          refine pure_ (i := 6) (N := some 63) (v := ?_) (a' := ?_) #[false, false, true, true, true, true, true, false, false, false, false, false, false, false] rfl rfl (by kernel_rfl) (fun _ _ _ h => h) (Or.inl ⟨by rfl, ?_⟩) ?_ ?_
          rotate_left
          · intro w'
            go_simp
            with_reducible rfl
          rotate_left
          · simp only [Act.put, List.setIfInBounds_toArray, List.set_cons_zero, List.set_cons_succ, i64_w, i32_w]
            rfl
          refine pure_ (i := 7) (N := some 64) (v := ?_) (a' := ?_) #[false, false, true, true, true, true, true, true, false, false, false, false, false, false] rfl rfl (by kernel_rfl) (fun _ _ _ h => h) (Or.inl ⟨by rfl, ?_⟩) ?_ ?_
          rotate_left
          · intro w'
            go_simp
            with_reducible rfl
          rotate_left
          · simp only [Act.put, List.setIfInBounds_toArray, List.set_cons_zero, List.set_cons_succ, i64_w, i32_w]
            rfl
          refine pure_ (i := 8) (N := some 65) (v := ?_) (a' := ?_) #[false, false, true, true, true, true, true, true, true, false, false, false, false, false] rfl rfl (by kernel_rfl) (fun _ _ _ h => h) (Or.inl ⟨by rfl, ?_⟩) ?_ ?_
          rotate_left
          · intro w'
            go_simp
            with_reducible rfl
          rotate_left
          · simp only [Act.put, List.setIfInBounds_toArray, List.set_cons_zero, List.set_cons_succ, i64_w, i32_w]
            rfl
          refine pure_ (i := 9) (N := some 66) (v := ?_) (a' := ?_) #[false, false, true, true, true, true, true, true, true, true, false, false, false, false] rfl rfl (by kernel_rfl) (fun _ _ _ h => h) (Or.inl ⟨by rfl, ?_⟩) ?_ ?_
          rotate_left
          · intro w'
            go_simp
            with_reducible rfl
          rotate_left
          · simp only [Act.put, List.setIfInBounds_toArray, List.set_cons_zero, List.set_cons_succ, i64_w, i32_w]
            rfl
          refine pure_ (i := 10) (N := some 67) (v := ?_) (a' := ?_) #[false, false, true, true, true, true, true, true, true, true, true, false, false, false] rfl rfl (by kernel_rfl) (fun _ _ _ h => h) (Or.inl ⟨by rfl, ?_⟩) ?_ ?_
          rotate_left
          · intro w'
            go_simp
            with_reducible rfl
          rotate_left
          · simp only [Act.put, List.setIfInBounds_toArray, List.set_cons_zero, List.set_cons_succ, i64_w, i32_w]
            rfl
          refine take_ (i := 0) (N := some 57) (v := ?_) (a' := ?_) #[true, false, true, true, true, true, true, true, true, true, true, false, false, false] rfl rfl (by kernel_rfl) (fun _ _ _ h => h) (Or.inl ⟨by rfl, ?_⟩) hHeld ?_ ?_
          rotate_left
          · rintro w' ⟨s0, s1, s2⟩
            go_simp
            with_reducible rfl
          rotate_left
          · simp only [Act.put, List.setIfInBounds_toArray, List.set_cons_zero, List.set_cons_succ, i64_w, i32_w]
            rfl
          refine join_ (σ := Value × Nat) 2 #[true, true, true, true, true, true, true, true, true, true, true, true, false, false] (fun s_ => [(58, s_.1), (68, .slice (some ⟨s_.2, 0, none⟩) 6 6)]) (fun s_ w' => (w'.cell? ⟨G6, 0, none⟩ = some (.int .i64 ra) ∧ w'.cell? ⟨G6, 1, none⟩ = some (.int .i64 rb) ∧ w'.cell? ⟨G6, 2, none⟩ = some (.int .u32 rc)) ∧ Sep w w' ((Row (Kd.int .i64) 3 (s_.1) [0, 64, 640, 576, -9223372036854775808, 9223372036854775807]) :: (Blk (s_.2) 30 #[.slice (some ⟨G, 0, none⟩) 200 200, .slice (some ⟨G, 0, none⟩) 64 200, .slice (some ⟨G, 0, none⟩) 1 200, .slice none 0 0, .slice (some ⟨G, 0, none⟩) 3 200, .slice (some ⟨G, 0, none⟩) 3 200]) :: [Blk G6 26 #[.int .i64 ra, .int .i64 rb, .int .u32 rc], Blk G5 26 rootsC, Row U8 5 (.slice (some ⟨G, 0, none⟩) 200 200) xs])) ?_ ?_
          rotate_left
          · intro hJ1_11
            refine join_ (σ := Value) 3 #[true, true, true, true, true, true, true, true, true, true, true, false, false, false] (fun s_ => [(58, s_)]) (fun s_ w' => (w'.cell? ⟨G6, 0, none⟩ = some (.int .i64 ra) ∧ w'.cell? ⟨G6, 1, none⟩ = some (.int .i64 rb) ∧ w'.cell? ⟨G6, 2, none⟩ = some (.int .u32 rc)) ∧ Sep w w' ((Row (Kd.int .i64) 3 (s_) [0, 64, 640, 576, -9223372036854775808, 9223372036854775807]) :: [Blk G6 26 #[.int .i64 ra, .int .i64 rb, .int .u32 rc], Blk G5 26 rootsC, Row U8 5 (.slice (some ⟨G, 0, none⟩) 200 200) xs])) ?_ ?_
            rotate_left
            · intro hJ1
              refine join_ (σ := Nat) 3 #[true, false, true, true, true, true, true, true, true, true, true, true, false, false] (fun s_ => [(68, .slice (some ⟨s_, 0, none⟩) 6 6)]) (fun s_ w' => (w'.cell? ⟨G6, 0, none⟩ = some (.int .i64 ra) ∧ w'.cell? ⟨G6, 1, none⟩ = some (.int .i64 rb) ∧ w'.cell? ⟨G6, 2, none⟩ = some (.int .u32 rc)) ∧ Sep w w' ((Blk (s_) 30 #[.slice (some ⟨G, 0, none⟩) 200 200, .slice (some ⟨G, 0, none⟩) 64 200, .slice (some ⟨G, 0, none⟩) 1 200, .slice none 0 0, .slice (some ⟨G, 0, none⟩) 3 200, .slice (some ⟨G, 0, none⟩) 3 200]) :: [Blk G6 26 #[.int .i64 ra, .int .i64 rb, .int .u32 rc], Blk G5 26 rootsC, Row U8 5 (.slice (some ⟨G, 0, none⟩) 200 200) xs])) ?_ ?_
              rotate_left
              · intro hJ11
                refine two_ (i := 1) (j := 11) (Ni := some 58) (Nj := some 68) #[true, true, true, true, true, true, true, true, true, true, true, false, false, false] #[true, false, true, true, true, true, true, true, true, true, true, true, false, false] rfl rfl rfl rfl (by kernel_rfl) (by decide) (by decide) (fun K hK => ?_) (fun K hK => ?_)
                · skip
                  refine value_ (w1 := ?_) (v := ?_) (by rfl) rfl ?_ ?_
                  rotate_left 2
                  · go_simp
                    constructor
                    · rfl
                    · rfl
                  have hN := (AS7.out).litRow (enc := Value.int .i64) (h1 := fun _ => rfl) (e := 3) [0, 64, 640, 576, -9223372036854775808, 9223372036854775807] (by decide)
                  refine hK.out _ _ ⟨(hN.tail.cell 0).trans rfl, (hN.tail.cell 1).trans rfl, (hN.tail.cell 2).trans rfl⟩ (fun hHeld => ?_)
                  clear hK K
                  refine norm_ (a' := ?_) ?_ ?_
                  rotate_left
                  · show Act.put _ (some 58) _ = _
                    simp only [Act.put, List.setIfInBounds_toArray, List.set_cons_zero, List.set_cons_succ, i64_w, i32_w]
                    rfl
                  exact norm_ (by first | (simp only [putAll, Act.put, List.setIfInBounds_toArray, List.set_cons_zero, List.set_cons_succ]; done) | (simp only [putAll, Act.put, List.setIfInBounds_toArray, List.set_cons_zero, List.set_cons_succ]; rfl)) (hJ1 (.slice (some ⟨(w4.drew).heap.size, 0, none⟩) 6 6) _ ⟨hHeld, hN⟩)
                · skip
                  refine value_ (w1 := ?_) (v := ?_) (by rfl) rfl ?_ ?_
                  rotate_left 2
                  · go_simp
                    constructor
                    · rfl
                    · rfl
                  have hN := (AS7.out).newBlk 30 #[.slice (some ⟨G, 0, none⟩) 200 200, .slice (some ⟨G, 0, none⟩) 64 200, .slice (some ⟨G, 0, none⟩) 1 200, .slice none 0 0, .slice (some ⟨G, 0, none⟩) 3 200, .slice (some ⟨G, 0, none⟩) 3 200]
                  refine hK.out _ _ ⟨(hN.tail.cell 0).trans rfl, (hN.tail.cell 1).trans rfl, (hN.tail.cell 2).trans rfl⟩ (fun hHeld => ?_)
                  clear hK K
                  refine norm_ (a' := ?_) ?_ ?_
                  rotate_left
                  · show Act.put _ (some 68) _ = _
                    simp only [Act.put, List.setIfInBounds_toArray, List.set_cons_zero, List.set_cons_succ, i64_w, i32_w]
                    rfl
                  exact norm_ (by first | (simp only [putAll, Act.put, List.setIfInBounds_toArray, List.set_cons_zero, List.set_cons_succ]; done) | (simp only [putAll, Act.put, List.setIfInBounds_toArray, List.set_cons_zero, List.set_cons_succ]; rfl)) (hJ11 (w4.drew).heap.size _ ⟨hHeld, hN⟩)
              · skip
                rintro v11_ W_ ⟨hS_, hQ_⟩
                have hSep : Aside0 (Sep w W_ ((Blk (v11_) 30 #[.slice (some ⟨G, 0, none⟩) 200 200, .slice (some ⟨G, 0, none⟩) 64 200, .slice (some ⟨G, 0, none⟩) 1 200, .slice none 0 0, .slice (some ⟨G, 0, none⟩) 3 200, .slice (some ⟨G, 0, none⟩) 3 200]) :: [Blk G6 26 #[.int .i64 ra, .int .i64 rb, .int .u32 rc], Blk G5 26 rootsC, Row U8 5 (.slice (some ⟨G, 0, none⟩) 200 200) xs])) := ⟨hQ_⟩
                clear hQ_
                have hHeld : W_.cell? ⟨G6, 0, none⟩ = some (.int .i64 ra) ∧ W_.cell? ⟨G6, 1, none⟩ = some (.int .i64 rb) ∧ W_.cell? ⟨G6, 2, none⟩ = some (.int .u32 rc) := hS_
                refine norm_ (a' := ?_) ?_ ?_
                rotate_left
                · simp only [putAll, Act.put, List.setIfInBounds_toArray, List.set_cons_zero, List.set_cons_succ]
                  rfl
                refine one_ (i := 1) (N := some 58) #[true, true, true, true, true, true, true, true, true, true, true, true, false, false] rfl rfl (by kernel_rfl) (by decide) (fun K hK => ?_)
                refine value_ (w1 := ?_) (v := ?_) (by rfl) rfl ?_ ?_
                rotate_left 2
                · go_simp
                  constructor
                  · rfl
                  · rfl
                have hN := (hSep.out).litRow (enc := Value.int .i64) (h1 := fun _ => rfl) (e := 3) [0, 64, 640, 576, -9223372036854775808, 9223372036854775807] (by decide)
                refine hK.out _ _ ⟨(hN.tail.tail.cell 0).trans rfl, (hN.tail.tail.cell 1).trans rfl, (hN.tail.tail.cell 2).trans rfl⟩ (fun hHeld => ?_)
                clear hK K
                refine norm_ (a' := ?_) ?_ ?_
                rotate_left
                · show Act.put _ (some 58) _ = _
                  simp only [Act.put, List.setIfInBounds_toArray, List.set_cons_zero, List.set_cons_succ, i64_w, i32_w]
                  rfl
                exact norm_ (by first | (simp only [putAll, Act.put, List.setIfInBounds_toArray, List.set_cons_zero, List.set_cons_succ]; done) | (simp only [putAll, Act.put, List.setIfInBounds_toArray, List.set_cons_zero, List.set_cons_succ]; rfl)) (hJ1_11 (.slice (some ⟨(W_).heap.size, 0, none⟩) 6 6, v11_) _ ⟨hHeld, hN⟩)
            · skip
              rintro v1_ W_ ⟨hS_, hQ_⟩
              have hSep : Aside0 (Sep w W_ ((Row (Kd.int .i64) 3 (v1_) [0, 64, 640, 576, -9223372036854775808, 9223372036854775807]) :: [Blk G6 26 #[.int .i64 ra, .int .i64 rb, .int .u32 rc], Blk G5 26 rootsC, Row U8 5 (.slice (some ⟨G, 0, none⟩) 200 200) xs])) := ⟨hQ_⟩
              clear hQ_
              have hHeld : W_.cell? ⟨G6, 0, none⟩ = some (.int .i64 ra) ∧ W_.cell? ⟨G6, 1, none⟩ = some (.int .i64 rb) ∧ W_.cell? ⟨G6, 2, none⟩ = some (.int .u32 rc) := hS_
              refine norm_ (a' := ?_) ?_ ?_
              rotate_left
              · simp only [putAll, Act.put, List.setIfInBounds_toArray, List.set_cons_zero, List.set_cons_succ]
                rfl
              refine one_ (i := 11) (N := some 68) #[true, true, true, true, true, true, true, true, true, true, true, true, false, false] rfl rfl (by kernel_rfl) (by decide) (fun K hK => ?_)
              refine value_ (w1 := ?_) (v := ?_) (by rfl) rfl ?_ ?_
              rotate_left 2
              · go_simp
                constructor
                · rfl
                · rfl
              have hN := (hSep.out).newBlk 30 #[.slice (some ⟨G, 0, none⟩) 200 200, .slice (some ⟨G, 0, none⟩) 64 200, .slice (some ⟨G, 0, none⟩) 1 200, .slice none 0 0, .slice (some ⟨G, 0, none⟩) 3 200, .slice (some ⟨G, 0, none⟩) 3 200]
              refine hK.out _ _ ⟨(hN.tail.tail.cell 0).trans rfl, (hN.tail.tail.cell 1).trans rfl, (hN.tail.tail.cell 2).trans rfl⟩ (fun hHeld => ?_)
              clear hK K
              refine norm_ (a' := ?_) ?_ ?_
              rotate_left
              · show Act.put _ (some 68) _ = _
                simp only [Act.put, List.setIfInBounds_toArray, List.set_cons_zero, List.set_cons_succ, i64_w, i32_w]
                rfl
              exact norm_ (by first | (simp only [putAll, Act.put, List.setIfInBounds_toArray, List.set_cons_zero, List.set_cons_succ]; done) | (simp only [putAll, Act.put, List.setIfInBounds_toArray, List.set_cons_zero, List.set_cons_succ]; rfl)) (hJ1_11 (v1_, (W_).heap.size) _ ⟨hHeld, hN.at2⟩)
          rintro ⟨v1_, v11_⟩ W_ ⟨hS_, hQ_⟩
          have hSep : Aside0 (Sep w W_ ((Row (Kd.int .i64) 3 (v1_) [0, 64, 640, 576, -9223372036854775808, 9223372036854775807]) :: (Blk (v11_) 30 #[.slice (some ⟨G, 0, none⟩) 200 200, .slice (some ⟨G, 0, none⟩) 64 200, .slice (some ⟨G, 0, none⟩) 1 200, .slice none 0 0, .slice (some ⟨G, 0, none⟩) 3 200, .slice (some ⟨G, 0, none⟩) 3 200]) :: [Blk G6 26 #[.int .i64 ra, .int .i64 rb, .int .u32 rc], Blk G5 26 rootsC, Row U8 5 (.slice (some ⟨G, 0, none⟩) 200 200) xs])) := ⟨hQ_⟩
          clear hQ_
          have hHeld : W_.cell? ⟨G6, 0, none⟩ = some (.int .i64 ra) ∧ W_.cell? ⟨G6, 1, none⟩ = some (.int .i64 rb) ∧ W_.cell? ⟨G6, 2, none⟩ = some (.int .u32 rc) := hS_
          have hN0 := hSep.out
          obtain ⟨A4, c4, rfl⟩ := hN0.rowN (n := 6) rfl
          have B0 := Aside0.mk hN0
          clear hN0
          refine norm_ (a' := ?_) ?_ ?_
          rotate_left
          · simp only [putAll, Act.put, List.setIfInBounds_toArray, List.set_cons_zero, List.set_cons_succ]
            rfl
          refine last_ (i := 12) (N := some 69) #[true, true, true, true, true, true, true, true, true, true, true, true, true, false] rfl rfl (by kernel_rfl) (by decide) (fun K hK => ?_)
          refine goes_ Try.func60 (by kernel_rfl) rfl #[.agg #[.int .i64 ra, .int .i64 rb, .int .u32 rc], .slice A4 6 c4, .slice (some ⟨v11_, 0, none⟩) 6 6] (by rfl) rfl rfl (by simp only [List.map_toArray, List.map_cons, List.map_nil]; rfl) ?_
          with_reducible refine (plays_ (ats := [0, 64, 640, 576, -9223372036854775808, 9223372036854775807]) (ls := [xs, xs.take 64, xs.take 1, [], xs.take 3, xs.take 3]) B0.out.rowC' (by decide) (blk_rows (n := 6) (vs := [_, _, _, _, _, _]) B0.out.at2 rfl (by decide) (six_rows HT1.out HT2.out HT3.out (x200 B0.out.at5 HX.out.1))) (six_bts HX.out.2) ra rb rc).mono ?_
          rintro e w11 ⟨rfl, hb11⟩
          refine ⟨_, rfl, ?_⟩
          have B11 := Aside0.mk (B0.out.below hb11)
          clear hb11
          refine hK.out _ _ ?_
          clear hK K
          refine norm_ (a' := ?_) ?_ ?_
          rotate_left
          · show Act.put _ (some 69) _ = _
            simp only [Act.put, List.setIfInBounds_toArray, List.set_cons_zero, List.set_cons_succ, i64_w, i32_w]
            rfl
          refine pure_ (i := 13) (N := some 70) (v := ?_) (a' := ?_) #[true, true, true, true, true, true, true, true, true, true, true, true, true, true] rfl rfl (by kernel_rfl) (fun _ _ _ h => h) (Or.inl ⟨by rfl, ?_⟩) ?_ ?_
          rotate_left
          · intro w'
            go_simp
            with_reducible rfl
          rotate_left
          · simp only [Act.put, List.setIfInBounds_toArray, List.set_cons_zero, List.set_cons_succ, i64_w, i32_w]
            rfl
          refine done_ (by kernel_rfl) ?_
          go_wp2_with fail
          go_roundg (gk - 1)
          case measure => have := AK3.out; omega
          case rel => exact ⟨j + 1, by go_num, by have := AK3.out; omega, B11.out.tail.tail.tail⟩
        case neg =>
        obtain rfl : j = 5 := by omega
        clear hjk cj
        go_wp2_with fail
        go_loopg [7] 40 (fun k_ p wr => ∃ (m : Nat), p = .int .i64 (m : Int) ∧ m + k_ = 40 ∧ Sep w wr [])
        case atStart => exact ⟨0, rfl, by decide, AS5.out.tail.tail⟩
        case round =>
          obtain ⟨m, rfl, hmk, hS⟩ := hrel
          obtain ⟨G2, rfl⟩ : ∃ G, G = gk := ⟨_, rfl⟩
          obtain ⟨w4, rfl⟩ : ∃ x, x = wr := ⟨_, rfl⟩
          have AK4 := Aside0.mk hmk
          have AS8 := Aside0.mk hS
          clear hS
          by_cases cm : m < 40
          case pos =>
            have hml : (m : Int) < 40 := by omega
            have AN := Aside0.mk (AS8.out.nilRow (Kd.int .i64) 3)
            have HM40 := Aside0.mk cm
            clear hmk cm
            go_wp2_with fail
            go_loopg [8, 9] 90 (fun k_ v p wr => ∃ (i : Nat) (ys : List Int), p = .int .i64 (i : Int) ∧ i + k_ = 90 ∧ ys.length = i ∧ Sep w wr [Row (Kd.int .i64) 3 v ys])
            case atStart => exact ⟨0, [], rfl, by decide, rfl, AN.out⟩
            case round =>
              obtain ⟨i, ys, rfl, hik, hyl, hS⟩ := hrel
              obtain ⟨w5, rfl⟩ : ∃ x, x = wr := ⟨_, rfl⟩
              have AK5 := Aside0.mk hik
              have HYL := Aside0.mk hyl
              have AS9 := Aside0.mk hS
              obtain ⟨A5, c5, rfl⟩ := hS.rowN hyl
              clear hS hyl
              by_cases ci : i < 90
              case pos =>
                have hil : (i : Int) < 90 := by omega
                obtain ⟨s1, s2, s3, s4, s5, s6⟩ := tp_nums ci HM40.out
                clear hik ci
                have AL := Aside0.mk ((AS9.out.litRow (enc := Value.int .i64) (h1 := fun _ => rfl) (e := 3) [((i : Int) * (i : Int) * 7 + (m : Int) * 31 + (i : Int) * (m : Int)).tmod 211] (by simp)).at2)
                go_wp2_with (first | (refine gate_builtin (b := .append) (xs := #[.tmp 80, .tmp 93]) rfl ?_; go_loud (refine AL.out.appendRow rfl (.tmp 80) (.tmp 93) 38 (.int .i64 0) 8 rfl Try.underlying38 (by kernel_rfl) rfl (by decide) (some ⟨w5.heap.size, 0, none⟩) 1 1 rfl rfl AL.out.at2.rowC.2.2 (by rw [HYL.out]; have := AK5.out; simp; omega) ?_; intro v6 w6 hS6; have B6 := Aside0.mk hS6.drop2; clear hS6)))
                go_roundg (gk - 1)
                case measure => have := AK5.out; omega
                case rel => exact ⟨i + 1, _, by go_num, by have := AK5.out; omega, by rw [List.length_append, HYL.out]; rfl, B6.out⟩
              case neg =>
              obtain rfl : i = 90 := by omega
              clear hik ci
              have hw11 : wrap64 ((m : Int) * 11) = (m : Int) * 11 := IntWalk.wrap64_in _ (by have := HM40.out; omega)
              have hm1 : wrap64 ((m : Int) + 1) = (m : Int) + 1 := IntWalk.wrap64_in _ (by have := HM40.out; omega)
              go_wp2_with fail
              refine (logged4_ AS9.out.rowC' 7 ((m : Int) * 11) _ (by decide) (by omega)).mono ?_
              rintro e w6 ⟨rfl, hb6⟩
              have B6 := Aside0.mk (AS9.out.below hb6)
              clear hb6
              go_wp2_with fail
              go_roundg (G2 - 1)
              case measure => have := AK4.out; have := HM40.out; omega
              case rel => exact ⟨m + 1, by go_num, by have := AK4.out; have := HM40.out; omega, B6.out.tail⟩
          case neg =>
          obtain rfl : m = 40 := by omega
          clear hmk cm
          go_wp2_with fail
          refine (Redo.known_ _).mono ?_
          rintro e w9 ⟨rfl, hb9⟩
          have B9 := Aside0.mk (AS8.out.below hb9)
          clear hb9
          go_wp2_with fail
          go_ret
          exact ⟨by first | rfl | (simp; done), B9.out.toBelow⟩
end Go.Proofs.Ytjngnigelkgekaa.Redo
namespace Go.Proofs.Ytjngnigelkgekaa.Kit
open Go.ChangeShapes Go.WideShapes Go.ChangeAt Go.RowKit Go.Proofs.YtjngnigelkgekaaW.PrintWords
set_option linter.unusedVariables false
section
variable {H : Type} {enc : TypeId × Value → H} {P : Program} {W : World} {base : Nat} {sp : Nat → Bool} {held : Bool}
end
end Go.Proofs.Ytjngnigelkgekaa.Kit
