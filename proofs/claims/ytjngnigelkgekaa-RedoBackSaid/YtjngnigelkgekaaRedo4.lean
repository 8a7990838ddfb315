/- Chapter 16's known runs. -/
import Derived.Test.YtjngnigelkgekaaRedo3
import Derived.Test.YtjngnigelkgekaaKS
import Derived.Test.YtjngnigelkgekaaKA
namespace Go.Proofs.Ytjngnigelkgekaa.Redo
set_option linter.unusedVariables false
set_option linter.unusedSimpArgs false
open Go.RowKit Go.Proofs.YtjngnigelkgekaaW.PrintWords Go.Proofs.YtjngnigelkgekaaW.PrintLast Go.Proofs.YtjngnigelkgekaaW.PrintMore Go.Proofs.Ytjngnigelkgekaa.Kit Go.Proofs.Ytjngnigelkgekaa.Plain Go.Proofs.Ytjngnigelkgekaa.Disk Go.Proofs.Ytjngnigelkgekaa.Root
/-- A constant's block, for good. -/
theorem litFx {w0 W : World} {F : List HP} (h : Sep w0 W F) (k : IntKind) (C : Array Value) (t : TypeId) (fr : Nat × Nat) (xs : List Int) (hC : C = (xs.map (Value.int k)).toArray) (hn : xs.length ≤ 9223372036854775807) :
    Sep w0 (W.alloc (.cells C t fr)) (Fx (fun W' => Kd.C (Kd.int k) W' (some ⟨W.heap.size, 0, none⟩) xs.length xs) :: F) := by
  subst hC
  refine h.gain (below_alloc (Below.refl _ _) _) (ok := fun j => j = W.heap.size) ⟨fun W' hm => ?_, fun j hj => by rw [hj, show (W.alloc (.cells (xs.map (Value.int k)).toArray t fr)).heap.size = W.heap.size + 1 from by simp]; omega⟩ (fun j hj => by omega)
  refine Kd.C_of_reads (enc := Value.int k) (d := 0) (h1 := fun _ => rfl) ⟨rfl, hn, fun _ => ⟨_, rfl, fun j hj => ?_⟩⟩
  have h2 : W'.cell? ((⟨W.heap.size, 0, none⟩ : Addr).add j) = (W.alloc (.cells (xs.map (Value.int k)).toArray t fr)).cell? ((⟨W.heap.size, 0, none⟩ : Addr).add j) := by
    rw [add_plain]
    unfold World.cell?
    rw [hm _ rfl]
  rw [h2, add_plain, World.cell?_alloc_mark]
  simp [List.getD_eq_getElem?_getD, hj]
abbrev kz : List Int := List.replicate (8 * 64) 0
abbrev ka : List Int := [97, 99, 114, 111, 115, 115]
abbrev kw : Wt := appW kz (fun _ => none) 60 ka
theorem kz_len : kz.length = 64 * 8 := by rw [List.length_replicate]
theorem k_log0 : logF 8 kz (fun _ => none) 2 3 4 = List.replicate 128 0 := by decide +kernel
theorem k_ok : okA 8 2 3 4 60 6 = true := by decide +kernel
theorem k_ok2 : okA 8 2 3 4 128 1 = false := by decide +kernel
theorem k_ok3 : okA 8 2 3 4 128 0 = true := by decide +kernel
theorem k_app : appR 8 kz (fun _ => none) 2 3 4 60 ka = kw := rfl
theorem k_log1 : (logF 8 kz kw 2 3 4).length = 128 := by decide +kernel
theorem k_sub : ((logF 8 kz kw 2 3 4).take 66).drop 60 = ka := by decide +kernel
theorem k_str : strOfNums ka = ⟨#[97, 99, 114, 111, 115, 115]⟩ := by decide +kernel
theorem k_keys : keysI kz kw = [2, 3] := by decide +kernel
theorem k_log2 (wt : Wt) : logF 8 kz wt 0 0 0 = [] := by
  unfold logF
  rw [if_neg (by decide)]
theorem k_app2 (wt : Wt) : appR 8 kz wt 2 3 4 128 [120] = wt := rfl
theorem k_app3 (wt : Wt) : appR 8 kz wt 2 3 4 128 [] = wt := by
  show appW kz wt 128 [] = wt
  exact appW_nil _ _ _
set_option maxHeartbeats 1600000 in
set_option maxRecDepth 100000 in
theorem known_ (w : World) : Calls Try.prog 62 #[] w fun e w' => e = .returned (.bool true) ∧ Below w.heap.size w w' := by
  have kc := fun (w : World) (C : Array Value) (n c : Nat) => Lib.run_convert_bytes_const (P := Try.prog) w 30 5 C n c Try.underlying30 Try.underlying5
  have HZL := Aside0.mk kz_len
  have HL0 := Aside0.mk k_log0
  have HA1 := Aside0.mk k_app
  have HK1 := Aside0.mk k_keys
  have HG1 := Aside0.mk k_log1
  have HS1 := Aside0.mk k_sub
  have HG2 := Aside0.mk k_log2
  have HA2 := Aside0.mk k_app2
  have HA3 := Aside0.mk k_app3
  have HW1 : Aside0 (∀ i b, kw i = some b → b.length = 64) := ⟨appW_len (n := 8) kz_len Ref.none_len (by decide)⟩
  generalize hkw : kw = tw at HA1 HK1 HG1 HS1 HW1
  generalize hkz : kz = zz at HZL HL0 HA1 HK1 HG1 HS1 HG2 HA2 HA3
  have HZ := Aside0.mk hkz
  clear hkz hkw
  go_enter Try.func62, Try.ntmps62
  go_wp2_with fail
  refine (new_ok (n := 8) (by decide) (by decide)).mono ?_
  rintro e w1 ⟨g, rfl, hS1⟩
  rw [show List.replicate (8 * 64) (0 : Int) = zz from HZ.out] at hS1
  have B1 := Aside0.mk (hS1.newBlk 26 #[.int .i64 2, .int .i64 3, .int .u32 4])
  have z0 := (B1.out.cell 0).trans rfl
  have z1 := (B1.out.cell 1).trans rfl
  have z2 := (B1.out.cell 2).trans rfl
  clear hS1
  go_wp2_with fail
  refine (records_no B1.out.at2 HZL.out Ref.none_len 2 3 4 (by rw [HL0.out]; decide) (by rw [HL0.out]; exact fun x hx => by have := List.eq_of_mem_replicate hx; omega) (by rw [HL0.out]; decide +kernel)).mono ?_
  rintro e w2 ⟨rfl, hS2⟩
  have B2 := Aside0.mk hS2.at2
  have B3 := Aside0.mk (litFx hS2.at2 .u8 #[.int .u8 97, .int .u8 99, .int .u8 114, .int .u8 111, .int .u8 115, .int .u8 115] 5 (6, 7) ka rfl (by decide))
  clear z0 z1 z2 hS2
  have z0 := (B2.out.cell 0).trans rfl
  have z1 := (B2.out.cell 1).trans rfl
  have z2 := (B2.out.cell 2).trans rfl
  go_wp2_with fail
  refine (append_ (n := 8) (xs := ka) (m := 6) (cp := 6) B3.out.at3 HZL.out (by decide) Ref.none_len 2 3 4 60 (by decide) (fun W' hW => hW.fx) (Nat.le_refl _)).mono ?_
  rintro e w3 ⟨rfl, hS3⟩
  rw [HA1.out] at hS3
  rw [k_ok]
  have B4 := Aside0.mk hS3
  clear z0 z1 z2 hS3
  have z0 := (B4.out.at3.cell 0).trans rfl
  have z1 := (B4.out.at3.cell 1).trans rfl
  have z2 := (B4.out.at3.cell 2).trans rfl
  go_wp2_with fail
  refine (bytes_ B4.out HZL.out HW1.out 2 3 4).mono ?_
  rintro e w4 ⟨v4, rfl, hS4⟩
  obtain ⟨A4, c4, rfl⟩ := hS4.rowN (n := 128) HG1.out
  have hc4 := hS4.rowC.2.1
  obtain ⟨A5, hcut, hC5⟩ := Base.mid8 (A := A4) (n := 128) (c := c4) (a := 60) (b := 66) (l := logF 8 zz tw 2 3 4) (J := 60) (K := 66) rfl rfl HG1.out (by decide) (by decide) hc4
  have h5 := hC5 _ hS4.rowC'
  rw [HS1.out] at h5
  have hs5 := Str.strC (c := c4 - 60) h5
  rw [k_str] at hs5
  have B5 := Aside0.mk hS4.tail
  clear z0 z1 z2 hS4 hC5 h5
  rw [show 66 - 60 = 6 from rfl] at hcut hs5
  go_wp2_with fail
  clear hs5 hcut
  refine (waits_ B5.out).mono ?_
  rintro e w6 ⟨v6, rfl, hS6⟩
  rw [HK1.out] at hS6
  obtain ⟨A6, c6, rfl⟩ := hS6.rowN (n := 2) rfl
  have B6 := Aside0.mk (hS6.litRow (enc := Value.int .i64) (h1 := fun _ => rfl) (e := 3) [2, 3] (by decide))
  clear hS6
  go_wp2_with fail
  refine (Book.sameI_ (xs := [2, 3]) (ys := [2, 3]) B6.out.at2.rowC.2.2 B6.out.rowC.2.2).mono ?_
  rintro e w7 ⟨rfl, hb7⟩
  have B7 := Aside0.mk (B6.out.below hb7).tail.tail
  clear hb7
  rw [show decide ([(2 : Int), 3] = [2, 3]) = true from rfl]
  have B8 := Aside0.mk (litFx B7.out .u8 #[.int .u8 120] 5 (1, 2) [120] rfl (by decide))
  have z0 := (B7.out.at3.cell 0).trans rfl
  have z1 := (B7.out.at3.cell 1).trans rfl
  have z2 := (B7.out.at3.cell 2).trans rfl
  go_wp2_with fail
  refine (append_ (n := 8) (xs := [120]) (m := 1) (cp := 1) B8.out.at2 HZL.out (by decide) HW1.out 2 3 4 128 (by decide) (fun W' hW => hW.fx) (Nat.le_refl _)).mono ?_
  rintro e w9 ⟨rfl, hS9⟩
  rw [HA2.out] at hS9
  rw [k_ok2]
  have B9 := Aside0.mk hS9
  clear z0 z1 z2 hS9 kc
  have z0 := (B9.out.at4.cell 0).trans rfl
  have z1 := (B9.out.at4.cell 1).trans rfl
  have z2 := (B9.out.at4.cell 2).trans rfl
  go_wp2_with fail
  refine (append_ (n := 8) (xs := []) (m := 0) (cp := 0) B9.out HZL.out (by decide) HW1.out 2 3 4 128 (by decide) (fun W' hW => Kd.C_nil _ _) (Nat.le_refl _)).mono ?_
  rintro e w10 ⟨rfl, hS10⟩
  rw [HA3.out] at hS10
  rw [k_ok3]
  have B10 := Aside0.mk hS10
  clear z0 z1 z2 hS10
  go_wp2_with fail
  refine (bytes_ B10.out HZL.out HW1.out 0 0 0).mono ?_
  rintro e w11 ⟨v11, rfl, hS11⟩
  rw [HG2.out] at hS11
  obtain ⟨A11, c11, rfl⟩ := hS11.rowN (n := 0) rfl
  have B11 := Aside0.mk hS11.tail
  clear hS11
  have z0 := (B11.out.at4.cell 0).trans rfl
  have z1 := (B11.out.at4.cell 1).trans rfl
  have z2 := (B11.out.at4.cell 2).trans rfl
  go_wp2_with fail
  refine (append_nil 2 3 4 0 _).mono ?_
  rintro e w12 ⟨rfl, hb12⟩
  have B12 := Aside0.mk (B11.out.below hb12)
  clear z0 z1 z2 hb12
  go_wp2_with fail
  go_ret
  exact ⟨by first | rfl | (simp; done), B12.out.toBelow⟩
end Go.Proofs.Ytjngnigelkgekaa.Redo
