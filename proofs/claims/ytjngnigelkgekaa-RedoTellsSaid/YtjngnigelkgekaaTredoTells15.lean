/- Redo4, Redo14, Open, OpenRow, OpenRedo: what RedoTells needs. -/
import Derived.Test.YtjngnigelkgekaaTredoTells14
import Derived.Test.YtjngnigelkgekaaProg
import Derived.WalkKit
import Derived.ProofKit
import Derived.OpenShut
import Derived.ShutString
import Derived.ChangeOld
import Derived.Below
import Derived.SizedLaws
import Derived.Deep.Slices
import Derived.ChangeSame
import Derived.ChangeArms
namespace Go.Proofs.Ytjngnigelkgekaa.Redo
set_option linter.unusedVariables false
set_option linter.unusedSimpArgs false
open Go.RowKit Go.Proofs.YtjngnigelkgekaaW.PrintWords Go.Proofs.YtjngnigelkgekaaW.PrintLast Go.Proofs.YtjngnigelkgekaaW.PrintMore Go.Proofs.Ytjngnigelkgekaa.Kit Go.Proofs.Ytjngnigelkgekaa.Plain Go.Proofs.Ytjngnigelkgekaa.Disk Go.Proofs.Ytjngnigelkgekaa.Root
/-- A constant's block, for good. -/
theorem litFx {w0 W : World} {F : List HP} (h : Sep w0 W F) (k : IntKind) (C : Array Value) (t : TypeId) (fr : Nat × Nat) (xs : List Int) (hC : C = (xs.map (Value.int k)).toArray) (hn : xs.length ≤ 9223372036854775807) :
    Sep w0 (W.alloc (.cells C t fr)) (Fx (fun W' => Kd.C (Kd.int k) W' (some ⟨W.heap.size, 0, none⟩) xs.length xs) :: F) := by
  subst hC
  refine h.gain (below_alloc (Below.refl _ _) _) (ok := fun j => j = W.heap.size) ⟨fun W' hm => ?_, fun j hj => by rw [hj, show (W.alloc (.cells (xs.map (Value.int k)).toArray t fr)).heap.size = W.heap.size + 1 from by simp]; omega⟩ (fun j hj => by omega)
  refine Kd.C_of_reads (enc := Value.int k) (d := 0) (h1 := fun _ => rfl) ⟨rfl, hn, fun _ => ⟨_, rfl, fun j hj => ?_⟩⟩
  have h2 : W'.cell? ((⟨W.heap.size, 0, none⟩ : Addr).add j) = (W.alloc (.cells (xs.map (Value.int k)).toArray t fr)).cell? ((⟨W.heap.size, 0, none⟩ : Addr).add j) := by
    rw [add_plain]
    unfold World.cell?
    rw [hm _ rfl]
  rw [h2, add_plain, World.cell?_alloc_mark]
  simp [List.getD_eq_getElem?_getD, hj]
abbrev kz : List Int := List.replicate (8 * 64) 0
abbrev ka : List Int := [97, 99, 114, 111, 115, 115]
abbrev kw : Wt := appW kz (fun _ => none) 60 ka
theorem kz_len : kz.length = 64 * 8 := by rw [List.length_replicate]
theorem k_log0 : logF 8 kz (fun _ => none) 2 3 4 = List.replicate 128 0 := by decide +kernel
theorem k_ok : okA 8 2 3 4 60 6 = true := by decide +kernel
theorem k_ok2 : okA 8 2 3 4 128 1 = false := by decide +kernel
theorem k_ok3 : okA 8 2 3 4 128 0 = true := by decide +kernel
theorem k_app : appR 8 kz (fun _ => none) 2 3 4 60 ka = kw := rfl
theorem k_log1 : (logF 8 kz kw 2 3 4).length = 128 := by decide +kernel
theorem k_sub : ((logF 8 kz kw 2 3 4).take 66).drop 60 = ka := by decide +kernel
theorem k_str : strOfNums ka = ⟨#[97, 99, 114, 111, 115, 115]⟩ := by decide +kernel
theorem k_keys : keysI kz kw = [2, 3] := by decide +kernel
theorem k_log2 (wt : Wt) : logF 8 kz wt 0 0 0 = [] := by
  unfold logF
  rw [if_neg (by decide)]
theorem k_app2 (wt : Wt) : appR 8 kz wt 2 3 4 128 [120] = wt := rfl
theorem k_app3 (wt : Wt) : appR 8 kz wt 2 3 4 128 [] = wt := by
  show appW kz wt 128 [] = wt
  exact appW_nil _ _ _
set_option maxHeartbeats 1600000 in
set_option maxRecDepth 100000 in
theorem known_ (w : World) : Calls Try.prog 62 #[] w fun e w' => e = .returned (.bool true) ∧ Below w.heap.size w w' := by
  have kc := fun (w : World) (C : Array Value) (n c : Nat) => Lib.run_convert_bytes_const (P := Try.prog) w 30 5 C n c Try.underlying30 Try.underlying5
  have HZL := Aside0.mk kz_len
  have HL0 := Aside0.mk k_log0
  have HA1 := Aside0.mk k_app
  have HK1 := Aside0.mk k_keys
  have HG1 := Aside0.mk k_log1
  have HS1 := Aside0.mk k_sub
  have HG2 := Aside0.mk k_log2
  have HA2 := Aside0.mk k_app2
  have HA3 := Aside0.mk k_app3
  have HW1 : Aside0 (∀ i b, kw i = some b → b.length = 64) := ⟨appW_len (n := 8) kz_len Ref.none_len (by decide)⟩
  generalize hkw : kw = tw at HA1 HK1 HG1 HS1 HW1
  generalize hkz : kz = zz at HZL HL0 HA1 HK1 HG1 HS1 HG2 HA2 HA3
  have HZ := Aside0.mk hkz
  clear hkz hkw
  go_enter Try.func62, Try.ntmps62
  go_wp2_with fail
  refine (new_ok (n := 8) (by decide) (by decide)).mono ?_
  rintro e w1 ⟨g, rfl, hS1⟩
  rw [show List.replicate (8 * 64) (0 : Int) = zz from HZ.out] at hS1
  have B1 := Aside0.mk (hS1.newBlk 26 #[.int .i64 2, .int .i64 3, .int .u32 4])
  have z0 := (B1.out.cell 0).trans rfl
  have z1 := (B1.out.cell 1).trans rfl
  have z2 := (B1.out.cell 2).trans rfl
  clear hS1
  go_wp2_with fail
  refine (records_no B1.out.at2 HZL.out Ref.none_len 2 3 4 (by rw [HL0.out]; decide) (by rw [HL0.out]; exact fun x hx => by have := List.eq_of_mem_replicate hx; omega) (by rw [HL0.out]; decide +kernel)).mono ?_
  rintro e w2 ⟨rfl, hS2⟩
  have B2 := Aside0.mk hS2.at2
  have B3 := Aside0.mk (litFx hS2.at2 .u8 #[.int .u8 97, .int .u8 99, .int .u8 114, .int .u8 111, .int .u8 115, .int .u8 115] 5 (6, 7) ka rfl (by decide))
  clear z0 z1 z2 hS2
  have z0 := (B2.out.cell 0).trans rfl
  have z1 := (B2.out.cell 1).trans rfl
  have z2 := (B2.out.cell 2).trans rfl
  go_wp2_with fail
  refine (append_ (n := 8) (xs := ka) (m := 6) (cp := 6) B3.out.at3 HZL.out (by decide) Ref.none_len 2 3 4 60 (by decide) (fun W' hW => hW.fx) (Nat.le_refl _)).mono ?_
  rintro e w3 ⟨rfl, hS3⟩
  rw [HA1.out] at hS3
  rw [k_ok]
  have B4 := Aside0.mk hS3
  clear z0 z1 z2 hS3
  have z0 := (B4.out.at3.cell 0).trans rfl
  have z1 := (B4.out.at3.cell 1).trans rfl
  have z2 := (B4.out.at3.cell 2).trans rfl
  go_wp2_with fail
  refine (bytes_ B4.out HZL.out HW1.out 2 3 4).mono ?_
  rintro e w4 ⟨v4, rfl, hS4⟩
  obtain ⟨A4, c4, rfl⟩ := hS4.rowN (n := 128) HG1.out
  have hc4 := hS4.rowC.2.1
  obtain ⟨A5, hcut, hC5⟩ := Base.mid8 (A := A4) (n := 128) (c := c4) (a := 60) (b := 66) (l := logF 8 zz tw 2 3 4) (J := 60) (K := 66) rfl rfl HG1.out (by decide) (by decide) hc4
  have h5 := hC5 _ hS4.rowC'
  rw [HS1.out] at h5
  have hs5 := Str.strC (c := c4 - 60) h5
  rw [k_str] at hs5
  have B5 := Aside0.mk hS4.tail
  clear z0 z1 z2 hS4 hC5 h5
  rw [show 66 - 60 = 6 from rfl] at hcut hs5
  go_wp2_with fail
  clear hs5 hcut
  refine (waits_ B5.out).mono ?_
  rintro e w6 ⟨v6, rfl, hS6⟩
  rw [HK1.out] at hS6
  obtain ⟨A6, c6, rfl⟩ := hS6.rowN (n := 2) rfl
  have B6 := Aside0.mk (hS6.litRow (enc := Value.int .i64) (h1 := fun _ => rfl) (e := 3) [2, 3] (by decide))
  clear hS6
  go_wp2_with fail
  refine (Book.sameI_ (xs := [2, 3]) (ys := [2, 3]) B6.out.at2.rowC.2.2 B6.out.rowC.2.2).mono ?_
  rintro e w7 ⟨rfl, hb7⟩
  have B7 := Aside0.mk (B6.out.below hb7).tail.tail
  clear hb7
  rw [show decide ([(2 : Int), 3] = [2, 3]) = true from rfl]
  have B8 := Aside0.mk (litFx B7.out .u8 #[.int .u8 120] 5 (1, 2) [120] rfl (by decide))
  have z0 := (B7.out.at3.cell 0).trans rfl
  have z1 := (B7.out.at3.cell 1).trans rfl
  have z2 := (B7.out.at3.cell 2).trans rfl
  go_wp2_with fail
  refine (append_ (n := 8) (xs := [120]) (m := 1) (cp := 1) B8.out.at2 HZL.out (by decide) HW1.out 2 3 4 128 (by decide) (fun W' hW => hW.fx) (Nat.le_refl _)).mono ?_
  rintro e w9 ⟨rfl, hS9⟩
  rw [HA2.out] at hS9
  rw [k_ok2]
  have B9 := Aside0.mk hS9
  clear z0 z1 z2 hS9 kc
  have z0 := (B9.out.at4.cell 0).trans rfl
  have z1 := (B9.out.at4.cell 1).trans rfl
  have z2 := (B9.out.at4.cell 2).trans rfl
  go_wp2_with fail
  refine (append_ (n := 8) (xs := []) (m := 0) (cp := 0) B9.out HZL.out (by decide) HW1.out 2 3 4 128 (by decide) (fun W' hW => Kd.C_nil _ _) (Nat.le_refl _)).mono ?_
  rintro e w10 ⟨rfl, hS10⟩
  rw [HA3.out] at hS10
  rw [k_ok3]
  have B10 := Aside0.mk hS10
  clear z0 z1 z2 hS10
  go_wp2_with fail
  refine (bytes_ B10.out HZL.out HW1.out 0 0 0).mono ?_
  rintro e w11 ⟨v11, rfl, hS11⟩
  rw [HG2.out] at hS11
  obtain ⟨A11, c11, rfl⟩ := hS11.rowN (n := 0) rfl
  have B11 := Aside0.mk hS11.tail
  clear hS11
  have z0 := (B11.out.at4.cell 0).trans rfl
  have z1 := (B11.out.at4.cell 1).trans rfl
  have z2 := (B11.out.at4.cell 2).trans rfl
  go_wp2_with fail
  refine (append_nil 2 3 4 0 _).mono ?_
  rintro e w12 ⟨rfl, hb12⟩
  have B12 := Aside0.mk (B11.out.below hb12)
  clear z0 z1 z2 hb12
  go_wp2_with fail
  go_ret
  exact ⟨by first | rfl | (simp; done), B12.out.toBelow⟩
end Go.Proofs.Ytjngnigelkgekaa.Redo
namespace Go.Proofs.Ytjngnigelkgekaa.Redo
set_option linter.unusedVariables false
set_option linter.unusedSimpArgs false
open Go.RowKit Go.Proofs.YtjngnigelkgekaaW.PrintWords Go.Proofs.YtjngnigelkgekaaW.PrintLast Go.Proofs.YtjngnigelkgekaaW.PrintMore Go.Proofs.Ytjngnigelkgekaa.Kit Go.Proofs.Ytjngnigelkgekaa.Plain Go.Proofs.Ytjngnigelkgekaa.Disk Go.Proofs.Ytjngnigelkgekaa.Root Go.Proofs.Ytjngnigelkgekaa.Frame
open Go.Proofs.Ytjngnigelkgekaa.Home (K2 RT)
theorem logged5_ {A : Option Addr} {n c0 : Nat} {L : List Int} {w : World} (ht : I64.C w A n L) (c at_ turn : Int) (hc : 0 ≤ c ∧ c ≤ 4294967295) (h0 : 0 ≤ turn ∧ turn ≤ 255) :
    Calls Try.prog 61 #[.slice A n c0, .agg #[.int .i64 20, .int .i64 5, .int .u32 c], .int .i64 at_, .int .u8 turn] w fun e w' => e = .returned (.bool true) ∧ Below w.heap.size w w' := logged_ ht 20 c at_ turn 5 (by decide) hc h0
set_option maxHeartbeats 3200000 in
set_option maxRecDepth 100000 in
theorem redoTells_ {A0 A1 A3 : Option Addr} {n0 c0 n1 c1 n3 c3 : Nat} {ats tape : List Int} {ls : List (List Int)} {ra rb rc at_ turn : Int} {w : World} (h0 : I64.C w A0 n0 ats) (hb0 : ∀ x ∈ ats, -9223372036854775808 ≤ x ∧ x ≤ 9223372036854775807) (hn0 : n0 * 8 ≤ 140737488355328) (h1 : K2.C w A1 n1 ls) (hb1 : ∀ x ∈ ls, Bytes x) (hrc : 0 ≤ rc ∧ rc ≤ 4294967295) (h3 : I64.C w A3 n3 tape) (ht : 0 ≤ turn ∧ turn ≤ 255) :
    Calls Try.prog 16 #[.slice A0 n0 c0, .slice A1 n1 c1, .agg #[.int .i64 ra, .int .i64 rb, .int .u32 rc], .slice A3 n3 c3, .int .i64 at_, .int .u8 turn] w fun e w' => e = .returned (.bool true) ∧ Below w.heap.size w w' := by
  have H0 := Aside0.mk (And.intro h0 hb0)
  have HN0 := Aside0.mk hn0
  have H1 := Aside0.mk (And.intro h1 hb1)
  have H3 := Aside0.mk h3
  have HT := Aside0.mk ht
  have m1 : Go.bits .and .u32 rc 3 = rc % 4 := and32 2 (by decide) (by decide) hrc.1 hrc.2
  obtain ⟨E, hE⟩ : ∃ E, 1 + rc % 4 = E := ⟨_, rfl⟩
  have w1 : IntKind.u32.wrap (1 + rc % 4) = E := by rw [IntKind.wrap_u32]; omega
  have HE : Aside0 (0 ≤ E ∧ E ≤ 4294967295) := ⟨by omega⟩
  have A1 := Aside0.mk ((Sep.start w).newBlk 26 #[.int .i64 ra, .int .i64 rb, .int .u32 rc]).drew
  have hn63 : n0 ≤ 9223372036854775807 := h0.2.1
  clear h0 hb0 hn0 h1 hb1 hrc h3 ht hE
  go_enter Try.func16, Try.ntmps16
  go_wp2_with fail
  obtain ⟨W2, hW2⟩ : ∃ x, w.alloc (.cells #[.int .i64 ra, .int .i64 rb, .int .u32 rc] 26) = x := ⟨_, rfl⟩
  rw [hW2] at A1 ⊢
  clear hW2
  obtain ⟨ka, hka⟩ : ∃ ka, Book.withinF ra 1 6 = ka := ⟨_, rfl⟩
  obtain ⟨kb, hkb⟩ : ∃ kb, Book.withinF rb 1 4 = kb := ⟨_, rfl⟩
  have HK := Aside0.mk (And.intro hka hkb)
  clear hka hkb
  refine start_ (n := 13) (S := fun w' => w'.cell? ⟨w.heap.size, 0, none⟩ = some (.int .i64 ra) ∧ w'.cell? ⟨w.heap.size, 1, none⟩ = some (.int .i64 rb) ∧ w'.cell? ⟨w.heap.size, 2, none⟩ = some (.int .u32 rc)) (ds := [12]) #[false, false, false, false, false, false, false, false, false, false, false, false, false] (by kernel_rfl) rfl rfl ⟨(A1.out.cell 0).trans rfl, (A1.out.cell 1).trans rfl, (A1.out.cell 2).trans rfl⟩ (fun hHeld => ?_)
  refine pure_ (i := 0) (N := some 16) (v := ?_) (a' := ?_) #[true, false, false, false, false, false, false, false, false, false, false, false, false] rfl rfl (by kernel_rfl) (fun _ _ _ h => h) (Or.inl ⟨by rfl, ?_⟩) ?_ ?_
  rotate_left
  · intro w'
    go_simp
    with_reducible rfl
  rotate_left
  · simp only [Act.put, List.setIfInBounds_toArray, List.set_cons_zero, List.set_cons_succ, i64_w, i32_w]
    rfl
  refine pure_ (i := 3) (N := some 19) (v := ?_) (a' := ?_) #[true, false, false, true, false, false, false, false, false, false, false, false, false] rfl rfl (by kernel_rfl) (fun _ _ _ h => h) (Or.inl ⟨by rfl, ?_⟩) ?_ ?_
  rotate_left
  · intro w'
    go_simp
    with_reducible rfl
  rotate_left
  · simp only [Act.put, List.setIfInBounds_toArray, List.set_cons_zero, List.set_cons_succ, i64_w, i32_w]
    rfl
  refine pure_ (i := 6) (N := some 22) (v := ?_) (a' := ?_) #[true, false, false, true, false, false, true, false, false, false, false, false, false] rfl rfl (by kernel_rfl) (fun _ _ _ h => h) (Or.inl ⟨by rfl, ?_⟩) ?_ ?_
  rotate_left
  · intro w'
    go_simp
    with_reducible rfl
  rotate_left
  · simp only [Act.put, List.setIfInBounds_toArray, List.set_cons_zero, List.set_cons_succ, i64_w, i32_w]
    rfl
  refine take_ (i := 1) (N := some 17) (v := ?_) (a' := ?_) #[true, true, false, true, false, false, true, false, false, false, false, false, false] rfl rfl (by kernel_rfl) (fun _ _ _ h => h) (Or.inl ⟨by rfl, ?_⟩) hHeld ?_ ?_
  rotate_left
  · rintro w' ⟨s0, s1, s2⟩
    go_simp
    with_reducible rfl
  rotate_left
  · simp only [Act.put, List.setIfInBounds_toArray, List.set_cons_zero, List.set_cons_succ, i64_w, i32_w]
    rfl
  refine take_ (i := 4) (N := some 20) (v := ?_) (a' := ?_) #[true, true, false, true, true, false, true, false, false, false, false, false, false] rfl rfl (by kernel_rfl) (fun _ _ _ h => h) (Or.inl ⟨by rfl, ?_⟩) hHeld ?_ ?_
  rotate_left
  · rintro w' ⟨s0, s1, s2⟩
    go_simp
    with_reducible rfl
  rotate_left
  · simp only [Act.put, List.setIfInBounds_toArray, List.set_cons_zero, List.set_cons_succ, i64_w, i32_w]
    rfl
  refine take_ (i := 7) (N := some 23) (v := ?_) (a' := ?_) #[true, true, false, true, true, false, true, true, false, false, false, false, false] rfl rfl (by kernel_rfl) (fun _ _ _ h => h) (Or.inl ⟨by rfl, ?_⟩) hHeld ?_ ?_
  rotate_left
  · rintro w' ⟨s0, s1, s2⟩
    go_simp
    with_reducible rfl
  rotate_left
  · simp only [Act.put, List.setIfInBounds_toArray, List.set_cons_zero, List.set_cons_succ, i64_w, i32_w]
    rfl
  refine pure_ (i := 8) (N := some 24) (v := ?_) (a' := ?_) #[true, true, false, true, true, false, true, true, true, false, false, false, false] rfl rfl (by kernel_rfl) (fun _ _ _ h => h) (Or.inl ⟨by rfl, ?_⟩) ?_ ?_
  rotate_left
  · intro w'
    go_simp
    with_reducible rfl
  rotate_left
  · simp only [Act.put, List.setIfInBounds_toArray, List.set_cons_zero, List.set_cons_succ, i64_w, i32_w]
    rfl
  refine pure_ (i := 9) (N := some 25) (v := ?_) (a' := ?_) #[true, true, false, true, true, false, true, true, true, true, false, false, false] rfl rfl (by kernel_rfl) (fun _ _ _ h => h) (Or.inl ⟨by rfl, ?_⟩) ?_ ?_
  rotate_left
  · intro w'
    go_simp
    with_reducible rfl
  rotate_left
  · simp only [Act.put, List.setIfInBounds_toArray, List.set_cons_zero, List.set_cons_succ, i64_w, i32_w]
    rfl
  refine join_ (σ := Int × Int × Nat) 1 #[true, true, true, true, true, true, true, true, true, true, true, true, false] (fun s_ => [(18, .int .i64 s_.1), (21, .int .i64 s_.2.1), (13, .pointer (some ⟨s_.2.2, 0, none⟩)), (26, .agg #[.int .i64 s_.1, .int .i64 s_.2.1, .int .u32 E])]) (fun s_ w' => (w'.cell? ⟨w.heap.size, 0, none⟩ = some (.int .i64 ra) ∧ w'.cell? ⟨w.heap.size, 1, none⟩ = some (.int .i64 rb) ∧ w'.cell? ⟨w.heap.size, 2, none⟩ = some (.int .u32 rc)) ∧ Sep w w' ((Pu ((s_.1) = ka)) :: (Pu ((s_.2.1) = kb)) :: (Blk (s_.2.2) 26 #[.int .i64 0, .int .i64 0, .int .u32 0]) :: [Blk w.heap.size 26 #[.int .i64 ra, .int .i64 rb, .int .u32 rc]])) ?_ ?_
  rotate_left
  · intro hJ2_5_11
    refine join_ (σ := Int × Int) 2 #[true, true, true, true, true, true, true, true, true, true, true, false, false] (fun s_ => [(18, .int .i64 s_.1), (21, .int .i64 s_.2), (26, .agg #[.int .i64 s_.1, .int .i64 s_.2, .int .u32 E])]) (fun s_ w' => (w'.cell? ⟨w.heap.size, 0, none⟩ = some (.int .i64 ra) ∧ w'.cell? ⟨w.heap.size, 1, none⟩ = some (.int .i64 rb) ∧ w'.cell? ⟨w.heap.size, 2, none⟩ = some (.int .u32 rc)) ∧ Sep w w' ((Pu ((s_.1) = ka)) :: (Pu ((s_.2) = kb)) :: [Blk w.heap.size 26 #[.int .i64 ra, .int .i64 rb, .int .u32 rc]])) ?_ ?_
    rotate_left
    · intro hJ2_5
      refine join_ (σ := Int × Nat) 3 #[true, true, true, true, true, false, true, true, true, true, false, true, false] (fun s_ => [(18, .int .i64 s_.1), (13, .pointer (some ⟨s_.2, 0, none⟩))]) (fun s_ w' => (w'.cell? ⟨w.heap.size, 0, none⟩ = some (.int .i64 ra) ∧ w'.cell? ⟨w.heap.size, 1, none⟩ = some (.int .i64 rb) ∧ w'.cell? ⟨w.heap.size, 2, none⟩ = some (.int .u32 rc)) ∧ Sep w w' ((Pu ((s_.1) = ka)) :: (Blk (s_.2) 26 #[.int .i64 0, .int .i64 0, .int .u32 0]) :: [Blk w.heap.size 26 #[.int .i64 ra, .int .i64 rb, .int .u32 rc]])) ?_ ?_
      rotate_left
      · intro hJ2_11
        refine join_ (σ := Int) 4 #[true, true, true, true, true, false, true, true, true, true, false, false, false] (fun s_ => [(18, .int .i64 s_)]) (fun s_ w' => (w'.cell? ⟨w.heap.size, 0, none⟩ = some (.int .i64 ra) ∧ w'.cell? ⟨w.heap.size, 1, none⟩ = some (.int .i64 rb) ∧ w'.cell? ⟨w.heap.size, 2, none⟩ = some (.int .u32 rc)) ∧ Sep w w' ((Pu ((s_) = ka)) :: [Blk w.heap.size 26 #[.int .i64 ra, .int .i64 rb, .int .u32 rc]])) ?_ ?_
        rotate_left
        · intro hJ2
          refine join_ (σ := Nat) 4 #[true, true, false, true, true, false, true, true, true, true, false, true, false] (fun s_ => [(13, .pointer (some ⟨s_, 0, none⟩))]) (fun s_ w' => (w'.cell? ⟨w.heap.size, 0, none⟩ = some (.int .i64 ra) ∧ w'.cell? ⟨w.heap.size, 1, none⟩ = some (.int .i64 rb) ∧ w'.cell? ⟨w.heap.size, 2, none⟩ = some (.int .u32 rc)) ∧ Sep w w' ((Blk (s_) 26 #[.int .i64 0, .int .i64 0, .int .u32 0]) :: [Blk w.heap.size 26 #[.int .i64 ra, .int .i64 rb, .int .u32 rc]])) ?_ ?_
          rotate_left
          · intro hJ11
            refine two_ (i := 2) (j := 11) (Ni := some 18) (Nj := some 13) #[true, true, true, true, true, false, true, true, true, true, false, false, false] #[true, true, false, true, true, false, true, true, true, true, false, true, false] rfl rfl rfl rfl (by kernel_rfl) (by decide) (by decide) (fun K hK => ?_) (fun K hK => ?_)
            · skip
              refine goes_ Try.func19 (by kernel_rfl) rfl #[.int .i64 ra, .int .i64 1, .int .i64 6] (by rfl) rfl rfl (by simp only [List.map_toArray, List.map_cons, List.map_nil]; rfl) ?_
              with_reducible refine (withinK ra 1 6 ka _ HK.out.1 (by decide) (by decide) (by decide)).mono ?_
              rintro e wn_ ⟨vn_, rfl, hS_⟩
              refine ⟨_, rfl, ?_⟩
              have hN := (A1.out).lift1 hS_
              clear hS_
              refine hK.out _ _ ⟨(hN.tail.cell 0).trans rfl, (hN.tail.cell 1).trans rfl, (hN.tail.cell 2).trans rfl⟩ (fun hHeld => ?_)
              clear hK K
              refine norm_ (a' := ?_) ?_ ?_
              rotate_left
              · show Act.put _ (some 18) _ = _
                simp only [Act.put, List.setIfInBounds_toArray, List.set_cons_zero, List.set_cons_succ, i64_w, i32_w]
                rfl
              exact norm_ (by first | (simp only [putAll, Act.put, List.setIfInBounds_toArray, List.set_cons_zero, List.set_cons_succ]; done) | (simp only [putAll, Act.put, List.setIfInBounds_toArray, List.set_cons_zero, List.set_cons_succ]; rfl)) (hJ2 vn_ _ ⟨hHeld, hN⟩)
            · skip
              refine value_ (w1 := ?_) (v := ?_) (by rfl) rfl ?_ ?_
              rotate_left 2
              · go_simp
                constructor
                · rfl
                · rfl
              have hN := (A1.out).newBlk 26 #[.int .i64 0, .int .i64 0, .int .u32 0]
              refine hK.out _ _ ⟨(hN.tail.cell 0).trans rfl, (hN.tail.cell 1).trans rfl, (hN.tail.cell 2).trans rfl⟩ (fun hHeld => ?_)
              clear hK K
              refine norm_ (a' := ?_) ?_ ?_
              rotate_left
              · show Act.put _ (some 13) _ = _
                simp only [Act.put, List.setIfInBounds_toArray, List.set_cons_zero, List.set_cons_succ, i64_w, i32_w]
                rfl
              exact norm_ (by first | (simp only [putAll, Act.put, List.setIfInBounds_toArray, List.set_cons_zero, List.set_cons_succ]; done) | (simp only [putAll, Act.put, List.setIfInBounds_toArray, List.set_cons_zero, List.set_cons_succ]; rfl)) (hJ11 (W2.drew).heap.size _ ⟨hHeld, hN⟩)
          · skip
            rintro v11_ W_ ⟨hS_, hQ_⟩
            have hSep : Aside0 (Sep w W_ ((Blk (v11_) 26 #[.int .i64 0, .int .i64 0, .int .u32 0]) :: [Blk w.heap.size 26 #[.int .i64 ra, .int .i64 rb, .int .u32 rc]])) := ⟨hQ_⟩
            clear hQ_
            have hHeld : W_.cell? ⟨w.heap.size, 0, none⟩ = some (.int .i64 ra) ∧ W_.cell? ⟨w.heap.size, 1, none⟩ = some (.int .i64 rb) ∧ W_.cell? ⟨w.heap.size, 2, none⟩ = some (.int .u32 rc) := hS_
            refine norm_ (a' := ?_) ?_ ?_
            rotate_left
            · simp only [putAll, Act.put, List.setIfInBounds_toArray, List.set_cons_zero, List.set_cons_succ]
              rfl
            refine one_ (i := 2) (N := some 18) #[true, true, true, true, true, false, true, true, true, true, false, true, false] rfl rfl (by kernel_rfl) (by decide) (fun K hK => ?_)
            refine goes_ Try.func19 (by kernel_rfl) rfl #[.int .i64 ra, .int .i64 1, .int .i64 6] (by rfl) rfl rfl (by simp only [List.map_toArray, List.map_cons, List.map_nil]; rfl) ?_
            with_reducible refine (withinK ra 1 6 ka _ HK.out.1 (by decide) (by decide) (by decide)).mono ?_
            rintro e wn_ ⟨vn_, rfl, hS_⟩
            refine ⟨_, rfl, ?_⟩
            have hN := (hSep.out).lift1 hS_
            clear hS_
            refine hK.out _ _ ⟨(hN.tail.tail.cell 0).trans rfl, (hN.tail.tail.cell 1).trans rfl, (hN.tail.tail.cell 2).trans rfl⟩ (fun hHeld => ?_)
            clear hK K
            refine norm_ (a' := ?_) ?_ ?_
            rotate_left
            · show Act.put _ (some 18) _ = _
              simp only [Act.put, List.setIfInBounds_toArray, List.set_cons_zero, List.set_cons_succ, i64_w, i32_w]
              rfl
            exact norm_ (by first | (simp only [putAll, Act.put, List.setIfInBounds_toArray, List.set_cons_zero, List.set_cons_succ]; done) | (simp only [putAll, Act.put, List.setIfInBounds_toArray, List.set_cons_zero, List.set_cons_succ]; rfl)) (hJ2_11 (vn_, v11_) _ ⟨hHeld, hN⟩)
        · skip
          rintro v2_ W_ ⟨hS_, hQ_⟩
          have hSep : Aside0 (Sep w W_ ((Pu ((v2_) = ka)) :: [Blk w.heap.size 26 #[.int .i64 ra, .int .i64 rb, .int .u32 rc]])) := ⟨hQ_⟩
          clear hQ_
          have hHeld : W_.cell? ⟨w.heap.size, 0, none⟩ = some (.int .i64 ra) ∧ W_.cell? ⟨w.heap.size, 1, none⟩ = some (.int .i64 rb) ∧ W_.cell? ⟨w.heap.size, 2, none⟩ = some (.int .u32 rc) := hS_
          refine norm_ (a' := ?_) ?_ ?_
          rotate_left
          · simp only [putAll, Act.put, List.setIfInBounds_toArray, List.set_cons_zero, List.set_cons_succ]
            rfl
          refine two_ (i := 5) (j := 11) (Ni := some 21) (Nj := some 13) #[true, true, true, true, true, true, true, true, true, true, false, false, false] #[true, true, true, true, true, false, true, true, true, true, false, true, false] rfl rfl rfl rfl (by kernel_rfl) (by decide) (by decide) (fun K hK => ?_) (fun K hK => ?_)
          · skip
            refine goes_ Try.func19 (by kernel_rfl) rfl #[.int .i64 rb, .int .i64 1, .int .i64 4] (by rfl) rfl rfl (by simp only [List.map_toArray, List.map_cons, List.map_nil]; rfl) ?_
            with_reducible refine (withinK rb 1 4 kb _ HK.out.2 (by decide) (by decide) (by decide)).mono ?_
            rintro e wn_ ⟨vn_, rfl, hS_⟩
            refine ⟨_, rfl, ?_⟩
            have hN := (hSep.out).lift1 hS_
            clear hS_
            refine hK.out _ _ ⟨(hN.tail.tail.cell 0).trans rfl, (hN.tail.tail.cell 1).trans rfl, (hN.tail.tail.cell 2).trans rfl⟩ (fun hHeld => ?_)
            clear hK K
            refine norm_ (a' := ?_) ?_ ?_
            rotate_left
            · show Act.put _ (some 21) _ = _
              simp only [Act.put, List.setIfInBounds_toArray, List.set_cons_zero, List.set_cons_succ, i64_w, i32_w]
              rfl
            refine pure_ (i := 10) (N := some 26) (v := ?_) (a' := ?_) #[true, true, true, true, true, true, true, true, true, true, true, false, false] rfl rfl (by kernel_rfl) (fun _ _ _ h => h) (Or.inl ⟨by rfl, ?_⟩) ?_ ?_
            rotate_left
            · intro w'
              go_simp
              with_reducible rfl
            rotate_left
            · simp only [Act.put, List.setIfInBounds_toArray, List.set_cons_zero, List.set_cons_succ, i64_w, i32_w]
              rfl
            exact norm_ (by first | (simp only [putAll, Act.put, List.setIfInBounds_toArray, List.set_cons_zero, List.set_cons_succ]; done) | (simp only [putAll, Act.put, List.setIfInBounds_toArray, List.set_cons_zero, List.set_cons_succ]; rfl)) (hJ2_5 (v2_, vn_) _ ⟨hHeld, hN.at2⟩)
          · skip
            refine value_ (w1 := ?_) (v := ?_) (by rfl) rfl ?_ ?_
            rotate_left 2
            · go_simp
              constructor
              · rfl
              · rfl
            have hN := (hSep.out).newBlk 26 #[.int .i64 0, .int .i64 0, .int .u32 0]
            refine hK.out _ _ ⟨(hN.tail.tail.cell 0).trans rfl, (hN.tail.tail.cell 1).trans rfl, (hN.tail.tail.cell 2).trans rfl⟩ (fun hHeld => ?_)
            clear hK K
            refine norm_ (a' := ?_) ?_ ?_
            rotate_left
            · show Act.put _ (some 13) _ = _
              simp only [Act.put, List.setIfInBounds_toArray, List.set_cons_zero, List.set_cons_succ, i64_w, i32_w]
              rfl
            exact norm_ (by first | (simp only [putAll, Act.put, List.setIfInBounds_toArray, List.set_cons_zero, List.set_cons_succ]; done) | (simp only [putAll, Act.put, List.setIfInBounds_toArray, List.set_cons_zero, List.set_cons_succ]; rfl)) (hJ2_11 (v2_, (W_).heap.size) _ ⟨hHeld, hN.at2⟩)
      · skip
        rintro ⟨v2_, v11_⟩ W_ ⟨hS_, hQ_⟩
        have hSep : Aside0 (Sep w W_ ((Pu ((v2_) = ka)) :: (Blk (v11_) 26 #[.int .i64 0, .int .i64 0, .int .u32 0]) :: [Blk w.heap.size 26 #[.int .i64 ra, .int .i64 rb, .int .u32 rc]])) := ⟨hQ_⟩
        clear hQ_
        have hHeld : W_.cell? ⟨w.heap.size, 0, none⟩ = some (.int .i64 ra) ∧ W_.cell? ⟨w.heap.size, 1, none⟩ = some (.int .i64 rb) ∧ W_.cell? ⟨w.heap.size, 2, none⟩ = some (.int .u32 rc) := hS_
        refine norm_ (a' := ?_) ?_ ?_
        rotate_left
        · simp only [putAll, Act.put, List.setIfInBounds_toArray, List.set_cons_zero, List.set_cons_succ]
          rfl
        refine one_ (i := 5) (N := some 21) #[true, true, true, true, true, true, true, true, true, true, false, true, false] rfl rfl (by kernel_rfl) (by decide) (fun K hK => ?_)
        refine goes_ Try.func19 (by kernel_rfl) rfl #[.int .i64 rb, .int .i64 1, .int .i64 4] (by rfl) rfl rfl (by simp only [List.map_toArray, List.map_cons, List.map_nil]; rfl) ?_
        with_reducible refine (withinK rb 1 4 kb _ HK.out.2 (by decide) (by decide) (by decide)).mono ?_
        rintro e wn_ ⟨vn_, rfl, hS_⟩
        refine ⟨_, rfl, ?_⟩
        have hN := (hSep.out).lift1 hS_
        clear hS_
        refine hK.out _ _ ⟨(hN.tail.tail.tail.cell 0).trans rfl, (hN.tail.tail.tail.cell 1).trans rfl, (hN.tail.tail.tail.cell 2).trans rfl⟩ (fun hHeld => ?_)
        clear hK K
        refine norm_ (a' := ?_) ?_ ?_
        rotate_left
        · show Act.put _ (some 21) _ = _
          simp only [Act.put, List.setIfInBounds_toArray, List.set_cons_zero, List.set_cons_succ, i64_w, i32_w]
          rfl
        refine pure_ (i := 10) (N := some 26) (v := ?_) (a' := ?_) #[true, true, true, true, true, true, true, true, true, true, true, true, false] rfl rfl (by kernel_rfl) (fun _ _ _ h => h) (Or.inl ⟨by rfl, ?_⟩) ?_ ?_
        rotate_left
        · intro w'
          go_simp
          with_reducible rfl
        rotate_left
        · simp only [Act.put, List.setIfInBounds_toArray, List.set_cons_zero, List.set_cons_succ, i64_w, i32_w]
          rfl
        exact norm_ (by first | (simp only [putAll, Act.put, List.setIfInBounds_toArray, List.set_cons_zero, List.set_cons_succ]; done) | (simp only [putAll, Act.put, List.setIfInBounds_toArray, List.set_cons_zero, List.set_cons_succ]; rfl)) (hJ2_5_11 (v2_, vn_, v11_) _ ⟨hHeld, hN.at2⟩)
    · skip
      rintro ⟨v2_, v5_⟩ W_ ⟨hS_, hQ_⟩
      have hSep : Aside0 (Sep w W_ ((Pu ((v2_) = ka)) :: (Pu ((v5_) = kb)) :: [Blk w.heap.size 26 #[.int .i64 ra, .int .i64 rb, .int .u32 rc]])) := ⟨hQ_⟩
      clear hQ_
      have hHeld : W_.cell? ⟨w.heap.size, 0, none⟩ = some (.int .i64 ra) ∧ W_.cell? ⟨w.heap.size, 1, none⟩ = some (.int .i64 rb) ∧ W_.cell? ⟨w.heap.size, 2, none⟩ = some (.int .u32 rc) := hS_
      refine norm_ (a' := ?_) ?_ ?_
      rotate_left
      · simp only [putAll, Act.put, List.setIfInBounds_toArray, List.set_cons_zero, List.set_cons_succ]
        rfl
      refine one_ (i := 11) (N := some 13) #[true, true, true, true, true, true, true, true, true, true, true, true, false] rfl rfl (by kernel_rfl) (by decide) (fun K hK => ?_)
      refine value_ (w1 := ?_) (v := ?_) (by rfl) rfl ?_ ?_
      rotate_left 2
      · go_simp
        constructor
        · rfl
        · rfl
      have hN := (hSep.out).newBlk 26 #[.int .i64 0, .int .i64 0, .int .u32 0]
      refine hK.out _ _ ⟨(hN.tail.tail.tail.cell 0).trans rfl, (hN.tail.tail.tail.cell 1).trans rfl, (hN.tail.tail.tail.cell 2).trans rfl⟩ (fun hHeld => ?_)
      clear hK K
      refine norm_ (a' := ?_) ?_ ?_
      rotate_left
      · show Act.put _ (some 13) _ = _
        simp only [Act.put, List.setIfInBounds_toArray, List.set_cons_zero, List.set_cons_succ, i64_w, i32_w]
        rfl
      exact norm_ (by first | (simp only [putAll, Act.put, List.setIfInBounds_toArray, List.set_cons_zero, List.set_cons_succ]; done) | (simp only [putAll, Act.put, List.setIfInBounds_toArray, List.set_cons_zero, List.set_cons_succ]; rfl)) (hJ2_5_11 (v2_, v5_, (W_).heap.size) _ ⟨hHeld, hN.to3⟩)
  rintro ⟨v2_, v5_, v11_⟩ W_ ⟨hS_, hQ_⟩
  have hSep : Aside0 (Sep w W_ ((Pu ((v2_) = ka)) :: (Pu ((v5_) = kb)) :: (Blk (v11_) 26 #[.int .i64 0, .int .i64 0, .int .u32 0]) :: [Blk w.heap.size 26 #[.int .i64 ra, .int .i64 rb, .int .u32 rc]])) := ⟨hQ_⟩
  clear hQ_
  have hHeld : W_.cell? ⟨w.heap.size, 0, none⟩ = some (.int .i64 ra) ∧ W_.cell? ⟨w.heap.size, 1, none⟩ = some (.int .i64 rb) ∧ W_.cell? ⟨w.heap.size, 2, none⟩ = some (.int .u32 rc) := hS_
  obtain ⟨h2_, hT_⟩ := hSep.out.pu
  obtain ⟨h5_, hT2_⟩ := hT_.pu
  have h2s := h2_.symm
  have h5s := h5_.symm
  subst h2s h5s
  obtain ⟨p10, hp_⟩ : ∃ p, p = v11_ := ⟨_, rfl⟩
  subst hp_
  obtain ⟨d0, f0, d1, f1, d2, f2, hS10⟩ := store3 (.int .i64 ka) (.int .i64 kb) (.int .u32 E) hT2_
  have B1' := Aside0.mk hS10
  clear hS10 hT_ hT2_
  refine norm_ (a' := ?_) ?_ ?_
  rotate_left
  · simp only [putAll, Act.put, List.setIfInBounds_toArray, List.set_cons_zero, List.set_cons_succ]
    rfl
  refine last_ (i := 12) (N := none) #[true, true, true, true, true, true, true, true, true, true, true, true, true] rfl rfl (by kernel_rfl) (by decide) (fun K hK => ?_)
  refine skip_ (w1 := ?_) (by rfl) rfl ?_ ?_
  rotate_left
  · go_simp
    rfl
  refine hK.out _ _ ?_
  clear hK K
  refine done_ (by kernel_rfl) ?_
  obtain ⟨w3, hw_⟩ : ∃ w_, ((W_.setCell ⟨p10, 0, none⟩ (.int .i64 ka)).setCell ⟨p10, 1, none⟩ (.int .i64 kb)).setCell ⟨p10, 2, none⟩ (.int .u32 E) = w_ := ⟨_, rfl⟩
  have B1 : Aside0 (Sep w w3 _) := ⟨by have h_ := B1'.out; rw [hw_] at h_; exact h_⟩
  rw [hw_]
  have B2 := Aside0.mk (B1.out.nilRow I64 3)
  clear hw_ B1' d0 d1 d2 f0 f1 f2
  go_wp2_with fail
  go_loopg [14, 29] n0 (fun k_ v p wr => ∃ (j : Nat) (xs : List Int), p = .int .i64 (j : Int) ∧ j + k_ = n0 ∧ xs.length = j ∧ (∀ x ∈ xs, -1 ≤ x ∧ x ≤ 400) ∧ Sep w wr [Row I64 3 v xs, Blk p10 26 #[.int .i64 ka, .int .i64 kb, .int .u32 E], Blk w.heap.size 26 #[.int .i64 ra, .int .i64 rb, .int .u32 rc]])
  case atStart => exact ⟨0, [], rfl, by omega, rfl, fun x hx => (by cases hx), B2.out⟩
  case round =>
    obtain ⟨j, xs, rfl, hjk, hxl, hxb, hS⟩ := hrel
    obtain ⟨w4, rfl⟩ : ∃ x, x = wr := ⟨_, rfl⟩
    have AK := Aside0.mk hjk
    have AS := Aside0.mk hS
    have HX := Aside0.mk (And.intro hxl hxb)
    obtain ⟨A5, c5, rfl⟩ := hS.rowN hxl
    clear hS hxl hxb
    by_cases cj : j < n0
    case pos =>
      have hjl : (j : Int) < (n0 : Int) := by omega
      obtain ⟨ad, hA, hc⟩ := Kd.at_int (Kd.C_below H0.out.1 AS.out.toBelow) (j : Int) (by omega) (by omega)
      rw [Int.toNat_natCast] at hc
      obtain ⟨q, hq⟩ : ∃ q, Book.withinF (rd ats (j : Int)) (-1) 400 = q := ⟨_, rfl⟩
      have HQ := Aside0.mk hq
      have HQB : Aside0 (-1 ≤ q ∧ q ≤ 400) := ⟨by rw [← hq]; exact Book.withinF_in (by decide)⟩
      have AL := Aside0.mk ((AS.out.litRow (enc := Value.int .i64) (h1 := fun _ => rfl) (e := 3) [q] (by simp)).at2)
      have HJ8 : Aside0 ((j + 1) * 8 ≤ 140737488355328) := ⟨by have := HN0.out; omega⟩
      subst hA
      clear hjk cj hq
      go_wp2_with fail
      refine (Book.within_ (rd ats (j : Int)) (-1) 400 _ (by decide) (by decide) (by decide)).mono ?_
      rintro e w5 ⟨rfl, rfl⟩
      rw [HQ.out]
      go_wp2_with (first | (refine gate_builtin (b := .append) (xs := #[.tmp 32, .tmp 38]) rfl ?_; go_loud (refine AL.out.appendRow rfl (.tmp 32) (.tmp 38) 38 (.int .i64 0) 8 rfl Try.underlying38 (by kernel_rfl) rfl (by decide) (some ⟨w4.heap.size, 0, none⟩) 1 1 rfl rfl AL.out.at2.rowC.2.2 (by rw [HX.out.1]; exact HJ8.out) ?_; intro v6 w6 hS6; have B6 := Aside0.mk hS6.drop2; clear hS6)))
      go_roundg (gk - 1)
      case measure => have := AK.out; omega
      case rel => exact ⟨j + 1, xs ++ [q], by go_num, by have := AK.out; omega, by rw [List.length_append, HX.out.1]; rfl, fun x hx => by
        rcases List.mem_append.1 hx with h | h
        · exact HX.out.2 x h
        · obtain rfl := List.mem_singleton.1 h; exact HQB.out, B6.out⟩
    case neg =>
    obtain rfl : j = n0 := by omega
    have hjl : ¬ (j : Int) < (j : Int) := by omega
    have z0 := (AS.out.at2.cell 0).trans rfl
    have z1 := (AS.out.at2.cell 1).trans rfl
    have z2 := (AS.out.at2.cell 2).trans rfl
    clear hjk cj
    go_wp2_with fail
    refine (plays_ AS.out.rowC' (fun x hx => by have := HX.out.2 x hx; omega) (Kd.C_below H1.out.1 AS.out.toBelow) H1.out.2 ka kb E).mono ?_
    rintro e w5 ⟨rfl, hb5⟩
    have B5 := Aside0.mk (AS.out.below hb5)
    clear hb5
    clear z0 z1 z2
    have z0 := (B5.out.at3.cell 0).trans rfl
    have z1 := (B5.out.at3.cell 1).trans rfl
    have z2 := (B5.out.at3.cell 2).trans rfl
    go_wp2_with fail
    refine (plays_ (Kd.C_below H0.out.1 B5.out.toBelow) H0.out.2 (Kd.C_below H1.out.1 B5.out.toBelow) H1.out.2 ra rb rc).mono ?_
    rintro e w6 ⟨rfl, hb6⟩
    have B6 := Aside0.mk (B5.out.below hb6)
    clear hb6
    clear z0 z1 z2
    have z0 := (B6.out.at2.cell 0).trans rfl
    have z1 := (B6.out.at2.cell 1).trans rfl
    have z2 := (B6.out.at2.cell 2).trans rfl
    go_wp2_with fail
    refine (plays_ (Kd.C_below H0.out.1 B6.out.toBelow) H0.out.2 (Kd.C_below H1.out.1 B6.out.toBelow) H1.out.2 ka kb E).mono ?_
    rintro e w7 ⟨rfl, hb7⟩
    have B7 := Aside0.mk (B6.out.below hb7)
    clear hb7
    clear z0 z1 z2
    have z0 := (B7.out.at2.cell 0).trans rfl
    have z1 := (B7.out.at2.cell 1).trans rfl
    have z2 := (B7.out.at2.cell 2).trans rfl
    go_wp2_with fail
    refine (logged5_ (Kd.C_below H3.out B7.out.toBelow) E at_ 0 HE.out (by decide)).mono ?_
    rintro e w8 ⟨rfl, hb8⟩
    have B8 := Aside0.mk (B7.out.below hb8)
    clear hb8
    clear z0 z1 z2
    have z0 := (B8.out.at2.cell 0).trans rfl
    have z1 := (B8.out.at2.cell 1).trans rfl
    have z2 := (B8.out.at2.cell 2).trans rfl
    go_wp2_with fail
    refine (logged5_ (Kd.C_below H3.out B8.out.toBelow) E at_ turn HE.out HT.out).mono ?_
    rintro e w9 ⟨rfl, hb9⟩
    have B9 := Aside0.mk (B8.out.below hb9)
    clear hb9 z0 z1 z2
    go_wp2_with fail
    refine (Redo.known_ _).mono ?_
    rintro e w10 ⟨rfl, hb10⟩
    have B10 := Aside0.mk (B9.out.below hb10)
    clear hb10
    go_wp2_with fail
    go_ret
    exact ⟨by first | rfl | (simp; done), B10.out.toBelow⟩
end Go.Proofs.Ytjngnigelkgekaa.Redo
namespace Go.Proofs.Ytjngnigelkgekaa.Kit
open Go.ChangeShapes Go.WideShapes Go.ChangeAt Go.RowKit Go.Proofs.YtjngnigelkgekaaW.PrintWords
set_option linter.unusedVariables false
section
variable {H : Type} {enc : TypeId × Value → H} {P : Program} {W : World} {base : Nat} {sp : Nat → Bool} {held : Bool}
/-- A slice of whole numbers. -/
theorem ints_C {T E : TypeId} {k : IntKind} {a : Option Addr} {len cap : Nat} {d : DataW H} {p : List MemPlace} (hT : P.underlying T = some (.slice E)) (hE : P.underlying E = some (.int k)) (hc : P.cellsOf E = 1)
    (h : DataW.Trod enc P W base (fun _ => true) held T (.slice a len cap) d p) : ∃ xs : List Int, len ≤ cap ∧ (Kd.int k).C W a len xs ∧ ∀ n ∈ xs, (Lit.int k n).wf = true := by
  obtain ⟨fuel, hf⟩ := h
  rcases open_ints hT hE hc hf with ⟨hcs, _⟩ | ⟨x, l, c, zs, hcs, _, hl, hm, hz, _, hcell, hwz⟩
  · simp [Value.cells] at hcs
    obtain ⟨rfl, rfl, rfl⟩ := hcs
    exact ⟨[], Nat.le_refl _, Kd.C_nil _ _, by simp⟩
  · simp [Value.cells] at hcs
    obtain ⟨rfl, rfl, rfl⟩ := hcs
    simp at hz
    simp only [maxLen] at hm
    refine ⟨zs.take len, hl, Kd.C_of_reads (d := (0 : Int)) (h1 := fun _ => rfl) ⟨by rw [List.length_take]; omega, by omega, fun h0 => ⟨x, rfl, fun j hj => ?_⟩⟩, fun n hn => hwz n (List.mem_of_mem_take hn)⟩
    rw [hcell j (by omega), List.getD_eq_getElem?_getD, List.getD_eq_getElem?_getD, List.getElem?_take, if_pos hj]
end
end Go.Proofs.Ytjngnigelkgekaa.Kit
namespace Go.Proofs.Ytjngnigelkgekaa.Kit
open Go.ChangeShapes Go.WideShapes Go.ChangeAt Go.RowKit Go.Proofs.YtjngnigelkgekaaW.PrintWords
set_option linter.unusedVariables false
set_option linter.unusedSimpArgs false
theorem add_twice (a : Addr) (m j : Nat) : (a.add m).add j = a.add (m + j) := by
  unfold Addr.add
  by_cases h1 : m = 0
  · subst h1; simp
  · by_cases h2 : j = 0
    · subst h2; simp
    · simp [h1, h2]; omega
theorem C_each {α : Type} {d : Kd α} {W : World} {A : Option Addr} {n : Nat} (hn : n ≤ 9223372036854775807) {Q : α → Prop}
    (h : ∀ i, i < n → ∃ (ad : Addr) (x : α) (cs : List Value), A = some ad ∧ cs.length = d.sz ∧ d.K W x cs ∧ Q x ∧ ∀ (j : Nat) u, cs[j]? = some u → W.cell? (ad.add (i * d.sz + j)) = some u) : ∃ xs : List α, d.C W A n xs ∧ ∀ x ∈ xs, Q x := by
  have hm : ∀ m, m ≤ n → ∃ xs : List α, xs.length = m ∧ ∀ (i : Nat) x, xs[i]? = some x → Q x ∧ ∃ (ad : Addr) (cs : List Value), A = some ad ∧ cs.length = d.sz ∧ d.K W x cs ∧ ∀ (j : Nat) u, cs[j]? = some u → W.cell? (ad.add (i * d.sz + j)) = some u := by
    intro m
    induction m with
    | zero => exact fun _ => ⟨[], rfl, fun i x hx => by simp at hx⟩
    | succ m ih =>
      intro hle
      obtain ⟨xs, hl, hx⟩ := ih (by omega)
      obtain ⟨ad, x, cs, h1, h2, h3, h4, h5⟩ := h m (by omega)
      refine ⟨xs ++ [x], by simp [hl], fun i y hy => ?_⟩
      by_cases hi : i < m
      · rw [List.getElem?_append_left (by omega)] at hy
        exact hx i y hy
      · have : i = m := by
          have := (List.getElem?_eq_some_iff.1 hy).1
          simp [hl] at this; omega
        subst this
        rw [List.getElem?_append_right (by omega), hl, Nat.sub_self] at hy
        simp at hy
        subst hy
        exact ⟨h4, ad, cs, h1, h2, h3, h5⟩
  obtain ⟨xs, hl, hx⟩ := hm n (Nat.le_refl _)
  refine ⟨xs, ⟨hl, hn, fun hp => ?_⟩, fun x hm => ?_⟩
  · obtain ⟨ad, _, _, e, _⟩ := h 0 hp
    refine ⟨ad, e, fun j x hj => ?_⟩
    obtain ⟨_, ad2, cs, e2, h2, h3, h5⟩ := hx j x hj
    rw [e] at e2
    cases e2
    exact ⟨cs, h2, h3, h5⟩
  · obtain ⟨i, hi⟩ := List.getElem?_of_mem hm
    exact (hx i x hi).1
section
variable {H : Type} {enc : TypeId × Value → H} {P : Program} {W : World} {base : Nat} {held : Bool}
theorem slice_cell {α : Type} {T E : TypeId} {d : Kd α} {Q : α → Prop} {fuel : Nat} {v : Value} {y : DataW H × List MemPlace} (hT : P.underlying T = some (.slice E)) (hc : P.cellsOf E = d.sz)
    (hK : ∀ (cs : List Value) (fuel : Nat) (y : DataW H × List MemPlace), cs.length = d.sz → DataW.trod enc P W base (fun _ => true) held fuel E cs = some y → ∃ x, d.K W x cs ∧ Q x)
    (h : DataW.trod enc P W base (fun _ => true) held fuel T [v] = some y) : ∃ A m c xs, v = .slice A m c ∧ m ≤ c ∧ d.C W A m xs ∧ ∀ x ∈ xs, Q x := by
  rcases Go.Deep.open_slice hT h with ⟨hcs, _⟩ | ⟨x, l, c, m, n, D, Pl, hcs, hb, hl, hm, hmm, hx, hi⟩
  · exact ⟨none, 0, 0, [], (List.cons.inj hcs).1, Nat.le_refl _, Kd.C_nil _ _, by simp⟩
  · simp at hmm
    simp only [maxLen] at hm
    obtain ⟨xs, h1, h2⟩ := C_each (d := d) (W := W) (A := some x) (n := l) (Q := Q) (by omega) (fun i hlt => by
      obtain ⟨cs', hc', ht'⟩ := hi i (by omega)
      obtain ⟨_, hcl, hat⟩ := World.cells?_some hc'
      rw [hc] at hcl hat
      obtain ⟨z, hz, hQ⟩ := hK cs' _ _ hcl ht'
      refine ⟨x, z, cs', rfl, hcl, hz, hQ, fun j u hj => ?_⟩
      have hjl := (List.getElem?_eq_some_iff.1 hj).1
      have := hat j (by omega)
      rw [add_twice, hj] at this
      exact this)
    exact ⟨some x, l, c, xs, (List.cons.inj hcs).1, hl, h1, h2⟩
theorem slice_open {α : Type} {T E : TypeId} {d : Kd α} {Q : α → Prop} {a : Option Addr} {len cap : Nat} {dd : DataW H} {p : List MemPlace} (hT : P.underlying T = some (.slice E)) (hc : P.cellsOf E = d.sz)
    (hK : ∀ (cs : List Value) (fuel : Nat) (y : DataW H × List MemPlace), cs.length = d.sz → DataW.trod enc P W base (fun _ => true) held fuel E cs = some y → ∃ x, d.K W x cs ∧ Q x)
    (h : DataW.Trod enc P W base (fun _ => true) held T (.slice a len cap) dd p) : ∃ xs : List α, len ≤ cap ∧ d.C W a len xs ∧ ∀ x ∈ xs, Q x := by
  obtain ⟨fuel, hf⟩ := h
  obtain ⟨A, m, c, xs, e, h1, h2, h3⟩ := slice_cell hT hc hK (v := .slice a len cap) hf
  cases e
  exact ⟨xs, h1, h2, h3⟩
theorem int_cell {T : TypeId} {k : IntKind} {fuel : Nat} {cs : List Value} {y : DataW H × List MemPlace} (hT : P.underlying T = some (.int k)) (h : DataW.trod enc P W base (fun _ => true) held fuel T cs = some y) : ∃ n, (Kd.int k).K W n cs ∧ (Lit.int k n).wf = true := by
  obtain ⟨n, h1, _, h2⟩ := DataW.trod_int hT h
  exact ⟨n, h1, h2⟩
/-- A slice's weight bounds its length. -/
theorem slice_weight {T E : TypeId} {a : Option Addr} {len cap b : Nat} {d : DataW H} {p : List MemPlace} (hT : P.underlying T = some (.slice E)) (hb : P.bytesOf E = b) (h : DataW.Trod enc P W base (fun _ => true) held T (.slice a len cap) d p) {ts : List TypeId} {ds : List (DataW H)} {j : Nat}
    (hz : (DataW.weightsEach P ts ds).all (· ≤ reachBytes) = true) (ht : ts[j]? = some T) (hd : ds[j]? = some d) : len * b ≤ 140737488355328 := by
  obtain ⟨fuel, hf⟩ := h
  rcases Go.Deep.open_slice hT hf with ⟨hcs, _⟩ | ⟨x, l, c, m, n, D, Pl, hcs, hbb, hl, hm, hmm, hx, hi⟩
  · simp [Value.cells] at hcs
    obtain ⟨rfl, rfl, rfl⟩ := hcs
    omega
  · simp [Value.cells] at hcs
    obtain ⟨rfl, rfl, rfl⟩ := hcs
    simp only [Prod.mk.injEq] at hx
    have h1 := sized_slice hz ht (hd.trans (congrArg some hx.1)) hT
    rw [hb, List.length_map, List.length_range] at h1
    have h2 : reachBytes ≤ 140737488355328 := by decide
    exact Nat.le_trans (Nat.mul_le_mul_right b (Nat.le_add_right _ _)) (Nat.le_trans h1 h2)
end
end Go.Proofs.Ytjngnigelkgekaa.Kit
namespace Go.Proofs.Ytjngnigelkgekaa.Redo
open Go.ChangeShapes Go.WideShapes Go.ChangeAt Go.RowKit Go.Proofs.YtjngnigelkgekaaW.PrintWords Go.Proofs.Ytjngnigelkgekaa.Kit Go.Proofs.Ytjngnigelkgekaa.Plain
open Go.Proofs.Ytjngnigelkgekaa.Home (K2)
set_option linter.unusedVariables false
set_option linter.unusedSimpArgs false
section
variable {H : Type} {enc : TypeId × Value → H} {W : World} {base : Nat} {held : Bool}
set_option maxRecDepth 100000 in
theorem rows2_open {a : Option Addr} {len cap : Nat} {d : DataW H} {p : List MemPlace} (h : DataW.Trod enc Try.prog W base (fun _ => true) held 22 (.slice a len cap) d p) : ∃ xs : List (List Int), len ≤ cap ∧ K2.C W a len xs ∧ ∀ x ∈ xs, Bytes x := by
  refine slice_open (d := K2) Try.underlying22 (by kernel_rfl) (fun cs fuel y hl ht => ?_) h
  match cs, hl with
  | [u0], _ =>
    obtain ⟨B, m, c, bs, rfl, h1, h2, h3⟩ := slice_cell (d := Kd.int .u8) (Q := fun x => 0 ≤ x ∧ x ≤ 255) Try.underlying30 (by kernel_rfl) (fun cs fuel y _ ht => by
      obtain ⟨n, e, hw⟩ := int_cell Try.underlying5 ht
      exact ⟨n, e, u8_wf hw⟩) ht
    obtain rfl := h2.1
    exact ⟨bs, ⟨B, c, rfl, h1, h2⟩, h3⟩
theorem ints_weight {a : Option Addr} {len cap : Nat} {d : DataW H} {p : List MemPlace} (h : DataW.Trod enc Try.prog W base (fun _ => true) held 38 (.slice a len cap) d p) {ts : List TypeId} {ds : List (DataW H)} {j : Nat}
    (hz : (DataW.weightsEach Try.prog ts ds).all (· ≤ reachBytes) = true) (ht : ts[j]? = some 38) (hd : ds[j]? = some d) : len * 8 ≤ 140737488355328 := slice_weight Try.underlying38 (by kernel_rfl) h hz ht hd
end
end Go.Proofs.Ytjngnigelkgekaa.Redo
