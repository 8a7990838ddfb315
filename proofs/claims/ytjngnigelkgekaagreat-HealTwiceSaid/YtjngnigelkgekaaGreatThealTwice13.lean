/- DeltaRead1, RefD1, StFits, RefD2: what HealTwice needs. -/
import Derived.Test.YtjngnigelkgekaaGreatThealTwice12
set_option linter.unusedVariables false
set_option linter.unusedSimpArgs false
namespace Go.Proofs.YtjngnigelkgekaaGreat.Delta
open Go.RowKit Go.Shelf Go.Proofs.YtjngnigelkgekaaGreatW.PrintWords Go.Proofs.YtjngnigelkgekaaGreatW.PrintLast Go.Proofs.YtjngnigelkgekaaGreatW.PrintMore Go.Proofs.YtjngnigelkgekaaGreat.Kit Go.Proofs.YtjngnigelkgekaaGreat.Base Go.Proofs.YtjngnigelkgekaaGreat.Plain
attribute [local go_sem] Oper.semAt_some
def chunkF (b : List Int) (i : Nat) : Chg := (rd b ((2 + 66 * i : Nat) : Int) * 256 + rd b ((3 + 66 * i : Nat) : Int), (b.drop (4 + 66 * i)).take 64)
def countF (b : List Int) : Nat := (rd b 0 * 256 + rd b 1).toNat
def rawF (b : List Int) : List Chg := (List.range (countF b)).map (chunkF b)
def undeltaF (b : List Int) (pages : Int) : Option (List Chg) :=
  if b.length < 2 then none else if b.length ≠ 2 + 66 * countF b then none else if rightF (rawF b) pages then some (rawF b) else none
theorem join64 {x y : Int} (h0 : 0 ≤ x) (h1 : x ≤ 255) (g0 : 0 ≤ y) (g1 : y ≤ 255) : Go.bits .or .i64 (x * 256) y = x * 256 + y :=
  bits_join .i64 16 (by decide) (fun n a b => by rw [IntKind.wrap_i64]; omega) 8 (x * 256) y (by omega) (by omega) (by omega) g0 (by omega) (by omega)
theorem infoCh : (Tryz.prog.info? 75).map (fun i => (i.zero, i.size, i.bytes)) = some (some (.agg #[.int .i64 0, .slice none 0 0]), 2, 32) := by kernel_rfl
theorem byte_at {A : Option Addr} {n : Nat} {b : List Int} {w : World} (hr : U8.C w A n b) {i : Nat} (hi : i < n) : ∃ ad, A = some ad ∧ w.cell? (ad.add i) = some (.int .u8 (rd b (i : Int))) := by
  obtain ⟨ad, hA, hc⟩ := Kd.at_int hr (i : Int) (by omega) (by omega)
  rw [Int.toNat_natCast] at hc
  exact ⟨ad, hA, hc⟩
set_option maxHeartbeats 1600000 in
set_option maxRecDepth 100000 in
theorem read_no {A : Option Addr} {n c : Nat} {b : List Int} {w : World} (hr : U8.C w A n b) (hb : Bytes b) (hl : n ≤ 1000000) (pages : Int) (hn : b.length < 2 ∨ b.length ≠ 2 + 66 * countF b) :
    Calls Tryz.prog 136 #[.slice A n c, .int .i64 pages] w fun e w' => e = .returned (.tuple #[.slice none 0 0, .bool false]) ∧ Below w.heap.size w w' := by
  obtain rfl : b.length = n := hr.1
  have HR := Aside0.mk hr
  clear hr
  by_cases h2 : b.length < 2
  · have hu1 : (b.length : Int) < 2 := by omega
    clear h2 hn
    go_enter Tryz.func136, Tryz.ntmps136
    go_wp2_with fail
    go_ret2
    exact ⟨by first | rfl | (simp; done), Below.refl _ _⟩
  · have h3 : b.length ≠ 2 + 66 * countF b := by omega
    have hu1 : ¬ (b.length : Int) < 2 := by omega
    obtain ⟨ad, hA, -⟩ := byte_at HR.out (i := 0) (by omega)
    subst hA
    have c0 : ∀ q, (w.drewN q).cell? (ad.add 0) = some (.int .u8 (rd b 0)) := fun q => by
      obtain ⟨ad', hA, hc⟩ := byte_at (Kd.C_drewN HR.out q) (i := 0) (by omega)
      cases hA; exact hc
    have c1 : ∀ q, (w.drewN q).cell? ⟨ad.block, ad.off + 1, none⟩ = some (.int .u8 (rd b 1)) := fun q => by
      obtain ⟨ad', hA, hc⟩ := byte_at (Kd.C_drewN HR.out q) (i := 1) (by omega)
      cases hA; exact hc
    rw [show ad.add 0 = ad by simp [Addr.add]] at c0
    have x0 := hb.at 0
    have x1 := hb.at 1
    have hj := join64 x0.1 x0.2 x1.1 x1.2
    have hcn : (countF b : Int) = rd b 0 * 256 + rd b 1 := by unfold countF; omega
    generalize rd b 0 = p at *
    generalize rd b 1 = q at *
    have hne : ¬ ((b.length : Int) = 2 + (p * 256 + q) * 66) := by omega
    have hw : IntKind.i64.wrap (p * 256) = p * 256 := by rw [IntKind.wrap_i64]; omega
    have hwp : IntKind.i64.wrap p = p := by rw [IntKind.wrap_i64]; omega
    have hwq : IntKind.i64.wrap q = q := by rw [IntKind.wrap_i64]; omega
    have hne2 : ((b.length : Int) != 2 + (p * 256 + q) * 66) = true := by simpa using hne
    have hn0 : 0 < b.length := by omega
    have hn1 : 1 < b.length := by omega
    have hi1 : (1 : Int) < (b.length : Int) := by omega
    clear h2 hn h3 hcn hne
    go_enter Tryz.func136, Tryz.ntmps136
    go_wp2_with fail
    go_quiet (fail)
    go_wp2_with fail
    go_ret2
    exact ⟨by first | rfl | (simp; done), pw_below_drewN (Below.refl _ _) _⟩
set_option maxHeartbeats 1600000 in
set_option maxRecDepth 100000 in
theorem read_all {A : Option Addr} {n c m : Nat} {b : List Int} {w : World} (hr : U8.C w A n b) (hc : n ≤ c) (hb : Bytes b) (hl : n ≤ 1000000) (pages : Int) (hcf : countF b = m) (hm : b.length = 2 + 66 * m) :
    Calls Tryz.prog 136 #[.slice A n c, .int .i64 pages] w fun e w' => ∃ v, e = .returned (.tuple #[v, .bool (undeltaF b pages).isSome]) ∧ Sep w w' [Row KC 75 v ((undeltaF b pages).getD [])] := by
  obtain rfl : b.length = n := hr.1
  have HR := Aside0.mk hr
  have HB := Aside0.mk hb
  obtain ⟨ad, hA, -⟩ := byte_at HR.out (i := 0) (by omega)
  subst hA
  have c0 : ∀ q, (w.drewN q).cell? (ad.add 0) = some (.int .u8 (rd b 0)) := fun q => by
    obtain ⟨ad', hA, hc⟩ := byte_at (Kd.C_drewN HR.out q) (i := 0) (by omega)
    cases hA; exact hc
  have c1 : ∀ q, (w.drewN q).cell? ⟨ad.block, ad.off + 1, none⟩ = some (.int .u8 (rd b 1)) := fun q => by
    obtain ⟨ad', hA, hc⟩ := byte_at (Kd.C_drewN HR.out q) (i := 1) (by omega)
    cases hA; exact hc
  rw [show ad.add 0 = ad by simp [Addr.add]] at c0
  have x0 := hb.at 0
  have x1 := hb.at 1
  have hj := join64 x0.1 x0.2 x1.1 x1.2
  have hcn : (m : Int) = rd b 0 * 256 + rd b 1 := by rw [← hcf]; unfold countF; omega
  generalize rd b 0 = p at *
  generalize rd b 1 = q at *
  have hne2 : ((b.length : Int) != 2 + (p * 256 + q) * 66) = false := by simp; omega
  have hw : IntKind.i64.wrap (p * 256) = p * 256 := by rw [IntKind.wrap_i64]; omega
  have hwp : IntKind.i64.wrap p = p := by rw [IntKind.wrap_i64]; omega
  have hwq : IntKind.i64.wrap q = q := by rw [IntKind.wrap_i64]; omega
  have hn0 : 0 < b.length := by omega
  have hn1 : 1 < b.length := by omega
  have hi1 : (1 : Int) < (b.length : Int) := by omega
  have hu1 : ¬ (b.length : Int) < 2 := by omega
  have HC := Aside0.mk (And.intro hc (And.intro hcf (And.intro hm hcn)))
  obtain ⟨A2, hcut, hT⟩ := drop8 (A := some ad) (n := b.length) (c := c) (a := 2) (J := 2) (l := b) rfl rfl (by omega) hc
  have HT := Aside0.mk hT
  clear hr hb hc hcf hm hcn hT
  refine (callsIn_wide (n := 3)).1 ?_
  refine callsIn_of_wp_marks Tryz.func136 rfl trivial ?_ rfl
  simp only [Tryz.ntmps136, List.size_toArray, List.length_cons, List.length_nil, Nat.reduceAdd, Nat.reduceSub, Array.replicate_succ, Array.replicate_zero, List.push_toArray, List.append_toArray, List.nil_append, List.cons_append]
  gi_wp2
  refine wpIn_wide.2 ?_
  go_quiet (fail)
  gi_wp2
  have S0 := ((((Sep.start w).drewN nq).newBlk 60 #[.slice none 0 0]).newBlk 24 #[.slice A2 (b.length - 2) (c - 2)]).newBlk 3 #[.int .i64 66]
  rw [show (w.drewN nq).heap.size = w.heap.size from rfl] at S0
  refine ⟨trivial, callsIn_wide.2 ?_⟩
  refine (chunk_ _).mono ?_
  rintro e w2 ⟨rfl, rfl⟩
  rw [show ((w.drewN nq).alloc (.cells #[.slice none 0 0] 60)).heap.size = w.heap.size + 1 by simp, show (((w.drewN nq).alloc (.cells #[.slice none 0 0] 60)).alloc (.cells #[.slice A2 (b.length - 2) (c - 2)] 24)).heap.size = w.heap.size + 2 by simp] at S0
  rw [show ((w.drewN nq).alloc (.cells #[.slice none 0 0] 60)).heap.size = w.heap.size + 1 by simp]
  obtain ⟨WS, hWS⟩ : ∃ WS, (((w.drewN nq).alloc (.cells #[.slice none 0 0] 60)).alloc (.cells #[.slice A2 (b.length - 2) (c - 2)] 24)).alloc (.cells #[.int .i64 66] 3) = WS := ⟨_, rfl⟩
  rw [hWS] at S0 ⊢
  clear hWS
  have AS := Aside0.mk S0
  clear S0
  gi_wp2
  have hBx : Boxes WS (w.heap.size + 1) (w.heap.size + 1 + 1) A2 (b.length - 2) (c - 2) := ⟨AS.out.at2.blk, AS.out.blk⟩
  have hsz : w.heap.size ≤ WS.heap.size := AS.out.size
  have hbx2 : w.heap.size + 1 + 1 < WS.heap.size := blk_lt hBx.2
  have hcell : ∀ (v : Value) (l : List Chg), ∀ r ∈ [Blk w.heap.size 60 #[v], Row KC 75 v l, Blk (w.heap.size + 1) 24 #[.slice A2 (b.length - 2) (c - 2)], Blk (w.heap.size + 1 + 1) 3 #[.int .i64 66]], CellsOnly r := fun v l r hr => by
    simp only [List.mem_cons, List.not_mem_nil, or_false] at hr
    rcases hr with rfl | rfl | rfl | rfl
    · exact cellsOnly_blk _ _ _
    · exact cellsOnly_row _ _ _ _
    · exact cellsOnly_blk _ _ _
    · exact cellsOnly_blk _ _ _
  refine wpIn_rangeFunc_ownG (F := Fence.wide) rfl (by decide) (gf := 156) (lb := #[.pointer (some ⟨w.heap.size + 1, 0, none⟩), .pointer (some ⟨w.heap.size + 1 + 1, 0, none⟩)]) rfl trivial (enters_of Tryz.func156 (by kernel_rfl) rfl)
    (chunk1_in 2 (by decide) (m := m) (L := b.length - 2) (by have := HC.out; omega) hBx (by have := HC.out; omega) (by have := HC.out; omega)) (fun h k => ⟨k.1.trans h.1, k.2.trans h.2⟩) (fun W l o o' hl _ _ _ => ⟨World.putObj_heap_other (by omega), World.putObj_heap_other (by omega)⟩) (Below.refl _ _) (fun _ => rfl)
    (fun pre W => ∃ v, Sep w W [Blk w.heap.size 60 #[v], Row KC 75 v (pre.map (fun i => chunkF b i.1)), Blk (w.heap.size + 1) 24 #[.slice A2 (b.length - 2) (c - 2)], Blk (w.heap.size + 1 + 1) 3 #[.int .i64 66]])
    (fun _ _ _ => False)
    (fun s W W' row hs hg hr => by obtain ⟨v, hs⟩ := hs; exact ⟨v, hs.turned (hcell _ _) hsz hg hr⟩)
    (fun _ _ _ _ _ hs _ _ => hs)
    ⟨.slice none 0 0, (AS.out.nilRow KC 75).at4.perm (.cons _ (.cons _ (.swap _ _ _)))⟩
    (fun x => { tmps := #[.slice (some ad) b.length c, .int .i64 pages, undef, undef, .slice none 0 0, .bool false, .int .i64 (p * 256 + q), .pointer (some ⟨w.heap.size, 0, none⟩), .slice (A2.map (·.add (66 * x.1))) 66 66, .slice (some ad) b.length c, .int .i64 (b.length : Int), .bool false, .slice (some ad) b.length c, .pointer (some ad), .int .u8 p, .int .i64 p, .int .i64 (p * 256), .slice (some ad) b.length c, .pointer (some ⟨ad.block, ad.off + 1, none⟩), .int .u8 q, .int .i64 q, .int .i64 (p * 256 + q), .slice (some ad) b.length c, .int .i64 (b.length : Int), .int .i64 (p * 256 + q), .int .i64 ((p * 256 + q) * 66), .int .i64 (2 + (p * 256 + q) * 66), .bool false, .slice (some ad) b.length c, .slice A2 (b.length - 2) (c - 2), .func (.func 156) #[] #[.pointer (some ⟨w.heap.size + 1, 0, none⟩), .pointer (some ⟨w.heap.size + 1 + 1, 0, none⟩)], .slice (A2.map (·.add (66 * x.1))) 66 66, undef, undef, undef, undef, undef, undef, undef, undef, undef, undef, undef, undef, undef, undef, undef, undef, undef, undef, undef, undef, undef, undef], defers := [] }) ?assign ?body ?done ?stop
  case assign =>
    intro l x W K hK
    unfold encC
    gi_wp2
    exact hK
  case body =>
    rintro l pre x W ⟨v, hS⟩ hlen
    obtain ⟨Av, cv, rfl⟩ := hS.at2.rowV
    rw [List.length_map] at hS
    have hxm := x.2
    have hlm : b.length - 2 = 66 * m := by have := HC.out.2.2.1; omega
    have hlb : b.length = 2 + 66 * m := HC.out.2.2.1
    have hm2 : m ≤ 1000000 := by omega
    have hcc : b.length - 2 ≤ c - 2 := by have := HC.out.1; omega
    have hdl : (b.drop 2).length = b.length - 2 := List.length_drop ..
    obtain ⟨ad2, hA2, -⟩ := (HT.out w HR.out).2.2 (by omega)
    subst hA2
    obtain ⟨qx, hqx⟩ : ∃ qx, ((b.drop 2).take (66 * x.1 + 66)).drop (66 * x.1) = qx := ⟨_, rfl⟩
    have hql : qx.length = 66 := by rw [← hqx, List.length_drop, List.length_take]; omega
    have hqr : ∀ i : Nat, i < 66 → rd qx (i : Int) = rd b ((2 + 66 * x.1 + i : Nat) : Int) := fun i hi => by
      rw [← hqx]; unfold rd
      rw [Int.toNat_natCast, Int.toNat_natCast, List.getD_eq_getElem?_getD, List.getD_eq_getElem?_getD, List.getElem?_drop, List.getElem?_take, if_pos (by omega), List.getElem?_drop, Nat.add_assoc]
    have hqd : qx.drop 2 = (b.drop (4 + 66 * x.1)).take 64 := by
      rw [← hqx, List.drop_drop, List.drop_take, List.drop_drop]
      congr 1
      · omega
      · congr 1; omega
    have hCq : ∀ W' : World, Below w.heap.size w W' → U8.C W' (some (ad2.add (66 * x.1))) 66 qx := fun W' hb => by
      have h1 := Kd.C_below (HT.out w HR.out) hb
      rw [← hdl] at h1
      have h2 := Kd.C_mid (c := c - 2) (lo := 66 * x.1) (hi := 66 * x.1 + 66) h1 (by omega) (by omega) (by omega)
      rw [hqx, hql, if_neg (by omega)] at h2
      simpa [Kd.int, Kd.scalar] using h2
    have hqb : Bytes qx := by rw [← hqx]; exact (((HB.out.drop 2).take _).drop _)
    have HCQ := Aside0.mk hCq
    have hch : chunkF b x.1 = (rd qx 0 * 256 + rd qx 1, qx.drop 2) := by
      have h0 := hqr 0 (by decide)
      have h1 := hqr 1 (by decide)
      unfold chunkF
      rw [hqd]
      simp only [Int.natCast_zero, Int.natCast_one] at h0 h1
      rw [h0, h1]
      congr 4
      · omega
    have hN := hS.roundIn (hcell (.slice Av pre.length cv) _) hsz
    have z0 : W.drew.cell? ⟨w.heap.size, 0, none⟩ = some (.slice Av pre.length cv) := (hS.drew.cell 0).trans rfl
    obtain ⟨a0, hA0, z1⟩ := byte_at (hCq W.drew hS.drew.toBelow) (i := 0) (by decide)
    obtain ⟨a1, hA1, z2⟩ := byte_at (hCq W.drew hS.drew.toBelow) (i := 1) (by decide)
    cases hA0; cases hA1
    rw [show (ad2.add (66 * x.1)).add 0 = ad2.add (66 * x.1) by simp [Addr.add]] at z1
    replace z2 : W.drew.cell? ⟨(ad2.add (66 * x.1)).block, (ad2.add (66 * x.1)).off + 1, none⟩ = some (.int .u8 (rd qx 1)) := z2
    replace z1 : W.drew.cell? (ad2.add (66 * x.1)) = some (.int .u8 (rd qx 0)) := z1
    obtain ⟨A3, hcut3, hT3⟩ := drop8 (A := some (ad2.add (66 * x.1))) (n := 66) (c := 66) (a := 2) (J := 2) (l := qx) rfl hql (by decide) (Nat.le_refl _)
    have HC3 : Aside0 (U8.C W.drew A3 64 (qx.drop 2)) := ⟨hT3 _ (hCq _ hS.drew.toBelow)⟩
    have hl64 : (qx.drop 2).length = 64 := by rw [List.length_drop, hql]
    have y0 := hqb.at 0
    have y1 := hqb.at 1
    have hjj := join64 y0.1 y0.2 y1.1 y1.2
    generalize rd qx 0 = P0 at *
    generalize rd qx 1 = P1 at *
    generalize qx.drop 2 = qs at *
    have hww : IntKind.i64.wrap (P0 * 256) = P0 * 256 := by rw [IntKind.wrap_i64]; omega
    have hwP : IntKind.i64.wrap P0 = P0 := by rw [IntKind.wrap_i64]; omega
    have hwQ : IntKind.i64.wrap P1 = P1 := by rw [IntKind.wrap_i64]; omega
    have AN := Aside0.mk hN
    have AL := Aside0.mk hl64
    have AX := Aside0.mk (And.intro hch (And.intro hS hlen))
    have hpl : pre.length ≤ 1000000 := by omega
    clear hS hN hT3 hl64 hch hqr hqd hCq hqb hqx hlen hj hne2 hw hwp hwq x0 x1 hn0 hn1 hi1 hu1 hdl hlb
    refine wpIn_block ?_
    refine startR_ (fun h => by obtain ⟨_, _, h⟩ := h; exact h) (noDefer_of (by kernel_rfl)) (by kernel_rfl) (startN_ (m := 18) (S := fun w' => w'.cell? ⟨w.heap.size, 0, none⟩ = some (.slice Av pre.length cv) ∧ w'.cell? (ad2.add (66 * x.1)) = some (.int .u8 P0) ∧ w'.cell? ⟨(ad2.add (66 * x.1)).block, (ad2.add (66 * x.1)).off + 1, none⟩ = some (.int .u8 P1)) (ds := [16, 17]) #[fF,fF,fF,fF,fF,fF,fF,fF,fF,fF,fF,fF,fF,fF,fF,fF,fF,fF] rfl rfl ⟨z0, z1, z2⟩ (fun hHeld => ?_))
    refine pu_ 1 33 ?_ #[fF,tT,fF,fF,fF,fF,fF,fF,fF,fF,fF,fF,fF,fF,fF,fF,fF,fF] rfl rfl ?_ ?_ ?_ ?_
    rotate_left
    · intro w'
      go_simp
      with_reducible rfl
    rotate_left
    · simp only [aP]
      rfl
    refine pu_ 2 34 ?_ #[fF,tT,tT,fF,fF,fF,fF,fF,fF,fF,fF,fF,fF,fF,fF,fF,fF,fF] rfl rfl ?_ ?_ ?_ ?_
    rotate_left
    · intro w'
      go_simp
      with_reducible rfl
    rotate_left
    · simp only [aP]
      rfl
    refine pu_ 6 38 ?_ #[fF,tT,tT,fF,fF,fF,tT,fF,fF,fF,fF,fF,fF,fF,fF,fF,fF,fF] rfl rfl ?_ ?_ ?_ ?_
    rotate_left
    · intro w'
      go_simp
      with_reducible rfl
    rotate_left
    · simp only [aP]
      rfl
    refine pu_ 7 39 ?_ #[fF,tT,tT,fF,fF,fF,tT,tT,fF,fF,fF,fF,fF,fF,fF,fF,fF,fF] rfl rfl ?_ ?_ ?_ ?_
    rotate_left
    · intro w'
      go_simp
      with_reducible rfl
    rotate_left
    · simp only [aP]
      rfl
    refine pu_ 11 43 ?_ #[fF,tT,tT,fF,fF,fF,tT,tT,fF,fF,fF,tT,fF,fF,fF,fF,fF,fF] rfl rfl ?_ ?_ ?_ ?_
    rotate_left
    · intro w'
      go_simp
      with_reducible rfl
    rotate_left
    · simp only [aP]
      rfl
    refine pu_ 12 44 ?_ #[fF,tT,tT,fF,fF,fF,tT,tT,fF,fF,fF,tT,tT,fF,fF,fF,fF,fF] rfl rfl ?_ ?_ ?_ ?_
    rotate_left
    · intro w'
      go_simp
      with_reducible rfl
    rotate_left
    · simp only [aP]
      rfl
    refine ta_ 0 32 ?_ #[tT,tT,tT,fF,fF,fF,tT,tT,fF,fF,fF,tT,tT,fF,fF,fF,fF,fF] rfl rfl ?_ hHeld ?_ ?_ ?_
    rotate_left
    · rintro w' ⟨s0, s1, s2⟩
      go_simp
      with_reducible rfl
    rotate_left
    · simp only [aP]
      rfl
    refine ta_ 3 35 ?_ #[tT,tT,tT,tT,fF,fF,tT,tT,fF,fF,fF,tT,tT,fF,fF,fF,fF,fF] rfl rfl ?_ hHeld ?_ ?_ ?_
    rotate_left
    · rintro w' ⟨s0, s1, s2⟩
      go_simp
      with_reducible rfl
    rotate_left
    · simp only [aP]
      rfl
    refine pu_ 4 36 ?_ #[tT,tT,tT,tT,tT,fF,tT,tT,fF,fF,fF,tT,tT,fF,fF,fF,fF,fF] rfl rfl ?_ ?_ ?_ ?_
    rotate_left
    · intro w'
      go_simp
      with_reducible rfl
    rotate_left
    · simp only [aP]
      rfl
    refine pu_ 5 37 ?_ #[tT,tT,tT,tT,tT,tT,tT,tT,fF,fF,fF,tT,tT,fF,fF,fF,fF,fF] rfl rfl ?_ ?_ ?_ ?_
    rotate_left
    · intro w'
      go_simp
      with_reducible rfl
    rotate_left
    · simp only [aP]
      rfl
    refine ta_ 8 40 ?_ #[tT,tT,tT,tT,tT,tT,tT,tT,tT,fF,fF,tT,tT,fF,fF,fF,fF,fF] rfl rfl ?_ hHeld ?_ ?_ ?_
    rotate_left
    · rintro w' ⟨s0, s1, s2⟩
      go_simp
      with_reducible rfl
    rotate_left
    · simp only [aP]
      rfl
    refine pu_ 9 41 ?_ #[tT,tT,tT,tT,tT,tT,tT,tT,tT,tT,fF,tT,tT,fF,fF,fF,fF,fF] rfl rfl ?_ ?_ ?_ ?_
    rotate_left
    · intro w'
      go_simp
      with_reducible rfl
    rotate_left
    · simp only [aP]
      rfl
    refine pu_ 10 42 ?_ #[tT,tT,tT,tT,tT,tT,tT,tT,tT,tT,tT,tT,tT,fF,fF,fF,fF,fF] rfl rfl ?_ ?_ ?_ ?_
    rotate_left
    · intro w'
      go_simp
      with_reducible rfl
    rotate_left
    · simp only [aP]
      rfl
    refine one_ (i := 13) (N := some 45) #[tT,tT,tT,tT,tT,tT,tT,tT,tT,tT,tT,tT,tT,tT,fF,fF,fF,fF] rfl rfl (by kernel_rfl) (by decide) (fun K hK => ?_)
    refine goes_ Tryz.func60 (by kernel_rfl) rfl #[.slice A3 64 64] (by rfl) rfl rfl (by simp only [List.map_toArray, List.map_cons, List.map_nil]; rfl) ?_
    with_reducible refine (clone_ HC3.out (Nat.le_refl _) (by decide)).mono ?_
    rintro e w3 ⟨v3, rfl, hS3⟩
    refine ⟨_, rfl, ?_⟩
    obtain ⟨A4, c4, rfl⟩ := hS3.rowN AL.out
    have hb3 := hS3.toBelow
    have B3 := Aside0.mk (AN.out.drew.lift1 hS3)
    have z3 := cell_later hb3 z1
    have z4 := cell_later hb3 z2
    clear hS3
    refine hK.out _ _ ⟨(B3.out.at3.cell 0).trans rfl, z3, z4⟩ (fun hHeld => ?_)
    clear hK K
    refine norm_ (a' := ?_) ?_ ?_
    rotate_left
    · show Act.put _ (some 45) _ = _
      simp only [aP]
      rfl
    refine pu_ 14 46 ?_ #[tT,tT,tT,tT,tT,tT,tT,tT,tT,tT,tT,tT,tT,tT,tT,fF,fF,fF] rfl rfl ?_ ?_ ?_ ?_
    rotate_left
    · intro w'
      go_simp
      with_reducible rfl
    rotate_left
    · simp only [aP]
      rfl
    refine one_ (i := 15) (N := some 47) #[tT,tT,tT,tT,tT,tT,tT,tT,tT,tT,tT,tT,tT,tT,tT,tT,fF,fF] rfl rfl (by kernel_rfl) (by decide) (fun K hK => ?_)
    have E3 : Aside0 (Sep w w3 (Row KC 75 (.slice Av pre.length cv) (pre.map (fun i => chunkF b i.1)) :: El KC (P0 * 256 + P1, qs) [.int .i64 (P0 * 256 + P1), .slice A4 64 c4] :: Nc W WS.heap.size :: Blk w.heap.size 60 #[.slice Av pre.length cv] :: [Blk (w.heap.size + 1) 24 #[.slice (some ad2) (b.length - 2) (c - 2)], Blk (w.heap.size + 1 + 1) 3 #[.int .i64 66]])) := ⟨(B3.out.elSlice.elPair (a := Kd.int .i64) (x := P0 * 256 + P1) (p := [.int .i64 (P0 * 256 + P1)]) (fun _ _ _ => rfl)).at4⟩
    refine value_ (w1 := ?_) (v := ?_) (by rfl) rfl ?_ ?_
    rotate_left 2
    · go_simp
      constructor
      · rfl
      · rfl
    refine hK.out _ _ ⟨(B3.out.at3.alloc _).cell 0 |>.trans rfl, cell_later (below_alloc (Below.refl _ _) _) z3, cell_later (below_alloc (Below.refl _ _) _) z4⟩ (fun hHeld => ?_)
    clear hK K
    refine norm_ (a' := ?_) ?_ ?_
    rotate_left
    · show Act.put _ (some 47) _ = _
      simp only [aP]
      rfl
    refine last_ (i := 16) (N := some 48) #[tT,tT,tT,tT,tT,tT,tT,tT,tT,tT,tT,tT,tT,tT,tT,tT,tT,fF] rfl rfl (by kernel_rfl) (by decide) (fun K hK => ?_)
    refine E3.out.appendDeepStep (by rfl) (.tmp 32) (.tmp 47) 60 _ 32 rfl Tryz.underlying60 infoCh rfl (by decide) (by decide) (by rfl) (by rfl) (by rw [List.length_map]; omega) ?_
    intro v6 w6 hs6 hS6
    obtain ⟨A6, c6, rfl⟩ := hS6.rowN (n := pre.length + 1) (by simp)
    have z6 := (hS6.at3.cell 0).trans rfl
    have f6 := hS6.at3.frozen 0
    have B6 := Aside0.mk (hS6.at3.setBlk 0 (.slice A6 (pre.length + 1) c6))
    clear hS6
    refine hK.out _ _ ?_
    clear hK K
    refine norm_ (a' := ?_) ?_ ?_
    rotate_left
    · show Act.put _ (some 48) _ = _
      simp only [aP]
      rfl
    refine last_ (i := 17) (N := none) #[tT,tT,tT,tT,tT,tT,tT,tT,tT,tT,tT,tT,tT,tT,tT,tT,tT,tT] rfl rfl (by kernel_rfl) (by decide) (fun K hK => ?_)
    refine skip_ (w1 := ?_) (by rfl) rfl ?_ ?_
    rotate_left
    · go_simp
      rfl
    refine hK.out _ _ ?_
    clear hK K
    refine done_ (by kernel_rfl) ?_
    have hsz2 : W.heap.size ≤ w6.heap.size := by
      have h1 : W.heap.size ≤ w3.heap.size := hb3.size
      exact Nat.le_trans h1 hs6
    refine ⟨B6.out.at3.roundOut (by simpa [World.setCell] using hsz2), ⟨?_, ?_⟩, ⟨.slice A6 (pre.length + 1) c6, ?_⟩⟩
    · exact (B6.out.at4.blk).trans (AX.out.2.1.at3.blk).symm
    · exact (B6.out.at5.blk).trans (AX.out.2.1.at4.blk).symm
    · rw [List.map_append, List.map_cons, List.map_nil, AX.out.1]
      exact B6.out.at3.tail
  case done =>
    rintro D xs W hD rfl ⟨v, hS⟩ hK
    have hmm : (List.finRange m).map (fun i => chunkF b i.1) = rawF b := by
      unfold rawF
      rw [HC.out.2.1]
      apply List.ext_getElem (by simp)
      intro i h1 h2
      simp
    rw [hmm] at hS
    have hlen : (rawF b).length = m := by unfold rawF; rw [List.length_map, List.length_range, HC.out.2.1]
    obtain ⟨Av, cv, rfl⟩ := hS.at2.rowN hlen
    have d0 : W.cell? ⟨w.heap.size, 0, none⟩ = some (.slice Av m cv) := (hS.cell 0).trans rfl
    have AS2 := Aside0.mk hS
    have AK := Aside0.mk hK
    have AL := Aside0.mk hlen
    clear hmm hS hK hlen hj hne2 hw hwp hwq x0 x1 hn0 hn1 hi1 hu1 c0 c1
    gi_wp2
    refine ⟨trivial, callsIn_wide.2 ?_⟩
    refine (right_ (l := rawF b) (by have := AS2.out.at2.rowC.2.2; rwa [AL.out] at this) pages).mono ?_
    rintro e w9 ⟨rfl, hb9⟩
    have B9 := Aside0.mk (AS2.out.below hb9)
    have K9 := Aside0.mk ((hb9.block D (blk_lt AK.out)).trans AK.out)
    clear hb9
    cases hrt : rightF (rawF b) pages with
    | false =>
      have hu : undeltaF b pages = none := by
        unfold undeltaF
        have := HC.out
        rw [if_neg (by omega), if_neg (by rw [this.2.1]; omega), hrt]; rfl
      have HU := Aside0.mk hu
      clear hu hrt
      gi_wp2
      refine ⟨by simp, .inl ⟨_, _, rfl, run_takeDeferred K9.out, ?_⟩⟩
      refine ⟨_, results_tmp2 rfl _ _ _, ⟨.slice none 0 0, by rw [HU.out]; first | rfl | (simp; done), ?_⟩⟩
      rw [HU.out]
      exact Sep.turned (L := []) (by simp) (Sep.weak (L := [_, _, _, _]) (F := []) B9.out) hsz (grownBy_putObj' w9 D _) (fun r hr => by cases hr; exact ⟨hD, _, K9.out, rfl⟩) |>.nilRow KC _
    | true =>
      have hu : undeltaF b pages = some (rawF b) := by
        unfold undeltaF
        have := HC.out
        rw [if_neg (by omega), if_neg (by rw [this.2.1]; omega), hrt]; rfl
      have HU := Aside0.mk hu
      have d9 : w9.cell? ⟨w.heap.size, 0, none⟩ = some (.slice Av m cv) := (B9.out.cell 0).trans rfl
      clear hu hrt
      gi_wp2
      refine ⟨by simp, .inl ⟨_, _, rfl, run_takeDeferred K9.out, ?_⟩⟩
      refine ⟨_, results_tmp2 rfl _ _ _, ⟨.slice Av m cv, by rw [HU.out]; first | rfl | (simp; done), ?_⟩⟩
      rw [HU.out]
      exact Sep.turned (L := [_]) (fun p hp => by obtain rfl := List.mem_singleton.1 hp; exact cellsOnly_row _ _ _ _) (Sep.weakR (L := [Row KC 75 (.slice Av m cv) (rawF b)]) (F := [_, _]) B9.out.tail) hsz (grownBy_putObj' w9 D _) (fun r hr => by cases hr; exact ⟨hD, _, K9.out, rfl⟩)
  case stop =>
    rintro D c pre W _ _ h _
    exact h.elim
theorem read_ {A : Option Addr} {n c : Nat} {b : List Int} {w : World} (hr : U8.C w A n b) (hc : n ≤ c) (hb : Bytes b) (hl : n ≤ 1000000) (pages : Int) :
    Calls Tryz.prog 136 #[.slice A n c, .int .i64 pages] w fun e w' => ∃ v, e = .returned (.tuple #[v, .bool (undeltaF b pages).isSome]) ∧ Sep w w' [Row KC 75 v ((undeltaF b pages).getD [])] := by
  by_cases hn : b.length < 2 ∨ b.length ≠ 2 + 66 * countF b
  · refine (read_no hr hb hl pages hn).mono ?_
    rintro e w' ⟨rfl, hbw⟩
    have hu : undeltaF b pages = none := by
      unfold undeltaF
      by_cases h2 : b.length < 2
      · rw [if_pos h2]
      · rw [if_neg h2, if_pos (by omega)]
    rw [hu]
    exact ⟨_, rfl, ((Sep.start w).below hbw).nilRow KC _⟩
  · exact read_all hr hc hb hl pages rfl (by omega)
end Go.Proofs.YtjngnigelkgekaaGreat.Delta
namespace Go.Proofs.YtjngnigelkgekaaGreat.Delta
open Go.RowKit Go.Proofs.YtjngnigelkgekaaGreatW.PrintWords Go.Proofs.YtjngnigelkgekaaGreatW.PrintLast Go.Proofs.YtjngnigelkgekaaGreatW.PrintMore Go.Proofs.YtjngnigelkgekaaGreat.Kit Go.Proofs.YtjngnigelkgekaaGreat.Base Go.Proofs.YtjngnigelkgekaaGreat.Plain
theorem rneed_ (n : Int) (W : World) : Calls Tryz.prog 113 #[.int .i64 n] W fun e w' => e = .returned (.int .i64 (needF n)) ∧ W = w' := by
  by_cases h0 : n < 0
  · go_enter Tryz.func113, Tryz.ntmps113
    go_wp2
    go_ret
    exact ⟨by rw [show needF n = 0 from if_pos (.inl h0)]; first | rfl | (simp; done), rfl⟩
  · by_cases h1 : 64 < n
    · go_enter Tryz.func113, Tryz.ntmps113
      go_wp2
      go_ret
      exact ⟨by rw [show needF n = 0 from if_pos (.inr h1)]; first | rfl | (simp; done), rfl⟩
    · have h2 : n ≤ 64 := by omega
      have h3 : 0 ≤ n := by omega
      go_enter Tryz.func113, Tryz.ntmps113
      go_wp2
      go_ret
      exact ⟨by rw [show needF n = 18 + n * 66 from if_neg (by omega)]; first | rfl | (simp; done), rfl⟩
set_option maxHeartbeats 3200000 in
set_option maxRecDepth 100000 in
theorem rchanges_ {A : Option Addr} {n c : Nat} {l : List Chg} {w : World} (hr : KC.C w A n l) (pages : Int) :
    Calls Tryz.prog 83 #[.slice A n c, .int .i64 pages] w fun e w' => e = .returned (.bool (rightF l pages)) ∧ Below w.heap.size w w' := by
  obtain rfl : l.length = n := hr.1
  have hm : l.length ≤ 9223372036854775807 := hr.2.1
  have HR := Aside0.mk hr
  clear hr
  go_enter Tryz.func83, Tryz.ntmps83
  go_wp2_with fail
  go_loopg [8] l.length (fun m p wr => ∃ (j : Nat) (last : Int), p = .int .i64 (j : Int) ∧ j + m = l.length ∧ okF pages (-1) l = okF pages last (l.drop j) ∧ Below w.heap.size w wr ∧ (j = 0 ∧ last = -1 ∨ ∃ (i : Nat) (hi : i < l.length), j = i + 1 ∧ last = (l[i]).1 ∧ 0 ≤ last))
  case atStart => exact ⟨0, -1, rfl, by omega, rfl, Below.refl _ _, .inl ⟨rfl, rfl⟩⟩
  case round =>
    obtain ⟨j, last, rfl, hjm, hok, hB, hpr⟩ := hrel
    have AK := Aside0.mk hjm
    have AO := Aside0.mk hok
    have AB := Aside0.mk hB
    by_cases hj : j < l.length
    · obtain ⟨hx, a, B, c2, rfl, e0, e1, e2, e3⟩ := elem2_ HR.out hj
      have hdr := okF_drop (pages := pages) (last := last) hj
      have AD := Aside0.mk hdr
      have hbd : ∀ q, Below w.heap.size w (wr.drewN q) := fun q => pw_below_drewN hB q
      have z0 := fun q => cell_later (hbd q) e0
      have z1 := fun q => cell_later (hbd q) e1
      have hlm : (l[j]).2.length ≤ 9223372036854775807 := e3.2.1
      have AG : Aside0 (∃ (i : Nat) (hi : i < l.length), j = i ∧ (l[j]).1 = (l[i]).1) := ⟨j, hx, rfl, rfl⟩
      obtain ⟨pg, hpg⟩ : ∃ pg, (l[j]).1 = pg := ⟨_, rfl⟩
      obtain ⟨bn, hbn⟩ : ∃ bn, (l[j]).2.length = bn := ⟨_, rfl⟩
      rw [hpg] at z0 hdr
      rw [hbn] at z1 hlm
      have AH := Aside0.mk (And.intro hpg hbn)
      clear hjm hok hB hdr e0 e1 e2 e3 hpg hbn hbd
      have hnl : 0 < l.length := by omega
      have hjl : (j : Int) < (l.length : Int) := by omega
      by_cases h1 : pg < 0
      · have hF : rightF l pages = false := by
          unfold rightF
          rw [AO.out, AD.out, AH.out.1]
          have hll : pg ≤ last := by rcases hpr with ⟨_, h⟩ | ⟨_, _, _, _, h⟩ <;> omega
          simp [hll]
        have AF := Aside0.mk hF
        clear hF hpr
        go_wp2_with fail
        go_quiet (fail)
        go_wp2_with fail
        go_ret
        exact ⟨by rw [AF.out]; first | rfl | (simp; done), pw_below_drewN AB.out _⟩
      · have hd1 : decide (pg < 0) = false := decide_eq_false h1
        by_cases h2 : pages ≤ pg
        · have hF : rightF l pages = false := by
            unfold rightF
            rw [AO.out, AD.out, AH.out.1, AH.out.2]
            simp [h2]
          have AF := Aside0.mk hF
          clear hF
          clear hpr
          go_wp2_with fail
          go_quiet (fail)
          go_wp2_with fail
          go_ret
          exact ⟨by rw [AF.out]; first | rfl | (simp; done), pw_below_drewN AB.out _⟩
        · have hd2 : decide (pages ≤ pg) = false := decide_eq_false h2
          rcases hpr with ⟨rfl, rfl⟩ | ⟨i, hi, rfl, hlast, hl0⟩
          all_goals try simp only [Nat.zero_mul, show ∀ x : Addr, x.add 0 = x from fun x => by simp [Addr.add]] at z0 z1
          · by_cases h3 : bn = 64
            · have hok2 : okF pages (-1) l = okF pages pg (l.drop (0 + 1)) := by
                rw [AO.out, AD.out, AH.out.1, AH.out.2, decide_eq_true ⟨by omega, h2, h3⟩]; rfl
              have AO2 := Aside0.mk hok2
              subst h3
              clear hok2
              go_wp2_with fail
              go_quiet (fail)
              go_wp2_with fail
              go_roundg (gk - 1)
              case measure => have := AK.out; omega
              case rel => exact ⟨0 + 1, pg, by go_num, by have := AK.out; omega, AO2.out, pw_below_drewN AB.out _, .inr ⟨0, hx, rfl, AH.out.1.symm, by omega⟩⟩
            · have h4 : ((bn : Int) == 64) = false := by simp; omega
              have h5 : ((bn : Int) != 64) = true := by simp; omega
              have hF : rightF l pages = false := by
                unfold rightF
                rw [AO.out, AD.out, AH.out.1, AH.out.2]
                simp [h3]
              have AF := Aside0.mk hF
              clear hF
              go_wp2_with fail
              go_quiet (fail)
              go_wp2_with fail
              go_ret
              exact ⟨by rw [AF.out]; first | rfl | (simp; done), pw_below_drewN AB.out _⟩
          · obtain ⟨hxi, ai, Bi, ci, hai, f0, f1, f2, f3⟩ := elem2_ HR.out hi
            cases hai
            have y0 := fun q => cell_later (pw_below_drewN AB.out q) f0
            obtain ⟨pv, hpv⟩ : ∃ pv, (l[i]).1 = pv := ⟨_, rfl⟩
            rw [hpv] at y0 hlast
            subst hlast
            have APV := Aside0.mk hpv
            clear f0 f1 f2 f3 hpv
            have hi1 : (i : Int) < (l.length : Int) := by omega
            by_cases h4 : pg ≤ last
            · have hF : rightF l pages = false := by
                unfold rightF
                rw [AO.out, AD.out, AH.out.1, AH.out.2]
                simp [h4]
              have AF := Aside0.mk hF
              clear hF
              go_wp2_with fail
              go_quiet (fail)
              go_wp2_with fail
              go_ret
              exact ⟨by rw [AF.out]; first | rfl | (simp; done), pw_below_drewN AB.out _⟩
            · have hd4 : decide (pg ≤ last) = false := decide_eq_false h4
              by_cases h3 : bn = 64
              · have hok2 : okF pages (-1) l = okF pages pg (l.drop (i + 1 + 1)) := by
                  rw [AO.out, AD.out, AH.out.1, AH.out.2, decide_eq_true ⟨h4, h2, h3⟩]; rfl
                have AO2 := Aside0.mk hok2
                subst h3
                clear hok2
                go_wp2_with fail
                go_quiet (fail)
                go_wp2_with fail
                go_roundg (gk - 1)
                case measure => have := AK.out; omega
                case rel => exact ⟨i + 1 + 1, pg, by go_num, by have := AK.out; omega, AO2.out, pw_below_drewN AB.out _, .inr ⟨i + 1, hx, rfl, AH.out.1.symm, by omega⟩⟩
              · have h6 : ((bn : Int) == 64) = false := by simp; omega
                have h5 : ((bn : Int) != 64) = true := by simp; omega
                have hF : rightF l pages = false := by
                  unfold rightF
                  rw [AO.out, AD.out, AH.out.1, AH.out.2]
                  simp [h3]
                have AF := Aside0.mk hF
                clear hF
                go_wp2_with fail
                go_quiet (fail)
                go_wp2_with fail
                go_ret
                exact ⟨by rw [AF.out]; first | rfl | (simp; done), pw_below_drewN AB.out _⟩
    · have hjn : j = l.length := by omega
      have hT : rightF l pages = decide (pages ≤ 64) := by unfold rightF; rw [AO.out, hjn, List.drop_length]; simp [okF]
      have AT := Aside0.mk hT
      clear hT hok hB hjm hpr
      subst hjn
      go_wp2_with fail
      go_ret
      exact ⟨by rw [AT.out]; first | rfl | (simp; done), AB.out⟩
end Go.Proofs.YtjngnigelkgekaaGreat.Delta
namespace Go.Proofs.YtjngnigelkgekaaGreat.Store
open Go.RowKit Go.Proofs.YtjngnigelkgekaaGreatW.PrintWords Go.Proofs.YtjngnigelkgekaaGreatW.PrintLast Go.Proofs.YtjngnigelkgekaaGreatW.PrintMore Go.Proofs.YtjngnigelkgekaaGreat.Kit Go.Proofs.YtjngnigelkgekaaGreat.Plain
open Go.Proofs.YtjngnigelkgekaaGreat.Redo (sizeF sizeF_in size_)
open Go.Proofs.YtjngnigelkgekaaGreat.Delta (needF need_ rneed_)
theorem lf_nums {s u : Int} (h0 : 0 ≤ u) (h1 : u ≤ s) (h2 : s ≤ 4096) : wrap64 (s - u) = s - u := IntWalk.wrap64_in _ (by omega)
set_option maxHeartbeats 400000 in
theorem rsize_ (a b c : Int) (W : World) : Calls Tryz.prog 127 #[.agg #[.int .i64 a, .int .i64 b, .int .u32 c]] W fun e w' => e = .returned (.int .i64 (sizeF a)) ∧ Below W.heap.size W w' := by
  by_cases h1 : a < 1
  case pos =>
    have HR : Aside0 (sizeF a = 0) := ⟨by unfold sizeF; rw [if_pos (by omega)]⟩
    go_enter Tryz.func127, Tryz.ntmps127
    go_wp2_with fail
    go_ret
    exact ⟨by rw [HR.out]; first | rfl | (simp; done), below_alloc (Below.refl _ _) _⟩
  by_cases h2 : 64 < a
  case pos =>
    have HR : Aside0 (sizeF a = 0) := ⟨by unfold sizeF; rw [if_pos (by omega)]⟩
    go_enter Tryz.func127, Tryz.ntmps127
    go_wp2_with fail
    go_ret
    exact ⟨by rw [HR.out]; first | rfl | (simp; done), below_alloc (Below.refl _ _) _⟩
  have HR : Aside0 (sizeF a = a * 64) := ⟨by unfold sizeF; rw [if_neg (by omega)]⟩
  have hw : wrap64 (a * 64) = a * 64 := IntWalk.wrap64_in _ (by omega)
  go_enter Tryz.func127, Tryz.ntmps127
  go_wp2_with fail
  go_ret
  exact ⟨by rw [HR.out]; first | rfl | (simp; done), below_alloc (Below.refl _ _) _⟩
set_option maxHeartbeats 400000 in
theorem left_ (a b c : Int) (u : Nat) (hu : (u : Int) ≤ sizeF a) (W : World) : Calls Tryz.prog 105 #[.agg #[.int .i64 a, .int .i64 b, .int .u32 c], .int .i64 (u : Int)] W fun e w' => e = .returned (.int .i64 (sizeF a - u)) ∧ Below W.heap.size W w' := by
  have hs := sizeF_in a
  obtain ⟨s, hs_⟩ : ∃ s, sizeF a = s := ⟨_, rfl⟩
  rw [hs_] at hs hu
  have HS := Aside0.mk hs_
  have hw := lf_nums (s := s) (u := (u : Int)) (by omega) hu hs.2
  have HMX : Aside0 (max 0 (s - (u : Int)) = s - (u : Int)) := ⟨by omega⟩
  have HMY : Aside0 (max (s - (u : Int)) 0 = s - (u : Int)) := ⟨by omega⟩
  have A0 := Aside0.mk ((Sep.start W).newBlk 80 #[.int .i64 a, .int .i64 b, .int .u32 c])
  have z0 := (A0.out.cell 0).trans rfl
  have z1 := (A0.out.cell 1).trans rfl
  have z2 := (A0.out.cell 2).trans rfl
  clear hs_
  go_enter Tryz.func105, Tryz.ntmps105
  go_wp2_with fail
  refine (size_ a b c _).mono ?_
  rintro e w1 ⟨rfl, hb1⟩
  rw [HS.out]
  have A1 := Aside0.mk (A0.out.below hb1)
  clear hb1 z0 z1 z2
  go_wp2_with fail
  first | rw [HMX.out] | rw [HMY.out]
  go_ret
  exact ⟨by rw [HS.out]; first | rfl | (simp; done), A1.out.tail.toBelow⟩
set_option maxHeartbeats 400000 in
theorem rleft_ (a b c : Int) (u : Nat) (hu : (u : Int) ≤ sizeF a) (W : World) : Calls Tryz.prog 114 #[.agg #[.int .i64 a, .int .i64 b, .int .u32 c], .int .i64 (u : Int)] W fun e w' => e = .returned (.int .i64 (sizeF a - u)) ∧ Below W.heap.size W w' := by
  have hs := sizeF_in a
  obtain ⟨s, hs_⟩ : ∃ s, sizeF a = s := ⟨_, rfl⟩
  rw [hs_] at hs hu
  have HS := Aside0.mk hs_
  have hw := lf_nums (s := s) (u := (u : Int)) (by omega) hu hs.2
  have HMX : Aside0 (max 0 (s - (u : Int)) = s - (u : Int)) := ⟨by omega⟩
  have HMY : Aside0 (max (s - (u : Int)) 0 = s - (u : Int)) := ⟨by omega⟩
  have A0 := Aside0.mk ((Sep.start W).newBlk 80 #[.int .i64 a, .int .i64 b, .int .u32 c])
  have z0 := (A0.out.cell 0).trans rfl
  have z1 := (A0.out.cell 1).trans rfl
  have z2 := (A0.out.cell 2).trans rfl
  clear hs_
  go_enter Tryz.func114, Tryz.ntmps114
  go_wp2_with fail
  refine (rsize_ a b c _).mono ?_
  rintro e w1 ⟨rfl, hb1⟩
  rw [HS.out]
  have A1 := Aside0.mk (A0.out.below hb1)
  clear hb1 z0 z1 z2
  go_wp2_with fail
  first | rw [HMX.out] | rw [HMY.out]
  go_ret
  exact ⟨by rw [HS.out]; first | rfl | (simp; done), A1.out.tail.toBelow⟩
def fitsF (a : Int) (u n : Nat) : Bool := decide (0 < needF (n : Int) ∧ needF (n : Int) ≤ sizeF a - (u : Int))
theorem need_in (n : Int) : 0 ≤ needF n ∧ needF n ≤ 4242 := by unfold needF; split <;> omega
set_option maxHeartbeats 800000 in
theorem fits_ (a b c : Int) (u n : Nat) (hu : (u : Int) ≤ sizeF a) (W : World) : Calls Tryz.prog 70 #[.agg #[.int .i64 a, .int .i64 b, .int .u32 c], .int .i64 (u : Int), .int .i64 (n : Int)] W fun e w' => e = .returned (.bool (fitsF a u n)) ∧ Below W.heap.size W w' := by
  have hn := need_in (n : Int)
  obtain ⟨q, hq⟩ : ∃ q, needF (n : Int) = q := ⟨_, rfl⟩
  rw [hq] at hn
  have HQ := Aside0.mk hq
  have HU := Aside0.mk hu
  have A0 := Aside0.mk ((Sep.start W).newBlk 80 #[.int .i64 a, .int .i64 b, .int .u32 c])
  have z0 := (A0.out.cell 0).trans rfl
  have z1 := (A0.out.cell 1).trans rfl
  have z2 := (A0.out.cell 2).trans rfl
  clear hq hu
  by_cases h0 : 0 < q
  case neg =>
    have hd : decide (0 < q) = false := decide_eq_false h0
    have HV : Aside0 (fitsF a u n = false) := ⟨by unfold fitsF; rw [HQ.out]; exact decide_eq_false (fun h => h0 h.1)⟩
    go_enter Tryz.func70, Tryz.ntmps70
    go_wp2_with fail
    refine (need_ (n : Int) _).mono ?_
    rintro e w1 ⟨rfl, rfl⟩
    rw [HQ.out]
    go_wp2_with fail
    go_ret
    exact ⟨by rw [HV.out]; first | rfl | (simp; done), A0.out.tail.toBelow⟩
  case pos =>
  have hd : decide (0 < q) = true := decide_eq_true h0
  obtain ⟨s, hs⟩ : ∃ s, sizeF a - (u : Int) = s := ⟨_, rfl⟩
  have HV : Aside0 (fitsF a u n = decide (q ≤ s)) := ⟨by unfold fitsF; rw [HQ.out, hs]; by_cases h : q ≤ s <;> simp [h, h0]⟩
  have HS := Aside0.mk hs
  clear hs
  go_enter Tryz.func70, Tryz.ntmps70
  go_wp2_with fail
  refine (need_ (n : Int) _).mono ?_
  rintro e w1 ⟨rfl, rfl⟩
  rw [HQ.out]
  go_wp2_with fail
  refine (left_ a b c u HU.out _).mono ?_
  rintro e w2 ⟨rfl, hb2⟩
  rw [HS.out]
  have A2 := Aside0.mk (A0.out.below hb2)
  clear hb2
  by_cases hqs : q ≤ s
  · have hd2 : decide (q ≤ s) = true := decide_eq_true hqs
    go_wp2_with fail
    go_ret
    exact ⟨by rw [HV.out, hd2]; first | rfl | (simp; done), A2.out.tail.toBelow⟩
  · have hd2 : decide (q ≤ s) = false := decide_eq_false hqs
    go_wp2_with fail
    go_ret
    exact ⟨by rw [HV.out, hd2]; first | rfl | (simp; done), A2.out.tail.toBelow⟩
end Go.Proofs.YtjngnigelkgekaaGreat.Store
namespace Go.Proofs.YtjngnigelkgekaaGreat.Delta
open Go.RowKit Go.Proofs.YtjngnigelkgekaaGreatW.PrintWords Go.Proofs.YtjngnigelkgekaaGreatW.PrintLast Go.Proofs.YtjngnigelkgekaaGreatW.PrintMore Go.Proofs.YtjngnigelkgekaaGreat.Kit Go.Proofs.YtjngnigelkgekaaGreat.Base Go.Proofs.YtjngnigelkgekaaGreat.Plain
set_option maxHeartbeats 1600000 in
set_option maxRecDepth 100000 in
theorem rdelta_ {A : Option Addr} {n c : Nat} {l : List Chg} {w : World} (hr : KC.C w A n l) (hl : (deltaF l).length ≤ 1000000) :
    Calls Tryz.prog 34 #[.slice A n c] w fun e w' => ∃ v, e = .returned v ∧ Sep w w' [Row U8 5 v (deltaF l)] := by
  obtain rfl : l.length = n := hr.1
  have hm : l.length ≤ 9223372036854775807 := hr.2.1
  have HR := Aside0.mk hr
  have A1 := Aside0.mk ((Sep.start w).litRow (enc := Value.int .u8) (h1 := fun _ => rfl) (e := 5) (two (l.length : Int)) (by simp [two]))
  have HL := Aside0.mk hl
  clear hr hl
  go_enter Tryz.func34, Tryz.ntmps34
  go_wp2_with fail
  go_loopg [3, 15] l.length (fun m v p wr => ∃ (j : Nat), p = .int .i64 (j : Int) ∧ j + m = l.length ∧ Sep w wr [Row U8 5 v (two (l.length : Int) ++ (l.take j).flatMap oneF)])
  case atStart => exact ⟨0, rfl, by omega, by rw [show (l.take 0).flatMap oneF = [] from rfl, List.append_nil]; exact A1.out⟩
  case round =>
    obtain ⟨j, rfl, hjm, hS⟩ := hrel
    have AK := Aside0.mk hjm
    by_cases hj : j < l.length
    · obtain ⟨hx, a, B, c2, rfl, e0, e1, e2, e3⟩ := elem2_ HR.out hj
      have htk := take_get hj
      have hsn : (l.take (j + 1)).flatMap oneF = (l.take j).flatMap oneF ++ (two (l[j]).1 ++ (l[j]).2) := by rw [htk, flat_snoc]
      have hle := flat_take_le l (j + 1)
      have hll := HL.out
      rw [hsn] at hle
      unfold deltaF at hll
      have HE3 := Aside0.mk e3
      have HSN := Aside0.mk hsn
      obtain ⟨pg, hpg⟩ : ∃ pg, (l[j]).1 = pg := ⟨_, rfl⟩
      obtain ⟨bs, hbs⟩ : ∃ bs, (l[j]).2 = bs := ⟨_, rfl⟩
      obtain ⟨bn, hbn⟩ : ∃ bn, bs.length = bn := ⟨_, rfl⟩
      rw [hpg] at e0 hle HSN
      rw [hbs] at e1 hle HSN HE3
      rw [hbn] at e1 HE3
      obtain ⟨pre, hpre⟩ : ∃ pre, two (l.length : Int) ++ (l.take j).flatMap oneF = pre := ⟨_, rfl⟩
      have hpl : pre.length + (2 + bn) ≤ 1000000 := by
        rw [← hpre, ← hbn]
        simp [two] at hle hll ⊢
        omega
      rw [hpre] at hS
      obtain ⟨A3, c3, rfl⟩ := hS.rowV
      have BK := Aside0.mk hS.drew
      have AP := Aside0.mk hpre
      have APL := Aside0.mk hpl
      have ABN := Aside0.mk hbn
      have HE0 := Aside0.mk e0
      have HE1 := Aside0.mk e1
      have z0 := cell_later BK.out.toBelow e0
      have z1 := cell_later BK.out.toBelow e1
      have hjl : (j : Int) < (l.length : Int) := by omega
      clear hjm hS htk hsn hle hll e0 e1 e2 e3 hpg hbs hbn hpre hpl
      go_wp2_with fail
      refine start_ (n := 23) (S := fun w' => w'.cell? (a.add (j * 2)) = some (.int .i64 pg) ∧ w'.cell? ⟨(a.add (j * 2)).block, (a.add (j * 2)).off + 1, none⟩ = some (.slice B bn c2)) (ds := [21]) #[Z,Z,Z,Z,Z,Z,Z,Z,Z,Z,Z,Z,Z,Z,Z,Z,Z,Z,Z,Z,Z,Z,Z] (by kernel_rfl) rfl rfl ⟨z0, z1⟩ (fun hHeld => ?_)
      refine pu_ 0 18 ?_ #[J,Z,Z,Z,Z,Z,Z,Z,Z,Z,Z,Z,Z,Z,Z,Z,Z,Z,Z,Z,Z,Z,Z] rfl rfl ?_ ?_ ?_ ?_
      rotate_left
      · intro w'
        go_simp
        with_reducible rfl
      rotate_left
      · simp only [aP]
        rfl
      refine pu_ 1 19 ?_ #[J,J,Z,Z,Z,Z,Z,Z,Z,Z,Z,Z,Z,Z,Z,Z,Z,Z,Z,Z,Z,Z,Z] rfl rfl ?_ ?_ ?_ ?_
      rotate_left
      · intro w'
        go_simp
        with_reducible rfl
      rotate_left
      · simp only [aP]
        rfl
      refine pu_ 2 20 ?_ #[J,J,J,Z,Z,Z,Z,Z,Z,Z,Z,Z,Z,Z,Z,Z,Z,Z,Z,Z,Z,Z,Z] rfl rfl ?_ ?_ ?_ ?_
      rotate_left
      · intro w'
        go_simp
        with_reducible rfl
      rotate_left
      · simp only [aP]
        rfl
      refine pu_ 3 21 ?_ #[J,J,J,J,Z,Z,Z,Z,Z,Z,Z,Z,Z,Z,Z,Z,Z,Z,Z,Z,Z,Z,Z] rfl rfl ?_ ?_ ?_ ?_
      rotate_left
      · intro w'
        go_simp
        with_reducible rfl
      rotate_left
      · simp only [aP]
        rfl
      refine pu_ 4 22 ?_ #[J,J,J,J,J,Z,Z,Z,Z,Z,Z,Z,Z,Z,Z,Z,Z,Z,Z,Z,Z,Z,Z] rfl rfl ?_ ?_ ?_ ?_
      rotate_left
      · intro w'
        go_simp
        with_reducible rfl
      rotate_left
      · simp only [aP]
        rfl
      refine pu_ 8 26 ?_ #[J,J,J,J,J,Z,Z,Z,J,Z,Z,Z,Z,Z,Z,Z,Z,Z,Z,Z,Z,Z,Z] rfl rfl ?_ ?_ ?_ ?_
      rotate_left
      · intro w'
        go_simp
        with_reducible rfl
      rotate_left
      · simp only [aP]
        rfl
      refine pu_ 9 27 ?_ #[J,J,J,J,J,Z,Z,Z,J,J,Z,Z,Z,Z,Z,Z,Z,Z,Z,Z,Z,Z,Z] rfl rfl ?_ ?_ ?_ ?_
      rotate_left
      · intro w'
        go_simp
        with_reducible rfl
      rotate_left
      · simp only [aP]
        rfl
      refine pu_ 10 28 ?_ #[J,J,J,J,J,Z,Z,Z,J,J,J,Z,Z,Z,Z,Z,Z,Z,Z,Z,Z,Z,Z] rfl rfl ?_ ?_ ?_ ?_
      rotate_left
      · intro w'
        go_simp
        with_reducible rfl
      rotate_left
      · simp only [aP]
        rfl
      refine pu_ 11 29 ?_ #[J,J,J,J,J,Z,Z,Z,J,J,J,J,Z,Z,Z,Z,Z,Z,Z,Z,Z,Z,Z] rfl rfl ?_ ?_ ?_ ?_
      rotate_left
      · intro w'
        go_simp
        with_reducible rfl
      rotate_left
      · simp only [aP]
        rfl
      refine pu_ 16 34 ?_ #[J,J,J,J,J,Z,Z,Z,J,J,J,J,Z,Z,Z,Z,J,Z,Z,Z,Z,Z,Z] rfl rfl ?_ ?_ ?_ ?_
      rotate_left
      · intro w'
        go_simp
        with_reducible rfl
      rotate_left
      · simp only [aP]
        rfl
      refine pu_ 17 35 ?_ #[J,J,J,J,J,Z,Z,Z,J,J,J,J,Z,Z,Z,Z,J,J,Z,Z,Z,Z,Z] rfl rfl ?_ ?_ ?_ ?_
      rotate_left
      · intro w'
        go_simp
        with_reducible rfl
      rotate_left
      · simp only [aP]
        rfl
      refine pu_ 18 36 ?_ #[J,J,J,J,J,Z,Z,Z,J,J,J,J,Z,Z,Z,Z,J,J,J,Z,Z,Z,Z] rfl rfl ?_ ?_ ?_ ?_
      rotate_left
      · intro w'
        go_simp
        with_reducible rfl
      rotate_left
      · simp only [aP]
        rfl
      refine pu_ 19 37 ?_ #[J,J,J,J,J,Z,Z,Z,J,J,J,J,Z,Z,Z,Z,J,J,J,J,Z,Z,Z] rfl rfl ?_ ?_ ?_ ?_
      rotate_left
      · intro w'
        go_simp
        with_reducible rfl
      rotate_left
      · simp only [aP]
        rfl
      refine ta_ 5 23 ?_ #[J,J,J,J,J,J,Z,Z,J,J,J,J,Z,Z,Z,Z,J,J,J,J,Z,Z,Z] rfl rfl ?_ hHeld ?_ ?_ ?_
      rotate_left
      · rintro w' ⟨s0, s1⟩
        go_simp
        with_reducible rfl
      rotate_left
      · simp only [aP]
        rfl
      refine pu_ 6 24 ?_ #[J,J,J,J,J,J,J,Z,J,J,J,J,Z,Z,Z,Z,J,J,J,J,Z,Z,Z] rfl rfl ?_ ?_ ?_ ?_
      rotate_left
      · intro w'
        go_simp
        with_reducible rfl
      rotate_left
      · simp only [aP]
        rfl
      refine pu_ 7 25 ?_ #[J,J,J,J,J,J,J,J,J,J,J,J,Z,Z,Z,Z,J,J,J,J,Z,Z,Z] rfl rfl ?_ ?_ ?_ ?_
      rotate_left
      · intro w'
        go_simp
        with_reducible rfl
      rotate_left
      · simp only [aP]
        rfl
      refine ta_ 12 30 ?_ #[J,J,J,J,J,J,J,J,J,J,J,J,J,Z,Z,Z,J,J,J,J,Z,Z,Z] rfl rfl ?_ hHeld ?_ ?_ ?_
      rotate_left
      · rintro w' ⟨s0, s1⟩
        go_simp
        with_reducible rfl
      rotate_left
      · simp only [aP]
        rfl
      refine pu_ 13 31 ?_ #[J,J,J,J,J,J,J,J,J,J,J,J,J,J,Z,Z,J,J,J,J,Z,Z,Z] rfl rfl ?_ ?_ ?_ ?_
      rotate_left
      · intro w'
        go_simp
        with_reducible rfl
      rotate_left
      · simp only [aP]
        rfl
      refine ta_ 20 38 ?_ #[J,J,J,J,J,J,J,J,J,J,J,J,J,J,Z,Z,J,J,J,J,J,Z,Z] rfl rfl ?_ hHeld ?_ ?_ ?_
      rotate_left
      · rintro w' ⟨s0, s1⟩
        go_simp
        with_reducible rfl
      rotate_left
      · simp only [aP]
        rfl
      refine one_ (i := 14) (N := some 32) #[J,J,J,J,J,J,J,J,J,J,J,J,J,J,J,Z,J,J,J,J,J,Z,Z] rfl rfl (by kernel_rfl) (by decide) (fun K hK => ?_)
      have B4 := Aside0.mk (BK.out.litRow (enc := Value.int .u8) (h1 := fun _ => rfl) (e := 5) (two pg) (by simp [two]))
      refine value_ (w1 := ?_) (v := ?_) (by rfl) rfl ?_ ?_
      rotate_left 2
      · go_simp
        constructor
        · rfl
        · rfl
      refine hK.out _ _ ⟨cell_later (below_alloc (Below.refl _ _) _) z0, cell_later (below_alloc (Below.refl _ _) _) z1⟩ (fun hHeld => ?_)
      clear hK K
      refine norm_ (a' := ?_) ?_ ?_
      rotate_left
      · show Act.put _ (some 32) _ = _
        simp only [aP]
        rfl
      refine one_ (i := 15) (N := some 33) #[J,J,J,J,J,J,J,J,J,J,J,J,J,J,J,J,J,J,J,J,J,Z,Z] rfl rfl (by kernel_rfl) (by decide) (fun K hK => ?_)
      refine B4.out.at2.appendStep (by rfl) (.tmp 18) (.tmp 32) 24 (.int .u8 0) 1 rfl Tryz.underlying24 infoB rfl (by decide) (some ⟨wr.drew.heap.size, 0, none⟩) 2 2 (by rfl) (by rfl) B4.out.rowC.2.2 (by have := APL.out; simp [two]; omega) ?_
      intro v5 w5 hS5
      have B5 := Aside0.mk hS5.drop2
      clear hS5
      refine hK.out _ _ ⟨cell_later B5.out.toBelow HE0.out, cell_later B5.out.toBelow HE1.out⟩ (fun hHeld => ?_)
      clear hK K
      refine norm_ (a' := ?_) ?_ ?_
      rotate_left
      · show Act.put _ (some 33) _ = _
        simp only [aP]
        rfl
      refine last_ (i := 21) (N := some 39) #[J,J,J,J,J,J,J,J,J,J,J,J,J,J,J,J,J,J,J,J,J,J,Z] rfl rfl (by kernel_rfl) (by decide) (fun K hK => ?_)
      refine B5.out.appendStep (by rfl) (.tmp 33) (.tmp 38) 24 (.int .u8 0) 1 rfl Tryz.underlying24 infoB rfl (by decide) B bn c2 (by rfl) (by rfl) (Kd.C_below HE3.out B5.out.toBelow) (by have := APL.out; have := ABN.out; simp [two]; omega) ?_
      intro v6 w6 hS6
      have B6 := Aside0.mk hS6
      clear hS6
      refine hK.out _ _ ?_
      clear hK K
      refine norm_ (a' := ?_) ?_ ?_
      rotate_left
      · show Act.put _ (some 39) _ = _
        simp only [aP]
        rfl
      refine pu_ 22 3 ?_ #[J,J,J,J,J,J,J,J,J,J,J,J,J,J,J,J,J,J,J,J,J,J,J] rfl rfl ?_ ?_ ?_ ?_
      rotate_left
      · intro w'
        go_simp
        with_reducible rfl
      rotate_left
      · simp only [aP]
        rfl
      refine done_ (by kernel_rfl) ?_
      clear z0 z1
      go_wp2_with fail
      go_roundg (gk - 1)
      case measure => have := AK.out; omega
      case rel => exact ⟨j + 1, by go_num, by have := AK.out; omega, by rw [HSN.out, ← List.append_assoc, AP.out, ← List.append_assoc]; exact B6.out⟩
    · have hjn : j = l.length := by omega
      have A5 : Aside0 (Sep w wr [Row U8 5 _ (deltaF l)]) := ⟨by rw [hjn, List.take_length] at hS; exact hS⟩
      subst hjn
      clear hS hjm AK hj
      go_wp2_with fail
      go_ret
      exact ⟨_, by first | rfl | (simp; done), A5.out⟩
end Go.Proofs.YtjngnigelkgekaaGreat.Delta
