/- The document's disk: a read, what waits; told by what lasts and what waits. -/
import Derived.Test.YtjngnigelkgekaaRef3
namespace Go.Proofs.Ytjngnigelkgekaa.Ref
set_option linter.unusedVariables false
set_option linter.unusedSimpArgs false
open Go.RowKit Go.Proofs.YtjngnigelkgekaaW.PrintWords Go.Proofs.YtjngnigelkgekaaW.PrintLast Go.Proofs.YtjngnigelkgekaaW.PrintMore Go.Proofs.Ytjngnigelkgekaa.Kit Go.Proofs.Ytjngnigelkgekaa.Disk
section
variable {w0 W : World} {g n : Nat} {las now : List Int} {wait : List Bool} {left done : Int} {F : List HP}
set_option maxHeartbeats 400000 in
theorem read_out (h : Sep w0 W (RD g n las now wait left done :: F)) (i : Int) (hi : ¬ (0 ≤ i ∧ i < (n : Int))) :
    Calls Try.prog 99 #[.pointer (some ⟨g, 0, none⟩), .int .i64 i] W fun e w' => e = .returned (.tuple #[.slice none 0 0, .bool false]) ∧ W = w' := by
  have AS := Aside0.mk h
  clear h
  by_cases h1 : i < 0
  · clear hi
    go_enter Try.func99, Try.ntmps99
    go_wp2
    go_ret2
    exact ⟨by first | rfl | (simp; done), rfl⟩
  · have h2 : (n : Int) ≤ i := by omega
    clear hi
    go_enter Try.func99, Try.ntmps99
    go_wp2_with fail
    refine (len_ AS.out).mono ?_
    rintro e w' ⟨rfl, rfl⟩
    go_wp2
    go_ret2
    exact ⟨by first | rfl | (simp; done), rfl⟩
set_option maxHeartbeats 800000 in
set_option maxRecDepth 100000 in
theorem read_in (h : Sep w0 W (RD g n las now wait left done :: F)) (i : Nat) (hi : i < n) :
    Calls Try.prog 99 #[.pointer (some ⟨g, 0, none⟩), .int .i64 (i : Int)] W fun e w' => ∃ v, e = .returned (.tuple #[v, .bool true]) ∧ Sep w0 w' (Row U8 5 v (sec now i) :: RD g n las now wait left done :: F) := by
  obtain ⟨gl, cl, gn, cn, gw, cw, ⟨n1, n2, n3, n4, n5, n6, n7, n8⟩, hs⟩ := open_ h
  have c1 : (W.alloc (.cells #[] 5)).cell? ⟨g, 1, none⟩ = some (.slice (some ⟨gn, 0, none⟩) (64 * n) cn) := ((hs.alloc _).cell 1).trans rfl
  have hcut := cutM_ (g := gn) (N := 64 * n) (c := cn) (j := 64 * i) (k := 64 * i + 64) (J := (i : Int) * 64) (K := ((i : Int) + 1) * 64) (by omega) (by omega) (by omega) (by omega) (by omega) n7
  have hr := hs.tail.tail.rowC.2.2
  have AP := Aside0.mk (C_piece hr (64 * i) 64 (by omega))
  have AL := Aside0.mk (h.litRow (enc := Value.int .u8) (h1 := fun _ => rfl) (e := 5) [] (by decide))
  have AS := Aside0.mk h
  have h1 : ¬ (i : Int) < 0 := by omega
  have h2 : ¬ (n : Int) ≤ (i : Int) := by omega
  have h64 : 64 * i + 64 - 64 * i = 64 := by omega
  clear h hs hr n3 n4 n5 n6 n7 n8
  go_enter Try.func99, Try.ntmps99
  go_wp2_with fail
  refine (len_ AS.out).mono ?_
  rintro e w' ⟨rfl, rfl⟩
  go_wp2_with (first | (refine gate_builtin (b := .append) (xs := #[.tmp 14, .tmp 24]) rfl ?_; go_loud (refine AL.out.appendRow rfl (.tmp 14) (.tmp 24) 30 (.int .u8 0) 1 rfl Try.underlying30 infoB rfl (by decide) (some ⟨gn, 64 * i, none⟩) 64 (cn - 64 * i) rfl rfl (Kd.C_alloc AP.out _) (by simp; omega) ?_; intro v1 w1 hS1; rw [List.nil_append] at hS1; have A1 := Aside0.mk hS1; clear hS1)))
  go_ret2
  exact ⟨_, by first | rfl | (simp; done), A1.out⟩
/-- The sectors below j that wait. -/
def waitsI (wait : List Bool) (j : Nat) : List Int := ((List.range j).filter (fun i => wait.getD i false)).map (fun k : Nat => (k : Int))
theorem waitsI_succ (wait : List Bool) (j : Nat) : waitsI wait (j + 1) = waitsI wait j ++ if wait.getD j false then [(j : Int)] else [] := by
  unfold waitsI
  rw [List.range_succ, List.filter_append, List.map_append]
  congr 1
  have hp : ∀ p : Nat → Bool, ([j].filter p).map (fun k : Nat => (k : Int)) = if p j then [(j : Int)] else [] := fun p => by
    by_cases h : p j = true <;> simp [h]
  exact hp (fun i => wait.getD i false)
theorem waitsI_len (wait : List Bool) (j : Nat) : (waitsI wait j).length ≤ j := by
  unfold waitsI
  rw [List.length_map]
  have := List.length_filter_le (fun i => wait.getD i false) (List.range j)
  rwa [List.length_range] at this
set_option maxHeartbeats 1600000 in
set_option maxRecDepth 100000 in
theorem waits_ (h : Sep w0 W (RD g n las now wait left done :: F)) :
    Calls Try.prog 128 #[.pointer (some ⟨g, 0, none⟩)] W fun e w' => ∃ v, e = .returned v ∧ Sep w0 w' (Row I64 3 v (waitsI wait n) :: RD g n las now wait left done :: F) := by
  obtain ⟨gl, cl, gn, cn, gw, cw, ⟨n1, n2, n3, n4, n5, n6, n7, n8⟩, hs⟩ := open_ h
  have c2 : W.cell? ⟨g, 2, none⟩ = some (.slice (some ⟨gw, 0, none⟩) n cw) := (hs.cell 2).trans rfl
  have AN : Aside0 (Sep w0 W (Row I64 3 (.slice none 0 0) [] :: Blk g 144 _ :: _)) := ⟨hs.nilRow I64 3⟩
  have A3 := Aside0.mk (And.intro n3 (And.intro n4 n5))
  clear h hs n3 n4 n5
  go_enter Try.func128, Try.ntmps128
  go_wp2_with fail
  go_loopg [3, 10] n (fun k v p wr => ∃ i : Nat, p = .int .i64 (i : Int) ∧ i + k = n ∧ Sep w0 wr (Row I64 3 v (waitsI wait i) :: Blk g 144 #[.slice (some ⟨gl, 0, none⟩) (64 * n) cl, .slice (some ⟨gn, 0, none⟩) (64 * n) cn, .slice (some ⟨gw, 0, none⟩) n cw, .int .i64 left, .int .i64 done] ::
      Row U8 5 (.slice (some ⟨gl, 0, none⟩) (64 * n) cl) las :: Row U8 5 (.slice (some ⟨gn, 0, none⟩) (64 * n) cn) now :: Row BK 4 (.slice (some ⟨gw, 0, none⟩) n cw) wait :: F))
  case atStart => exact ⟨0, rfl, by omega, AN.out⟩
  case round =>
    obtain ⟨i, rfl, hik, hS⟩ := hrel
    have AR := Aside0.mk hS
    have AK := Aside0.mk hik
    by_cases hi : i < n
    · have d2 : wr.cell? ⟨g, 2, none⟩ = some (.slice (some ⟨gw, 0, none⟩) n cw) := (hS.at2.cell 2).trans rfl
      obtain ⟨f1, f2⟩ := hS.at5.rowCell false i hi
      have hks := waitsI_succ wait i
      have hkl := waitsI_len wait i
      clear hS hik c2 f2
      cases hb : wait.getD i false with
      | false =>
        rw [hb] at f1
        rw [hb, if_neg (by decide), List.append_nil] at hks
        have AKS := Aside0.mk hks
        clear hks hb
        go_wp2_with fail
        go_roundg (gk - 1)
        case measure => have := AK.out; omega
        case rel => exact ⟨i + 1, by go_num, by have := AK.out; omega, by rw [AKS.out]; exact AR.out⟩
      | true =>
        rw [hb] at f1
        rw [hb, if_pos rfl] at hks
        have AKS := Aside0.mk hks
        have AKL := Aside0.mk hkl
        have AR2 := Aside0.mk (AR.out.litRow (enc := Value.int .i64) (h1 := fun _ => rfl) (e := 3) [(i : Int)] (by simp)).at2
        clear hks hb hkl
        go_wp2_with (first | (refine gate_builtin (b := .append) (xs := #[.tmp 20, .tmp 22]) rfl ?_; go_loud (refine AR2.out.appendRow rfl (.tmp 20) (.tmp 22) 38 (.int .i64 0) 8 rfl Try.underlying38 (by kernel_rfl) rfl (by omega) (some ⟨wr.heap.size, 0, none⟩) 1 1 rfl rfl AR2.out.at2.rowC.2.2 (by have := AKL.out; simp; omega) ?_; intro v1 w2 hS2; have AS2 := Aside0.mk hS2; clear hS2)))
        go_roundg (gk - 1)
        case measure => have := AK.out; omega
        case rel => exact ⟨i + 1, by go_num, by have := AK.out; omega, by rw [AKS.out]; exact AS2.out.drop2⟩
    · have hin : i = n := by omega
      subst hin
      clear hS hik c2
      go_wp2_with fail
      go_ret
      obtain ⟨n3, n4, n5⟩ := A3.out
      exact ⟨_, rfl, (shut_ n1 n2 n3 n4 n5 ((AR.out).to5)).at2⟩
end
end Go.Proofs.Ytjngnigelkgekaa.Ref
