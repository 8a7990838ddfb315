/- Package reply: a row that answers one by one. -/
import Derived.Test.YtfpkhlhojjmgiaaReply4
namespace Go.Proofs.Ytfpkhlhojjmgiaa.Reply
set_option linter.unusedVariables false
set_option linter.unusedSimpArgs false
open Go.RowKit Go.Proofs.YtfpkhlhojjmgiaaW.PrintWords Go.Proofs.YtfpkhlhojjmgiaaW.PrintLast Go.Proofs.YtfpkhlhojjmgiaaW.PrintMore Go.Proofs.Ytfpkhlhojjmgiaa.Kit
abbrev KAn : Kd (Int × Bool) := Kd.pair (Kd.int .i64) Kd.bool
abbrev KAk : Kd (Int × Int) := Kd.pair (Kd.int .i32) (Kd.int .i64)
theorem infoAn : (Try.prog.info? 96).map (fun i => (i.zero, i.size, i.bytes)) = some (some (.agg #[.int .i64 0, .bool false]), 2, 16) := by kernel_rfl
theorem infoAk : (Try.prog.info? 61).map (fun i => (i.zero, i.size, i.bytes)) = some (some (.agg #[.int .i32 0, .int .i64 0]), 2, 16) := by kernel_rfl
/-- The row: what it answers is read, what it was asked is its own. -/
def RowR (g : Nat) (rs : List (Int × Bool)) (asks : List (Int × Int)) : HP := Ex fun (x : (Option Addr × Nat) × Value) =>
  Star [Blk g 94 #[.slice x.1.1 rs.length x.1.2, x.2], Fx (fun W => rs.length ≤ x.1.2 ∧ KAn.C W x.1.1 rs.length rs), Row KAk 61 x.2 asks]
section
variable {w0 W : World} {F : List HP} {g : Nat} {rs : List (Int × Bool)} {asks : List (Int × Int)}
theorem rowR_open (h : Sep w0 W (RowR g rs asks :: F)) : ∃ A c v, Sep w0 W (Blk g 94 #[.slice A rs.length c, v] :: Fx (fun W => rs.length ≤ c ∧ KAn.C W A rs.length rs) :: Row KAk 61 v asks :: F) := by
  obtain ⟨x, h⟩ := h.ex
  exact ⟨x.1.1, x.1.2, x.2, h.star⟩
theorem rowR_shut {A : Option Addr} {c : Nat} {v : Value} (h : Sep w0 W (Blk g 94 #[.slice A rs.length c, v] :: Fx (fun W => rs.length ≤ c ∧ KAn.C W A rs.length rs) :: Row KAk 61 v asks :: F)) : Sep w0 W (RowR g rs asks :: F) :=
  Sep.unex ((A, c), v) (Sep.unstar (L := [_, _, _]) h)
theorem elAny {α : Type} {d : Kd α} {x : α} {cs : List Value} (h : Sep w0 W F) (hm : ∀ W, d.M W 0 (fun _ => False) x cs) : Sep w0 W (El d x cs :: F) :=
  h.gain (Below.refl _ _) (ok := fun _ => False) ⟨hm W, fun _ hf => hf.elim⟩ (fun _ hf => hf.elim)
set_option maxHeartbeats 1600000 in
set_option maxRecDepth 100000 in
theorem new_ {A : Option Addr} {n c : Nat} {cs : List OV} {os : List (Option Int)} {w : World} (hr : KV.C w A n cs) (hc : n ≤ c) (hO : OfsAll cs os) (hn : n ≤ 100000) :
    Calls Try.prog 23 #[.slice A n c] w fun e w' => ∃ g, e = .returned (.pointer (some ⟨g, 0, none⟩)) ∧ Sep w w' [RowR g ((os.take 64).map (fun r => (r.getD 0, r.isSome))) []] := by
  obtain rfl : cs.length = n := hr.1
  have HR := Aside0.mk hr
  obtain ⟨M, hM1, hM2, hM3⟩ : ∃ M, M = min cs.length 64 ∧ M ≤ cs.length ∧ M ≤ 64 := ⟨_, rfl, by omega, by omega⟩
  have hmin : (if (64 : Int) < (cs.length : Int) then (64 : Int) else (cs.length : Int)) = (M : Int) := by split <;> omega
  have HC := Aside0.mk hc
  have HO := Aside0.mk (hO.take M)
  have HOM : Aside0 (os.take 64 = os.take M) := ⟨by
    rw [hM1, hO.1]
    by_cases h : os.length ≤ 64
    · rw [Nat.min_eq_left h, List.take_of_length_le h, List.take_of_length_le (Nat.le_refl _)]
    · rw [Nat.min_eq_right (by omega)]⟩
  have HT := Aside0.mk (C_hi (b := M) (c := c) HR.out hM2 hc)
  have A0 := Aside0.mk (((Sep.start w).newBlk 94 #[.slice none 0 0, .slice none 0 0]).nilRow KAn 96).at2
  clear hr hO hM1
  go_enter Try.func23, Try.ntmps23
  go_wp2_with fail
  go_loopg [16] M (fun m s wr => ∃ (j : Nat) (v : Value), s = .int .i64 (j : Int) ∧ j + m = M ∧ Sep w wr [Row KAn 96 v ((os.take j).map (fun r => (r.getD 0, r.isSome))), Blk w.heap.size 94 #[v, .slice none 0 0]])
  case atStart => exact ⟨0, _, rfl, by omega, A0.out.at2⟩
  case round =>
    obtain ⟨j, v, rfl, hjm, hS⟩ := hrel
    have AK := Aside0.mk hjm
    have hol := HO.out.1
    by_cases hj : j < M
    · have hjo : j < os.length := by rw [List.length_take, List.length_take] at hol; omega
      obtain ⟨A3, c3, rfl⟩ := hS.rowN (n := j) (by rw [List.length_map, List.length_take]; omega)
      obtain ⟨hx, ad, rfl, e0⟩ := elemV HT.out hj
      have hof := HO.out.2 j _ _ (List.getElem?_eq_getElem hx) (by rw [List.getElem?_take, if_pos hj]; exact List.getElem?_eq_getElem hjo)
      have htk : os.take (j + 1) = os.take j ++ [os[j]] := by rw [List.take_add_one, List.getElem?_eq_getElem hjo]; rfl
      obtain ⟨r, hr2⟩ : ∃ r, os[j] = r := ⟨_, rfl⟩
      rw [hr2] at hof htk
      have HTK := Aside0.mk htk
      have AS := Aside0.mk hS
      have z0 := cell_later hS.toBelow e0
      obtain ⟨x, hxv⟩ : ∃ x, ((cs.take M)[j]).1 = x := ⟨_, rfl⟩
      rw [hxv] at z0 hof
      have HF := Aside0.mk hof
      have hjl : (j : Int) < (M : Int) := by omega
      clear hS e0 hof htk hxv hjm hol hr2
      go_wp2_with fail
      refine (HF.out _).mono ?_
      rintro e w2 ⟨rfl, hb⟩
      obtain ⟨k, hk⟩ : ∃ k, r.getD 0 = k := ⟨_, rfl⟩
      obtain ⟨ok, hok⟩ : ∃ ok, r.isSome = ok := ⟨_, rfl⟩
      have HKO := Aside0.mk (And.intro hk hok)
      rw [hk, hok]
      clear hk hok
      have B2 := AS.out.below hb
      have z1 : w2.cell? ⟨w.heap.size, 0, none⟩ = some (.slice A3 j c3) := (B2.at2.cell 0).trans rfl
      have L2 := Aside0.mk ((elAny (d := KAn) (x := (k, ok)) (cs := [.int .i64 k, .bool ok]) B2 (fun W => ⟨[.int .i64 k], [.bool ok], rfl, rfl, rfl⟩)).at2)
      clear hb B2 z0
      go_wp2_with (first | (refine gate_builtin (b := .append) (xs := #[.tmp 29, .tmp 33]) rfl ?_; go_loud (refine L2.out.appendDeep rfl (.tmp 29) (.tmp 33) 92 _ 16 rfl Try.underlying92 infoAn rfl (by decide) (by decide) rfl rfl (by rw [List.length_map, List.length_take]; omega) ?_; intro v6 w6 hs6 hS6; obtain ⟨A6, c6, rfl⟩ := hS6.rowN (n := j + 1) (by rw [List.length_append, List.length_map, List.length_take]; simp; omega); have z2 : w6.cell? ⟨w.heap.size, 0, none⟩ = some (.slice A3 j c3) := (hS6.at2.cell 0).trans rfl; have f6 := hS6.at2.frozen 0; have A7 := Aside0.mk (hS6.at2.setBlk 0 (.slice A6 (j + 1) c6)).at2; clear hS6)))
      go_roundg (gk - 1)
      case measure => have := AK.out; omega
      case rel => exact ⟨j + 1, _, by go_num, by have := AK.out; omega, by rw [HTK.out, List.map_append, List.map_cons, List.map_nil, HKO.out.1, HKO.out.2]; exact A7.out⟩
    · obtain rfl : j = M := by omega
      obtain ⟨A3, c3, rfl⟩ := hS.rowN (n := j) (by rw [List.length_map, List.length_take]; rw [List.length_take, List.length_take] at hol; omega)
      have hc3 := hS.rowC
      have hS2 := (hS.fxRow.at2).at2
      have hlen : ((os.take j).map (fun r => (r.getD 0, r.isSome))).length = j := hc3.1.symm
      have HSH : Aside0 (Sep w wr [RowR w.heap.size ((os.take j).map (fun r => (r.getD 0, r.isSome))) []]) := ⟨by
        refine rowR_shut (A := A3) (c := c3) (v := .slice none 0 0) ?_
        rw [hlen]
        exact ((hS2.fxImp (fun W hW => (⟨hc3.2.1, hW⟩ : j ≤ c3 ∧ KAn.C W A3 j _))).nilRow KAk 61).to3.at2⟩
      clear hS hS2 hc3 hjm hol hlen
      go_wp2_with fail
      go_ret
      exact ⟨_, by first | rfl | (simp; done), by rw [HOM.out]; exact HSH.out⟩
end
end Go.Proofs.Ytfpkhlhojjmgiaa.Reply
