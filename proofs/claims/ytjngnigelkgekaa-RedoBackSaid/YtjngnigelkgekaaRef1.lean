/- The document's disk: its resource; its length; a deed; a disk of an image. -/
import Derived.Test.YtjngnigelkgekaaKL
namespace Go.Proofs.Ytjngnigelkgekaa.Kit.Sep
open Go.Proofs.Ytjngnigelkgekaa.Kit
theorem to5 {w0 W : World} {p q r s t : HP} {F : List HP} (h : Sep w0 W (p :: q :: r :: s :: t :: F)) : Sep w0 W (q :: r :: s :: t :: p :: F) := h.to4.perm (.cons _ (.cons _ (.cons _ (.swap _ _ _))))
theorem rot3 {w0 W : World} {p q r : HP} {F : List HP} (h : Sep w0 W (p :: q :: r :: F)) : Sep w0 W (r :: q :: p :: F) := h.at3.sw23
end Go.Proofs.Ytjngnigelkgekaa.Kit.Sep
namespace Go.Proofs.Ytjngnigelkgekaa.Ref
set_option linter.unusedVariables false
set_option linter.unusedSimpArgs false
open Go.RowKit Go.Proofs.YtjngnigelkgekaaW.PrintWords Go.Proofs.YtjngnigelkgekaaW.PrintLast Go.Proofs.YtjngnigelkgekaaW.PrintMore Go.Proofs.Ytjngnigelkgekaa.Kit Go.Proofs.Ytjngnigelkgekaa.Disk
abbrev BK : Kd Bool := Kd.bool
theorem infoT : (Try.prog.info? 4).map (fun i => (i.zero, i.size, i.bytes)) = some (some (.bool false), 1, 1) := by kernel_rfl
/-- The document's disk: n sectors; what lasts, what is written, which sectors wait; how many deeds are left, how many are done. -/
def RD (g n : Nat) (las now : List Int) (wait : List Bool) (left done : Int) : HP := Ex fun (x : Value × Value × Value) =>
  Star [Pu (1 ≤ n ∧ n ≤ 160 ∧ las.length = 64 * n ∧ now.length = 64 * n ∧ wait.length = n), Blk g 144 #[x.1, x.2.1, x.2.2, .int .i64 left, .int .i64 done],
    Row U8 5 x.1 las, Row U8 5 x.2.1 now, Row BK 4 x.2.2 wait]
section
variable {w0 W : World} {g n : Nat} {las now : List Int} {wait : List Bool} {left done : Int} {F : List HP}
theorem open_ (h : Sep w0 W (RD g n las now wait left done :: F)) : ∃ gl cl gn cn gw cw, (1 ≤ n ∧ n ≤ 160 ∧ las.length = 64 * n ∧ now.length = 64 * n ∧ wait.length = n ∧ 64 * n ≤ cl ∧ 64 * n ≤ cn ∧ n ≤ cw) ∧
    Sep w0 W (Blk g 144 #[.slice (some ⟨gl, 0, none⟩) (64 * n) cl, .slice (some ⟨gn, 0, none⟩) (64 * n) cn, .slice (some ⟨gw, 0, none⟩) n cw, .int .i64 left, .int .i64 done] ::
      Row U8 5 (.slice (some ⟨gl, 0, none⟩) (64 * n) cl) las :: Row U8 5 (.slice (some ⟨gn, 0, none⟩) (64 * n) cn) now :: Row BK 4 (.slice (some ⟨gw, 0, none⟩) n cw) wait :: F) := by
  obtain ⟨⟨v0, v1, v2⟩, h⟩ := h.ex
  obtain ⟨⟨n1, n2, n3, n4, n5⟩, h⟩ := h.star.pu
  obtain ⟨gl, cl, e0⟩ := h.tail.rowFormN n3 (by omega)
  obtain ⟨gn, cn, e1⟩ := h.tail.tail.rowFormN n4 (by omega)
  obtain ⟨gw, cw, e2⟩ := h.tail.tail.tail.rowFormN n5 (by omega)
  subst e0 e1 e2
  have h : Sep w0 W (Blk g 144 _ :: Row U8 5 (.slice (some ⟨gl, 0, none⟩) (64 * n) cl) las :: Row U8 5 (.slice (some ⟨gn, 0, none⟩) (64 * n) cn) now :: Row BK 4 (.slice (some ⟨gw, 0, none⟩) n cw) wait :: F) := h
  exact ⟨gl, cl, gn, cn, gw, cw, ⟨n1, n2, n3, n4, n5, h.tail.rowC.2.1, h.tail.tail.rowC.2.1, h.tail.tail.tail.rowC.2.1⟩, h⟩
theorem shut_ {v0 v1 v2 : Value} (n1 : 1 ≤ n) (n2 : n ≤ 160) (n3 : las.length = 64 * n) (n4 : now.length = 64 * n) (n5 : wait.length = n)
    (h : Sep w0 W (Blk g 144 #[v0, v1, v2, .int .i64 left, .int .i64 done] :: Row U8 5 v0 las :: Row U8 5 v1 now :: Row BK 4 v2 wait :: F)) : Sep w0 W (RD g n las now wait left done :: F) := by
  refine Sep.unex (v0, v1, v2) (Sep.unstar ?_)
  exact Sep.unpu ⟨n1, n2, n3, n4, n5⟩ h
set_option maxHeartbeats 400000 in
theorem len_ (h : Sep w0 W (RD g n las now wait left done :: F)) :
    Calls Try.prog 103 #[.pointer (some ⟨g, 0, none⟩)] W fun e w' => e = .returned (.int .i64 (n : Int)) ∧ W = w' := by
  obtain ⟨gl, cl, gn, cn, gw, cw, hn, hs⟩ := open_ h
  have c2 : W.cell? ⟨g, 2, none⟩ = some (.slice (some ⟨gw, 0, none⟩) n cw) := by rw [hs.cell 2]; rfl
  clear h hs
  go_enter Try.func103, Try.ntmps103
  go_wp2
  go_ret
  exact ⟨by first | rfl | (simp; done), rfl⟩
def leftF (left : Int) : Int := if 0 < left then left - 1 else left
set_option maxHeartbeats 400000 in
theorem deed_no (h : Sep w0 W (RD g n las now wait 0 done :: F)) :
    Calls Try.prog 125 #[.pointer (some ⟨g, 0, none⟩)] W fun e w' => e = .returned (.bool false) ∧ W = w' := by
  obtain ⟨gl, cl, gn, cn, gw, cw, hn, hs⟩ := open_ h
  have c3 : W.cell? ⟨g, 3, none⟩ = some (.int .i64 0) := by rw [hs.cell 3]; rfl
  clear h hs
  go_enter Try.func125, Try.ntmps125
  go_wp2
  go_ret
  exact ⟨by first | rfl | (simp; done), rfl⟩
set_option maxHeartbeats 800000 in
theorem deed_yes (h : Sep w0 W (RD g n las now wait left done :: F)) (h0 : left ≠ 0) (h1 : -9223372036854775808 ≤ left ∧ left ≤ 9223372036854775807) (h2 : 0 ≤ done ∧ done < 9223372036854775807) :
    Calls Try.prog 125 #[.pointer (some ⟨g, 0, none⟩)] W fun e w' => e = .returned (.bool true) ∧ Sep w0 w' (RD g n las now wait (leftF left) (done + 1) :: F) := by
  obtain ⟨gl, cl, gn, cn, gw, cw, hn, hs⟩ := open_ h
  have c3 : W.cell? ⟨g, 3, none⟩ = some (.int .i64 left) := by rw [hs.cell 3]; rfl
  have c4 : W.cell? ⟨g, 4, none⟩ = some (.int .i64 done) := by rw [hs.cell 4]; rfl
  have z3 := hs.frozen 3
  have z4 := hs.frozen 4
  have AS := Aside0.mk hs
  have AN := Aside0.mk hn
  clear h hs hn
  by_cases hp : 0 < left
  · go_enter Try.func125, Try.ntmps125
    go_wp2
    go_ret
    obtain ⟨n1, n2, n3, n4, n5, _⟩ := AN.out
    refine ⟨by first | rfl | (simp; done), ?_⟩
    have : leftF left = left - 1 := if_pos hp
    rw [this]
    exact shut_ n1 n2 n3 n4 n5 ((AS.out.setBlk 3 (.int .i64 (left - 1))).setBlk 4 (.int .i64 (done + 1)))
  · go_enter Try.func125, Try.ntmps125
    go_wp2
    go_ret
    obtain ⟨n1, n2, n3, n4, n5, _⟩ := AN.out
    refine ⟨by first | rfl | (simp; done), ?_⟩
    have : leftF left = left := if_neg (by omega)
    rw [this]
    exact shut_ n1 n2 n3 n4 n5 (AS.out.setBlk 4 (.int .i64 (done + 1)))
end
end Go.Proofs.Ytjngnigelkgekaa.Ref
