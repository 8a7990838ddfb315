/- StSame, StFound2, StLaw3, StLaw4, StLaw5, StMost, StFP: what StoreNumbers needs. -/
import Derived.Test.YtjngnigelkgekaaGreatTstoreNumbers20
set_option linter.unusedVariables false
set_option linter.unusedSimpArgs false
namespace Go.Proofs.YtjngnigelkgekaaGreat.RStore
open Go.RowKit Go.Proofs.YtjngnigelkgekaaGreatW.PrintWords Go.Proofs.YtjngnigelkgekaaGreatW.PrintLast Go.Proofs.YtjngnigelkgekaaGreatW.PrintMore Go.Proofs.YtjngnigelkgekaaGreat.Kit Go.Proofs.YtjngnigelkgekaaGreat.Plain Go.Proofs.YtjngnigelkgekaaGreat.Disk Go.Proofs.YtjngnigelkgekaaGreat.Root
open Go.Proofs.YtjngnigelkgekaaGreat.Store (KP StB ov_at ov_C root_ used_ seq_ all_ page_in)
open Go.Proofs.YtjngnigelkgekaaGreat.Home (RT)
section
variable {w0 W : World} {F : List HP} {g gr gs gx m n d : Nat} {a b ep : Int} {pages : List (List Int)} {named : List Int} {nm : List Bool} {used seq : Nat} {las : List Int} {wt : Wt}
set_option maxHeartbeats 6400000 in
set_option maxRecDepth 100000 in
theorem same18_ (h : Sep w0 W (Dsk g las wt :: RT gr n las wt d :: StB gs g m a b ep pages named used seq :: RStB gx gr a b ep pages nm used seq :: F)) (hl : las.length = 64 * n) (hpn : pages.length ≤ 64) (hp : ∀ p ∈ pages, p.length ≤ 1000000) :
    Calls Tryz.prog 41 #[.pointer (some ⟨g, 0, none⟩), .pointer (some ⟨gr, 0, none⟩), .pointer (some ⟨gs, 0, none⟩), .pointer (some ⟨gx, 0, none⟩)] W fun e w' => e = .returned (.bool true) ∧ Sep w0 w' (Dsk g las wt :: RT gr n las wt d :: StB gs g m a b ep pages named used seq :: RStB gx gr a b ep pages nm used seq :: F) := by
  obtain ⟨hpp, gp, cp, gn, cn, hs⟩ := rstb_open h.at4
  obtain ⟨cs, hs2⟩ := hs.at2.rowV_open
  obtain ⟨N, hN⟩ : ∃ N, pages.length = N := ⟨_, rfl⟩
  rw [hN] at hs2 hpn
  have HN := Aside0.mk hN
  have HPP := Aside0.mk hpp
  have HP := Aside0.mk (And.intro hpn hp)
  have HL := Aside0.mk hl
  have B0 : Aside0 (Sep w0 W.drew (Dsk g las wt :: RT gr n las wt d :: StB gs g m a b ep pages named used seq :: Blk gx 87 #[.pointer (some ⟨gr, 0, none⟩), .int .i64 a, .int .i64 b, .int .u32 ep, .slice (some ⟨gp, 0, none⟩) N cp, .slice (some ⟨gn, 0, none⟩) N cn, .int .i64 (used : Int), .int .u32 (seq : Int)] :: Row KV 24 (.slice (some ⟨gp, 0, none⟩) N cp) cs :: Fx (EachV KP pages cs) :: Row BK 4 (.slice (some ⟨gn, 0, none⟩) N cn) nm :: F)) := ⟨by
    have h1 := Sep.pull [_, _, _, _] hs2.drew
    have h2 := Sep.pull [_, _, _, _, _] h1
    have h3 := Sep.pull [_, _, _, _, _, _] h2
    have h4 : Sep w0 W.drew (Dsk g las wt :: RT gr n las wt d :: StB gs g m a b ep pages named used seq :: Row KV 24 (.slice (some ⟨gp, 0, none⟩) N cp) cs :: Fx (EachV KP pages cs) :: Blk gx 87 #[.pointer (some ⟨gr, 0, none⟩), .int .i64 a, .int .i64 b, .int .u32 ep, .slice (some ⟨gp, 0, none⟩) N cp, .slice (some ⟨gn, 0, none⟩) N cn, .int .i64 (used : Int), .int .u32 (seq : Int)] :: Row BK 4 (.slice (some ⟨gn, 0, none⟩) N cn) nm :: F) := h3.turn3
    have h5 := Sep.pull [_, _, _, _, _] h4
    exact Sep.push [_, _, _] h5⟩
  obtain ⟨L, hL⟩ : ∃ L, flushed las wt = L := ⟨_, rfl⟩
  clear h hs hs2 hpp hp hl hN
  go_enter Tryz.func41, Tryz.ntmps41
  go_wp2_with fail
  refine start_ (n := 42) (S := fun w' => w'.cell? ⟨gx, 1, none⟩ = some (.int .i64 a) ∧ w'.cell? ⟨gx, 2, none⟩ = some (.int .i64 b) ∧ w'.cell? ⟨gx, 3, none⟩ = some (.int .u32 ep) ∧ w'.cell? ⟨gx, 4, none⟩ = some (.slice (some ⟨gp, 0, none⟩) N cp) ∧ w'.cell? ⟨gx, 6, none⟩ = some (.int .i64 (used : Int)) ∧ w'.cell? ⟨gx, 7, none⟩ = some (.int .u32 (seq : Int))) (ds := []) #[Z,Z,Z,Z,Z,Z,Z,Z,Z,Z,Z,Z,Z,Z,Z,Z,Z,Z,Z,Z,Z,Z,Z,Z,Z,Z,Z,Z,Z,Z,Z,Z,Z,Z,Z,Z,Z,Z,Z,Z,Z,Z] (by kernel_rfl) rfl rfl ⟨(B0.out.at4.cell 1).trans rfl, (B0.out.at4.cell 2).trans rfl, (B0.out.at4.cell 3).trans rfl, (B0.out.at4.cell 4).trans rfl, (B0.out.at4.cell 6).trans rfl, (B0.out.at4.cell 7).trans rfl⟩ (fun hHeld => ?_)
  refine pu_ 0 10 ?_ #[J,Z,Z,Z,Z,Z,Z,Z,Z,Z,Z,Z,Z,Z,Z,Z,Z,Z,Z,Z,Z,Z,Z,Z,Z,Z,Z,Z,Z,Z,Z,Z,Z,Z,Z,Z,Z,Z,Z,Z,Z,Z] rfl rfl ?_ ?_ ?_ ?_
  rotate_left
  · intro w'
    go_simp
    with_reducible rfl
  rotate_left
  · simp only [aP]
    rfl
  refine pu_ 1 11 ?_ #[J,J,Z,Z,Z,Z,Z,Z,Z,Z,Z,Z,Z,Z,Z,Z,Z,Z,Z,Z,Z,Z,Z,Z,Z,Z,Z,Z,Z,Z,Z,Z,Z,Z,Z,Z,Z,Z,Z,Z,Z,Z] rfl rfl ?_ ?_ ?_ ?_
  rotate_left
  · intro w'
    go_simp
    with_reducible rfl
  rotate_left
  · simp only [aP]
    rfl
  refine one_ (i := 2) (N := some 12) #[J,J,J,Z,Z,Z,Z,Z,Z,Z,Z,Z,Z,Z,Z,Z,Z,Z,Z,Z,Z,Z,Z,Z,Z,Z,Z,Z,Z,Z,Z,Z,Z,Z,Z,Z,Z,Z,Z,Z,Z,Z] rfl rfl (by kernel_rfl) (by decide) (fun K hK => ?_)
  refine goes_ Tryz.func46 (by kernel_rfl) rfl #[.pointer (some ⟨g, 0, none⟩), .pointer (some ⟨gr, 0, none⟩)] (by rfl) rfl rfl (by simp only [List.map_toArray, List.map_cons, List.map_nil]; rfl) ?_
  with_reducible refine (Ref.alike18_ B0.out HL.out).mono ?_
  rintro e w3 ⟨rfl, hS3⟩
  refine ⟨_, rfl, ?_⟩
  have B3 := Aside0.mk hS3
  clear hS3
  refine hK.out _ _ ⟨(B3.out.at4.cell 1).trans rfl, (B3.out.at4.cell 2).trans rfl, (B3.out.at4.cell 3).trans rfl, (B3.out.at4.cell 4).trans rfl, (B3.out.at4.cell 6).trans rfl, (B3.out.at4.cell 7).trans rfl⟩ (fun hHeld => ?_)
  clear hK K
  refine norm_ (a' := ?_) ?_ ?_
  rotate_left
  · show Act.put _ (some 12) _ = _
    simp only [aP]
    rfl
  refine pu_ 3 13 ?_ #[J,J,J,J,Z,Z,Z,Z,Z,Z,Z,Z,Z,Z,Z,Z,Z,Z,Z,Z,Z,Z,Z,Z,Z,Z,Z,Z,Z,Z,Z,Z,Z,Z,Z,Z,Z,Z,Z,Z,Z,Z] rfl rfl ?_ ?_ ?_ ?_
  rotate_left
  · intro w'
    go_simp
    with_reducible rfl
  rotate_left
  · simp only [aP]
    rfl
  refine pu_ 4 14 ?_ #[J,J,J,J,J,Z,Z,Z,Z,Z,Z,Z,Z,Z,Z,Z,Z,Z,Z,Z,Z,Z,Z,Z,Z,Z,Z,Z,Z,Z,Z,Z,Z,Z,Z,Z,Z,Z,Z,Z,Z,Z] rfl rfl ?_ ?_ ?_ ?_
  rotate_left
  · intro w'
    go_simp
    with_reducible rfl
  rotate_left
  · simp only [aP]
    rfl
  refine pu_ 5 15 ?_ #[J,J,J,J,J,J,Z,Z,Z,Z,Z,Z,Z,Z,Z,Z,Z,Z,Z,Z,Z,Z,Z,Z,Z,Z,Z,Z,Z,Z,Z,Z,Z,Z,Z,Z,Z,Z,Z,Z,Z,Z] rfl rfl ?_ ?_ ?_ ?_
  rotate_left
  · intro w'
    go_simp
    with_reducible rfl
  rotate_left
  · simp only [aP]
    rfl
  refine pu_ 7 17 ?_ #[J,J,J,J,J,J,Z,J,Z,Z,Z,Z,Z,Z,Z,Z,Z,Z,Z,Z,Z,Z,Z,Z,Z,Z,Z,Z,Z,Z,Z,Z,Z,Z,Z,Z,Z,Z,Z,Z,Z,Z] rfl rfl ?_ ?_ ?_ ?_
  rotate_left
  · intro w'
    go_simp
    with_reducible rfl
  rotate_left
  · simp only [aP]
    rfl
  refine pu_ 8 18 ?_ #[J,J,J,J,J,J,Z,J,J,Z,Z,Z,Z,Z,Z,Z,Z,Z,Z,Z,Z,Z,Z,Z,Z,Z,Z,Z,Z,Z,Z,Z,Z,Z,Z,Z,Z,Z,Z,Z,Z,Z] rfl rfl ?_ ?_ ?_ ?_
  rotate_left
  · intro w'
    go_simp
    with_reducible rfl
  rotate_left
  · simp only [aP]
    rfl
  refine pu_ 9 19 ?_ #[J,J,J,J,J,J,Z,J,J,J,Z,Z,Z,Z,Z,Z,Z,Z,Z,Z,Z,Z,Z,Z,Z,Z,Z,Z,Z,Z,Z,Z,Z,Z,Z,Z,Z,Z,Z,Z,Z,Z] rfl rfl ?_ ?_ ?_ ?_
  rotate_left
  · intro w'
    go_simp
    with_reducible rfl
  rotate_left
  · simp only [aP]
    rfl
  refine ta_ 10 20 ?_ #[J,J,J,J,J,J,Z,J,J,J,J,Z,Z,Z,Z,Z,Z,Z,Z,Z,Z,Z,Z,Z,Z,Z,Z,Z,Z,Z,Z,Z,Z,Z,Z,Z,Z,Z,Z,Z,Z,Z] rfl rfl ?_ hHeld ?_ ?_ ?_
  rotate_left
  · rintro w' ⟨s0, s1, s2, s3, s4, s5⟩
    go_simp
    with_reducible rfl
  rotate_left
  · simp only [aP]
    rfl
  refine one_ (i := 6) (N := some 16) #[J,J,J,J,J,J,J,J,J,J,J,Z,Z,Z,Z,Z,Z,Z,Z,Z,Z,Z,Z,Z,Z,Z,Z,Z,Z,Z,Z,Z,Z,Z,Z,Z,Z,Z,Z,Z,Z,Z] rfl rfl (by kernel_rfl) (by decide) (fun K hK => ?_)
  refine goes_ Tryz.func51 (by kernel_rfl) rfl #[.pointer (some ⟨gs, 0, none⟩)] (by rfl) rfl rfl (by simp only [List.map_toArray, List.map_cons, List.map_nil]; rfl) ?_
  with_reducible refine (root_ B3.out.at3).mono ?_
  rintro e w4 ⟨rfl, hb4⟩
  refine ⟨_, rfl, ?_⟩
  have B4 := Aside0.mk (B3.out.below hb4)
  clear hb4
  refine hK.out _ _ ⟨(B4.out.at4.cell 1).trans rfl, (B4.out.at4.cell 2).trans rfl, (B4.out.at4.cell 3).trans rfl, (B4.out.at4.cell 4).trans rfl, (B4.out.at4.cell 6).trans rfl, (B4.out.at4.cell 7).trans rfl⟩ (fun hHeld => ?_)
  clear hK K
  refine norm_ (a' := ?_) ?_ ?_
  rotate_left
  · show Act.put _ (some 16) _ = _
    simp only [aP]
    rfl
  refine pu_ 11 21 ?_ #[J,J,J,J,J,J,J,J,J,J,J,J,Z,Z,Z,Z,Z,Z,Z,Z,Z,Z,Z,Z,Z,Z,Z,Z,Z,Z,Z,Z,Z,Z,Z,Z,Z,Z,Z,Z,Z,Z] rfl rfl ?_ ?_ ?_ ?_
  rotate_left
  · intro w'
    go_simp
    with_reducible rfl
  rotate_left
  · simp only [aP]
    rfl
  refine pu_ 12 22 ?_ #[J,J,J,J,J,J,J,J,J,J,J,J,J,Z,Z,Z,Z,Z,Z,Z,Z,Z,Z,Z,Z,Z,Z,Z,Z,Z,Z,Z,Z,Z,Z,Z,Z,Z,Z,Z,Z,Z] rfl rfl ?_ ?_ ?_ ?_
  rotate_left
  · intro w'
    go_simp
    with_reducible rfl
  rotate_left
  · simp only [aP]
    rfl
  refine pu_ 13 23 ?_ #[J,J,J,J,J,J,J,J,J,J,J,J,J,J,Z,Z,Z,Z,Z,Z,Z,Z,Z,Z,Z,Z,Z,Z,Z,Z,Z,Z,Z,Z,Z,Z,Z,Z,Z,Z,Z,Z] rfl rfl ?_ ?_ ?_ ?_
  rotate_left
  · intro w'
    go_simp
    with_reducible rfl
  rotate_left
  · simp only [aP]
    rfl
  refine pu_ 14 24 ?_ #[J,J,J,J,J,J,J,J,J,J,J,J,J,J,J,Z,Z,Z,Z,Z,Z,Z,Z,Z,Z,Z,Z,Z,Z,Z,Z,Z,Z,Z,Z,Z,Z,Z,Z,Z,Z,Z] rfl rfl ?_ ?_ ?_ ?_
  rotate_left
  · intro w'
    go_simp
    with_reducible rfl
  rotate_left
  · simp only [aP]
    rfl
  refine pu_ 16 26 ?_ #[J,J,J,J,J,J,J,J,J,J,J,J,J,J,J,Z,J,Z,Z,Z,Z,Z,Z,Z,Z,Z,Z,Z,Z,Z,Z,Z,Z,Z,Z,Z,Z,Z,Z,Z,Z,Z] rfl rfl ?_ ?_ ?_ ?_
  rotate_left
  · intro w'
    go_simp
    with_reducible rfl
  rotate_left
  · simp only [aP]
    rfl
  refine pu_ 17 27 ?_ #[J,J,J,J,J,J,J,J,J,J,J,J,J,J,J,Z,J,J,Z,Z,Z,Z,Z,Z,Z,Z,Z,Z,Z,Z,Z,Z,Z,Z,Z,Z,Z,Z,Z,Z,Z,Z] rfl rfl ?_ ?_ ?_ ?_
  rotate_left
  · intro w'
    go_simp
    with_reducible rfl
  rotate_left
  · simp only [aP]
    rfl
  refine pu_ 18 28 ?_ #[J,J,J,J,J,J,J,J,J,J,J,J,J,J,J,Z,J,J,J,Z,Z,Z,Z,Z,Z,Z,Z,Z,Z,Z,Z,Z,Z,Z,Z,Z,Z,Z,Z,Z,Z,Z] rfl rfl ?_ ?_ ?_ ?_
  rotate_left
  · intro w'
    go_simp
    with_reducible rfl
  rotate_left
  · simp only [aP]
    rfl
  refine ta_ 19 29 ?_ #[J,J,J,J,J,J,J,J,J,J,J,J,J,J,J,Z,J,J,J,J,Z,Z,Z,Z,Z,Z,Z,Z,Z,Z,Z,Z,Z,Z,Z,Z,Z,Z,Z,Z,Z,Z] rfl rfl ?_ hHeld ?_ ?_ ?_
  rotate_left
  · rintro w' ⟨s0, s1, s2, s3, s4, s5⟩
    go_simp
    with_reducible rfl
  rotate_left
  · simp only [aP]
    rfl
  refine one_ (i := 15) (N := some 25) #[J,J,J,J,J,J,J,J,J,J,J,J,J,J,J,J,J,J,J,J,Z,Z,Z,Z,Z,Z,Z,Z,Z,Z,Z,Z,Z,Z,Z,Z,Z,Z,Z,Z,Z,Z] rfl rfl (by kernel_rfl) (by decide) (fun K hK => ?_)
  refine goes_ Tryz.func33 (by kernel_rfl) rfl #[.pointer (some ⟨gs, 0, none⟩)] (by rfl) rfl rfl (by simp only [List.map_toArray, List.map_cons, List.map_nil]; rfl) ?_
  with_reducible refine (used_ B4.out.at3).mono ?_
  rintro e w5 ⟨rfl, rfl⟩
  refine ⟨_, rfl, ?_⟩
  refine hK.out _ _ ⟨(B4.out.at4.cell 1).trans rfl, (B4.out.at4.cell 2).trans rfl, (B4.out.at4.cell 3).trans rfl, (B4.out.at4.cell 4).trans rfl, (B4.out.at4.cell 6).trans rfl, (B4.out.at4.cell 7).trans rfl⟩ (fun hHeld => ?_)
  clear hK K
  refine norm_ (a' := ?_) ?_ ?_
  rotate_left
  · show Act.put _ (some 25) _ = _
    simp only [aP]
    rfl
  refine pu_ 20 30 ?_ #[J,J,J,J,J,J,J,J,J,J,J,J,J,J,J,J,J,J,J,J,J,Z,Z,Z,Z,Z,Z,Z,Z,Z,Z,Z,Z,Z,Z,Z,Z,Z,Z,Z,Z,Z] rfl rfl ?_ ?_ ?_ ?_
  rotate_left
  · intro w'
    go_simp
    with_reducible rfl
  rotate_left
  · simp only [aP]
    rfl
  refine pu_ 21 31 ?_ #[J,J,J,J,J,J,J,J,J,J,J,J,J,J,J,J,J,J,J,J,J,J,Z,Z,Z,Z,Z,Z,Z,Z,Z,Z,Z,Z,Z,Z,Z,Z,Z,Z,Z,Z] rfl rfl ?_ ?_ ?_ ?_
  rotate_left
  · intro w'
    go_simp
    with_reducible rfl
  rotate_left
  · simp only [aP]
    rfl
  refine pu_ 22 32 ?_ #[J,J,J,J,J,J,J,J,J,J,J,J,J,J,J,J,J,J,J,J,J,J,J,Z,Z,Z,Z,Z,Z,Z,Z,Z,Z,Z,Z,Z,Z,Z,Z,Z,Z,Z] rfl rfl ?_ ?_ ?_ ?_
  rotate_left
  · intro w'
    go_simp
    with_reducible rfl
  rotate_left
  · simp only [aP]
    rfl
  refine pu_ 23 33 ?_ #[J,J,J,J,J,J,J,J,J,J,J,J,J,J,J,J,J,J,J,J,J,J,J,J,Z,Z,Z,Z,Z,Z,Z,Z,Z,Z,Z,Z,Z,Z,Z,Z,Z,Z] rfl rfl ?_ ?_ ?_ ?_
  rotate_left
  · intro w'
    go_simp
    with_reducible rfl
  rotate_left
  · simp only [aP]
    rfl
  refine pu_ 25 35 ?_ #[J,J,J,J,J,J,J,J,J,J,J,J,J,J,J,J,J,J,J,J,J,J,J,J,Z,J,Z,Z,Z,Z,Z,Z,Z,Z,Z,Z,Z,Z,Z,Z,Z,Z] rfl rfl ?_ ?_ ?_ ?_
  rotate_left
  · intro w'
    go_simp
    with_reducible rfl
  rotate_left
  · simp only [aP]
    rfl
  refine pu_ 26 36 ?_ #[J,J,J,J,J,J,J,J,J,J,J,J,J,J,J,J,J,J,J,J,J,J,J,J,Z,J,J,Z,Z,Z,Z,Z,Z,Z,Z,Z,Z,Z,Z,Z,Z,Z] rfl rfl ?_ ?_ ?_ ?_
  rotate_left
  · intro w'
    go_simp
    with_reducible rfl
  rotate_left
  · simp only [aP]
    rfl
  refine pu_ 27 37 ?_ #[J,J,J,J,J,J,J,J,J,J,J,J,J,J,J,J,J,J,J,J,J,J,J,J,Z,J,J,J,Z,Z,Z,Z,Z,Z,Z,Z,Z,Z,Z,Z,Z,Z] rfl rfl ?_ ?_ ?_ ?_
  rotate_left
  · intro w'
    go_simp
    with_reducible rfl
  rotate_left
  · simp only [aP]
    rfl
  refine ta_ 28 38 ?_ #[J,J,J,J,J,J,J,J,J,J,J,J,J,J,J,J,J,J,J,J,J,J,J,J,Z,J,J,J,J,Z,Z,Z,Z,Z,Z,Z,Z,Z,Z,Z,Z,Z] rfl rfl ?_ hHeld ?_ ?_ ?_
  rotate_left
  · rintro w' ⟨s0, s1, s2, s3, s4, s5⟩
    go_simp
    with_reducible rfl
  rotate_left
  · simp only [aP]
    rfl
  refine one_ (i := 24) (N := some 34) #[J,J,J,J,J,J,J,J,J,J,J,J,J,J,J,J,J,J,J,J,J,J,J,J,J,J,J,J,J,Z,Z,Z,Z,Z,Z,Z,Z,Z,Z,Z,Z,Z] rfl rfl (by kernel_rfl) (by decide) (fun K hK => ?_)
  refine goes_ Tryz.func50 (by kernel_rfl) rfl #[.pointer (some ⟨gs, 0, none⟩)] (by rfl) rfl rfl (by simp only [List.map_toArray, List.map_cons, List.map_nil]; rfl) ?_
  with_reducible refine (seq_ B4.out.at3).mono ?_
  rintro e w5 ⟨rfl, rfl⟩
  refine ⟨_, rfl, ?_⟩
  refine hK.out _ _ ⟨(B4.out.at4.cell 1).trans rfl, (B4.out.at4.cell 2).trans rfl, (B4.out.at4.cell 3).trans rfl, (B4.out.at4.cell 4).trans rfl, (B4.out.at4.cell 6).trans rfl, (B4.out.at4.cell 7).trans rfl⟩ (fun hHeld => ?_)
  clear hK K
  refine norm_ (a' := ?_) ?_ ?_
  rotate_left
  · show Act.put _ (some 34) _ = _
    simp only [aP]
    rfl
  refine pu_ 29 39 ?_ #[J,J,J,J,J,J,J,J,J,J,J,J,J,J,J,J,J,J,J,J,J,J,J,J,J,J,J,J,J,J,Z,Z,Z,Z,Z,Z,Z,Z,Z,Z,Z,Z] rfl rfl ?_ ?_ ?_ ?_
  rotate_left
  · intro w'
    go_simp
    with_reducible rfl
  rotate_left
  · simp only [aP]
    rfl
  refine pu_ 30 40 ?_ #[J,J,J,J,J,J,J,J,J,J,J,J,J,J,J,J,J,J,J,J,J,J,J,J,J,J,J,J,J,J,J,Z,Z,Z,Z,Z,Z,Z,Z,Z,Z,Z] rfl rfl ?_ ?_ ?_ ?_
  rotate_left
  · intro w'
    go_simp
    with_reducible rfl
  rotate_left
  · simp only [aP]
    rfl
  refine pu_ 31 41 ?_ #[J,J,J,J,J,J,J,J,J,J,J,J,J,J,J,J,J,J,J,J,J,J,J,J,J,J,J,J,J,J,J,J,Z,Z,Z,Z,Z,Z,Z,Z,Z,Z] rfl rfl ?_ ?_ ?_ ?_
  rotate_left
  · intro w'
    go_simp
    with_reducible rfl
  rotate_left
  · simp only [aP]
    rfl
  refine pu_ 32 42 ?_ #[J,J,J,J,J,J,J,J,J,J,J,J,J,J,J,J,J,J,J,J,J,J,J,J,J,J,J,J,J,J,J,J,J,Z,Z,Z,Z,Z,Z,Z,Z,Z] rfl rfl ?_ ?_ ?_ ?_
  rotate_left
  · intro w'
    go_simp
    with_reducible rfl
  rotate_left
  · simp only [aP]
    rfl
  refine pu_ 35 45 ?_ #[J,J,J,J,J,J,J,J,J,J,J,J,J,J,J,J,J,J,J,J,J,J,J,J,J,J,J,J,J,J,J,J,J,Z,Z,J,Z,Z,Z,Z,Z,Z] rfl rfl ?_ ?_ ?_ ?_
  rotate_left
  · intro w'
    go_simp
    with_reducible rfl
  rotate_left
  · simp only [aP]
    rfl
  refine pu_ 36 46 ?_ #[J,J,J,J,J,J,J,J,J,J,J,J,J,J,J,J,J,J,J,J,J,J,J,J,J,J,J,J,J,J,J,J,J,Z,Z,J,J,Z,Z,Z,Z,Z] rfl rfl ?_ ?_ ?_ ?_
  rotate_left
  · intro w'
    go_simp
    with_reducible rfl
  rotate_left
  · simp only [aP]
    rfl
  refine pu_ 37 47 ?_ #[J,J,J,J,J,J,J,J,J,J,J,J,J,J,J,J,J,J,J,J,J,J,J,J,J,J,J,J,J,J,J,J,J,Z,Z,J,J,J,Z,Z,Z,Z] rfl rfl ?_ ?_ ?_ ?_
  rotate_left
  · intro w'
    go_simp
    with_reducible rfl
  rotate_left
  · simp only [aP]
    rfl
  refine ta_ 38 48 ?_ #[J,J,J,J,J,J,J,J,J,J,J,J,J,J,J,J,J,J,J,J,J,J,J,J,J,J,J,J,J,J,J,J,J,Z,Z,J,J,J,J,Z,Z,Z] rfl rfl ?_ hHeld ?_ ?_ ?_
  rotate_left
  · rintro w' ⟨s0, s1, s2, s3, s4, s5⟩
    go_simp
    with_reducible rfl
  rotate_left
  · simp only [aP]
    rfl
  refine pu_ 39 49 ?_ #[J,J,J,J,J,J,J,J,J,J,J,J,J,J,J,J,J,J,J,J,J,J,J,J,J,J,J,J,J,J,J,J,J,Z,Z,J,J,J,J,J,Z,Z] rfl rfl ?_ ?_ ?_ ?_
  rotate_left
  · intro w'
    go_simp
    with_reducible rfl
  rotate_left
  · simp only [aP]
    rfl
  refine one_ (i := 33) (N := some 43) #[J,J,J,J,J,J,J,J,J,J,J,J,J,J,J,J,J,J,J,J,J,J,J,J,J,J,J,J,J,J,J,J,J,J,Z,J,J,J,J,J,Z,Z] rfl rfl (by kernel_rfl) (by decide) (fun K hK => ?_)
  refine goes_ Tryz.func25 (by kernel_rfl) rfl #[.pointer (some ⟨gs, 0, none⟩)] (by rfl) rfl rfl (by simp only [List.map_toArray, List.map_cons, List.map_nil]; rfl) ?_
  with_reducible refine (all_ B4.out.at3 (by rw [HN.out]; have := HP.out.1; omega) HP.out.2).mono ?_
  rintro e w6 ⟨v6, rfl, hS6⟩
  refine ⟨_, rfl, ?_⟩
  obtain ⟨A6, c6, rfl⟩ := Sep.rowVN hS6 HN.out
  have B6 := Aside0.mk hS6.tail
  clear hS6
  refine hK.out _ _ ⟨(B6.out.at4.cell 1).trans rfl, (B6.out.at4.cell 2).trans rfl, (B6.out.at4.cell 3).trans rfl, (B6.out.at4.cell 4).trans rfl, (B6.out.at4.cell 6).trans rfl, (B6.out.at4.cell 7).trans rfl⟩ (fun hHeld => ?_)
  clear hK K
  refine norm_ (a' := ?_) ?_ ?_
  rotate_left
  · show Act.put _ (some 43) _ = _
    simp only [aP]
    rfl
  refine pu_ 34 44 ?_ #[J,J,J,J,J,J,J,J,J,J,J,J,J,J,J,J,J,J,J,J,J,J,J,J,J,J,J,J,J,J,J,J,J,J,J,J,J,J,J,J,Z,Z] rfl rfl ?_ ?_ ?_ ?_
  rotate_left
  · intro w'
    go_simp
    with_reducible rfl
  rotate_left
  · simp only [aP]
    rfl
  refine pu_ 40 50 ?_ #[J,J,J,J,J,J,J,J,J,J,J,J,J,J,J,J,J,J,J,J,J,J,J,J,J,J,J,J,J,J,J,J,J,J,J,J,J,J,J,J,J,Z] rfl rfl ?_ ?_ ?_ ?_
  rotate_left
  · intro w'
    go_simp
    with_reducible rfl
  rotate_left
  · simp only [aP]
    rfl
  refine pu_ 41 51 ?_ #[J,J,J,J,J,J,J,J,J,J,J,J,J,J,J,J,J,J,J,J,J,J,J,J,J,J,J,J,J,J,J,J,J,J,J,J,J,J,J,J,J,J] rfl rfl ?_ ?_ ?_ ?_
  rotate_left
  · intro w'
    go_simp
    with_reducible rfl
  rotate_left
  · simp only [aP]
    rfl
  refine done_ (by kernel_rfl) ?_
  have z4 := (B6.out.at4.cell 4).trans rfl
  have C6 : Aside0 (Sep w0 w6 (StB gs g m a b ep pages named used seq :: Blk gx 87 #[.pointer (some ⟨gr, 0, none⟩), .int .i64 a, .int .i64 b, .int .u32 ep, .slice (some ⟨gp, 0, none⟩) N cp, .slice (some ⟨gn, 0, none⟩) N cn, .int .i64 (used : Int), .int .u32 (seq : Int)] :: Row KV 24 (.slice (some ⟨gp, 0, none⟩) N cp) cs :: Fx (EachV KP pages cs) :: Dsk g las wt :: RT gr n las wt d :: Row BK 4 (.slice (some ⟨gn, 0, none⟩) N cn) nm :: F)) := ⟨Sep.push [_, _, _, _] (Sep.pull [_] (Sep.push [_, _, _, _, _] (Sep.pull [_, _] B6.out)))⟩
  clear B6 B4 B3 B0
  have hN64 : N ≤ 64 := HP.out.1
  go_wp2_with fail
  clear z4
  go_loopg [57] N (fun k_ p wr => ∃ (j : Nat), p = .int .i64 (j : Int) ∧ j + k_ = N ∧ Sep w0 wr (StB gs g m a b ep pages named used seq :: Blk gx 87 #[.pointer (some ⟨gr, 0, none⟩), .int .i64 a, .int .i64 b, .int .u32 ep, .slice (some ⟨gp, 0, none⟩) N cp, .slice (some ⟨gn, 0, none⟩) N cn, .int .i64 (used : Int), .int .u32 (seq : Int)] :: Row KV 24 (.slice (some ⟨gp, 0, none⟩) N cp) cs :: Fx (EachV KP pages cs) :: Dsk g las wt :: RT gr n las wt d :: Row BK 4 (.slice (some ⟨gn, 0, none⟩) N cn) nm :: F))
  case atStart => exact ⟨0, rfl, by omega, C6.out⟩
  case round =>
    obtain ⟨j, rfl, hjk, hS⟩ := hrel
    obtain ⟨w7, rfl⟩ : ∃ x, x = wr := ⟨_, rfl⟩
    have AK := Aside0.mk hjk
    have AS := Aside0.mk hS
    clear hS
    by_cases cj : j < N
    case neg =>
      obtain rfl : j = N := by omega
      have hjl : ¬ (j : Int) < (j : Int) := by omega
      clear hjk cj
      go_wp2_with fail
      go_ret
      refine ⟨by first | rfl | (simp; done), ?_⟩
      have h1 := Sep.rowV_shut (Sep.pull [_, _, _] (Sep.pull [_, _, _] AS.out))
      have h2 := Sep.pull [_] (Sep.pull [_, _] (Sep.pull [_, _, _] (Sep.pull [_, _, _, _, _] h1)))
      have h3 := rstb_shut HPP.out h2
      exact Sep.push [_, _] (Sep.pull [_, _, _] (Sep.pull [_, _, _] (Sep.pull [_, _, _] h3)))
    case pos =>
    have hjl : (j : Int) < (N : Int) := by omega
    have hkp : j < pages.length := by rw [HN.out]; exact cj
    have BD := Aside0.mk AS.out.drew
    obtain ⟨hc', B, cB, hov, hlc⟩ := ov_at BD.out.at4.fx hkp
    have HCX : Aside0 (∀ W', EachV KP pages cs W' → (Kd.int .u8).C W' B (pages[j]).length pages[j]) := ⟨fun W' hE => ov_C hE hkp hc' hov⟩
    have HXL := Aside0.mk (HP.out.2 _ (List.getElem_mem hkp))
    obtain ⟨L, hL⟩ : ∃ L, (pages[j]).length = L := ⟨_, rfl⟩
    rw [hL] at hov HCX
    have HOV : Aside0 (∃ hc : j < cs.length, (cs[j]).1 = .slice B L cB) := ⟨⟨hc', hov⟩⟩
    obtain ⟨s, hs⟩ : ∃ s, strOfNums pages[j] = s := ⟨_, rfl⟩
    have HSX : Aside0 (∀ W', EachV KP pages cs W' → (convert 24 9 (.slice B L cB)).run Tryz.prog W' = .ok (.string s) W') := ⟨fun W' hE => (Str.strC (c := cB) (HCX.out W' hE)).trans (by rw [hs])⟩
    have HJP : Aside0 (∃ hj : j < pages.length, strOfNums pages[j] = s) := ⟨⟨hkp, hs⟩⟩
    clear hjk hov hlc hc' hL hs HCX HXL hkp
    go_wp2_with fail
    refine start_ (n := 30) (S := fun w' => w'.cell? ⟨gx, 4, none⟩ = some (.slice (some ⟨gp, 0, none⟩) N cp) ∧ w'.cell? ⟨gp, j, none⟩ = some (.slice B L cB) ∧ (convert 24 9 (.slice B L cB)).run Tryz.prog w' = .ok (.string s) w') (ds := []) #[Z,Z,Z,Z,Z,Z,Z,Z,Z,Z,Z,Z,Z,Z,Z,Z,Z,Z,Z,Z,Z,Z,Z,Z,Z,Z,Z,Z,Z,Z] (by kernel_rfl) rfl rfl ⟨(BD.out.at2.cell 4).trans rfl, kv_cell BD.out.at3 cj HOV.out.1 HOV.out.2, HSX.out _ BD.out.at4.fx⟩ (fun hHeld => ?_)
    refine pu_ 0 60 ?_ #[J,Z,Z,Z,Z,Z,Z,Z,Z,Z,Z,Z,Z,Z,Z,Z,Z,Z,Z,Z,Z,Z,Z,Z,Z,Z,Z,Z,Z,Z] rfl rfl ?_ ?_ ?_ ?_
    rotate_left
    · intro w'
      go_simp
      with_reducible rfl
    rotate_left
    · simp only [aP]
      rfl
    refine pu_ 1 61 ?_ #[J,J,Z,Z,Z,Z,Z,Z,Z,Z,Z,Z,Z,Z,Z,Z,Z,Z,Z,Z,Z,Z,Z,Z,Z,Z,Z,Z,Z,Z] rfl rfl ?_ ?_ ?_ ?_
    rotate_left
    · intro w'
      go_simp
      with_reducible rfl
    rotate_left
    · simp only [aP]
      rfl
    refine pu_ 4 64 ?_ #[J,J,Z,Z,J,Z,Z,Z,Z,Z,Z,Z,Z,Z,Z,Z,Z,Z,Z,Z,Z,Z,Z,Z,Z,Z,Z,Z,Z,Z] rfl rfl ?_ ?_ ?_ ?_
    rotate_left
    · intro w'
      go_simp
      with_reducible rfl
    rotate_left
    · simp only [aP]
      rfl
    refine pu_ 5 65 ?_ #[J,J,Z,Z,J,J,Z,Z,Z,Z,Z,Z,Z,Z,Z,Z,Z,Z,Z,Z,Z,Z,Z,Z,Z,Z,Z,Z,Z,Z] rfl rfl ?_ ?_ ?_ ?_
    rotate_left
    · intro w'
      go_simp
      with_reducible rfl
    rotate_left
    · simp only [aP]
      rfl
    refine pu_ 6 66 ?_ #[J,J,Z,Z,J,J,J,Z,Z,Z,Z,Z,Z,Z,Z,Z,Z,Z,Z,Z,Z,Z,Z,Z,Z,Z,Z,Z,Z,Z] rfl rfl ?_ ?_ ?_ ?_
    rotate_left
    · intro w'
      go_simp
      with_reducible rfl
    rotate_left
    · simp only [aP]
      rfl
    refine pu_ 8 68 ?_ #[J,J,Z,Z,J,J,J,Z,J,Z,Z,Z,Z,Z,Z,Z,Z,Z,Z,Z,Z,Z,Z,Z,Z,Z,Z,Z,Z,Z] rfl rfl ?_ ?_ ?_ ?_
    rotate_left
    · intro w'
      go_simp
      with_reducible rfl
    rotate_left
    · simp only [aP]
      rfl
    refine ta_ 7 67 ?_ #[J,J,Z,Z,J,J,J,J,J,Z,Z,Z,Z,Z,Z,Z,Z,Z,Z,Z,Z,Z,Z,Z,Z,Z,Z,Z,Z,Z] rfl rfl ?_ hHeld ?_ ?_ ?_
    rotate_left
    · rintro w' ⟨s0, s1, s2⟩
      go_simp
      with_reducible rfl
    rotate_left
    · simp only [aP]
      rfl
    refine pu_ 9 69 ?_ #[J,J,Z,Z,J,J,J,J,J,J,Z,Z,Z,Z,Z,Z,Z,Z,Z,Z,Z,Z,Z,Z,Z,Z,Z,Z,Z,Z] rfl rfl ?_ ?_ ?_ ?_
    rotate_left
    · intro w'
      go_simp
      with_reducible rfl
    rotate_left
    · simp only [aP]
      rfl
    refine ta_ 10 70 ?_ #[J,J,Z,Z,J,J,J,J,J,J,J,Z,Z,Z,Z,Z,Z,Z,Z,Z,Z,Z,Z,Z,Z,Z,Z,Z,Z,Z] rfl rfl ?_ hHeld ?_ ?_ ?_
    rotate_left
    · rintro w' ⟨s0, s1, s2⟩
      go_simp
      with_reducible rfl
    rotate_left
    · simp only [aP]
      rfl
    refine ta_ 11 71 ?_ #[J,J,Z,Z,J,J,J,J,J,J,J,J,Z,Z,Z,Z,Z,Z,Z,Z,Z,Z,Z,Z,Z,Z,Z,Z,Z,Z] rfl rfl ?_ hHeld ?_ ?_ ?_
    rotate_left
    · rintro w' ⟨s0, s1, s2⟩
      go_simp
      with_reducible rfl
    rotate_left
    · simp only [aP]
      rfl
    refine one_ (i := 2) (N := some 62) #[J,J,J,Z,J,J,J,J,J,J,J,J,Z,Z,Z,Z,Z,Z,Z,Z,Z,Z,Z,Z,Z,Z,Z,Z,Z,Z] rfl rfl (by kernel_rfl) (by decide) (fun K hK => ?_)
    refine goes_ Tryz.func49 (by kernel_rfl) rfl #[.pointer (some ⟨gs, 0, none⟩), .int .i64 (j : Int)] (by rfl) rfl rfl (by simp only [List.map_toArray, List.map_cons, List.map_nil]; rfl) ?_
    with_reducible refine (page_in BD.out j HJP.out.1 (HP.out.2 _ (List.getElem_mem HJP.out.1)) (by rw [HN.out]; have := HP.out.1; omega)).mono ?_
    rintro e w8 ⟨v8, rfl, hS8⟩
    refine ⟨_, rfl, ?_⟩
    obtain ⟨A8, c8, rfl⟩ := hS8.rowV
    have hs8 := Str.strC (c := c8) hS8.rowC'
    rw [HJP.out.2] at hs8
    have B8 := Aside0.mk hS8.tail
    clear hS8
    refine hK.out _ _ ⟨(B8.out.at2.cell 4).trans rfl, kv_cell B8.out.at3 cj HOV.out.1 HOV.out.2, HSX.out _ B8.out.at4.fx⟩ (fun hHeld => ?_)
    clear hK K
    refine norm_ (a' := ?_) ?_ ?_
    rotate_left
    · show Act.put _ (some 62) _ = _
      simp only [aP]
      rfl
    refine one_ (i := 3) (N := some 63) #[J,J,J,J,J,J,J,J,J,J,J,J,Z,Z,Z,Z,Z,Z,Z,Z,Z,Z,Z,Z,Z,Z,Z,Z,Z,Z] rfl rfl (by kernel_rfl) (by decide) (fun K hK => ?_)
    refine value_ (w1 := ?_) (v := ?_) (by rfl) rfl ?_ ?_
    rotate_left 2
    · go_simp
      constructor
      · rfl
      · rfl
    refine hK.out _ _ ⟨(B8.out.at2.cell 4).trans rfl, kv_cell B8.out.at3 cj HOV.out.1 HOV.out.2, HSX.out _ B8.out.at4.fx⟩ (fun hHeld => ?_)
    clear hK K
    refine norm_ (a' := ?_) ?_ ?_
    rotate_left
    · show Act.put _ (some 63) _ = _
      simp only [aP]
      rfl
    refine pu_ 12 72 ?_ #[J,J,J,J,J,J,J,J,J,J,J,J,J,Z,Z,Z,Z,Z,Z,Z,Z,Z,Z,Z,Z,Z,Z,Z,Z,Z] rfl rfl ?_ ?_ ?_ ?_
    rotate_left
    · intro w'
      go_simp
      with_reducible rfl
    rotate_left
    · simp only [aP]
      rfl
    refine pu_ 13 73 ?_ #[J,J,J,J,J,J,J,J,J,J,J,J,J,J,Z,Z,Z,Z,Z,Z,Z,Z,Z,Z,Z,Z,Z,Z,Z,Z] rfl rfl ?_ ?_ ?_ ?_
    rotate_left
    · intro w'
      go_simp
      with_reducible rfl
    rotate_left
    · simp only [aP]
      rfl
    refine pu_ 14 74 ?_ #[J,J,J,J,J,J,J,J,J,J,J,J,J,J,J,Z,Z,Z,Z,Z,Z,Z,Z,Z,Z,Z,Z,Z,Z,Z] rfl rfl ?_ ?_ ?_ ?_
    rotate_left
    · intro w'
      go_simp
      with_reducible rfl
    rotate_left
    · simp only [aP]
      rfl
    refine pu_ 16 76 ?_ #[J,J,J,J,J,J,J,J,J,J,J,J,J,J,J,Z,J,Z,Z,Z,Z,Z,Z,Z,Z,Z,Z,Z,Z,Z] rfl rfl ?_ ?_ ?_ ?_
    rotate_left
    · intro w'
      go_simp
      with_reducible rfl
    rotate_left
    · simp only [aP]
      rfl
    refine pu_ 20 80 ?_ #[J,J,J,J,J,J,J,J,J,J,J,J,J,J,J,Z,J,Z,Z,Z,J,Z,Z,Z,Z,Z,Z,Z,Z,Z] rfl rfl ?_ ?_ ?_ ?_
    rotate_left
    · intro w'
      go_simp
      with_reducible rfl
    rotate_left
    · simp only [aP]
      rfl
    refine pu_ 21 81 ?_ #[J,J,J,J,J,J,J,J,J,J,J,J,J,J,J,Z,J,Z,Z,Z,J,J,Z,Z,Z,Z,Z,Z,Z,Z] rfl rfl ?_ ?_ ?_ ?_
    rotate_left
    · intro w'
      go_simp
      with_reducible rfl
    rotate_left
    · simp only [aP]
      rfl
    refine pu_ 22 82 ?_ #[J,J,J,J,J,J,J,J,J,J,J,J,J,J,J,Z,J,Z,Z,Z,J,J,J,Z,Z,Z,Z,Z,Z,Z] rfl rfl ?_ ?_ ?_ ?_
    rotate_left
    · intro w'
      go_simp
      with_reducible rfl
    rotate_left
    · simp only [aP]
      rfl
    refine pu_ 24 84 ?_ #[J,J,J,J,J,J,J,J,J,J,J,J,J,J,J,Z,J,Z,Z,Z,J,J,J,Z,J,Z,Z,Z,Z,Z] rfl rfl ?_ ?_ ?_ ?_
    rotate_left
    · intro w'
      go_simp
      with_reducible rfl
    rotate_left
    · simp only [aP]
      rfl
    refine ta_ 23 83 ?_ #[J,J,J,J,J,J,J,J,J,J,J,J,J,J,J,Z,J,Z,Z,Z,J,J,J,J,J,Z,Z,Z,Z,Z] rfl rfl ?_ hHeld ?_ ?_ ?_
    rotate_left
    · rintro w' ⟨s0, s1, s2⟩
      go_simp
      with_reducible rfl
    rotate_left
    · simp only [aP]
      rfl
    refine pu_ 25 85 ?_ #[J,J,J,J,J,J,J,J,J,J,J,J,J,J,J,Z,J,Z,Z,Z,J,J,J,J,J,J,Z,Z,Z,Z] rfl rfl ?_ ?_ ?_ ?_
    rotate_left
    · intro w'
      go_simp
      with_reducible rfl
    rotate_left
    · simp only [aP]
      rfl
    refine ta_ 26 86 ?_ #[J,J,J,J,J,J,J,J,J,J,J,J,J,J,J,Z,J,Z,Z,Z,J,J,J,J,J,J,J,Z,Z,Z] rfl rfl ?_ hHeld ?_ ?_ ?_
    rotate_left
    · rintro w' ⟨s0, s1, s2⟩
      go_simp
      with_reducible rfl
    rotate_left
    · simp only [aP]
      rfl
    refine ta_ 27 87 ?_ #[J,J,J,J,J,J,J,J,J,J,J,J,J,J,J,Z,J,Z,Z,Z,J,J,J,J,J,J,J,J,Z,Z] rfl rfl ?_ hHeld ?_ ?_ ?_
    rotate_left
    · rintro w' ⟨s0, s1, s2⟩
      go_simp
      with_reducible rfl
    rotate_left
    · simp only [aP]
      rfl
    refine one_ (i := 15) (N := some 75) #[J,J,J,J,J,J,J,J,J,J,J,J,J,J,J,J,J,Z,Z,Z,J,J,J,J,J,J,J,J,Z,Z] rfl rfl (by kernel_rfl) (by decide) (fun K hK => ?_)
    refine goes_ Tryz.func25 (by kernel_rfl) rfl #[.pointer (some ⟨gs, 0, none⟩)] (by rfl) rfl rfl (by simp only [List.map_toArray, List.map_cons, List.map_nil]; rfl) ?_
    with_reducible refine (all_ B8.out (by rw [HN.out]; have := HP.out.1; omega) HP.out.2).mono ?_
    rintro e w9 ⟨v9, rfl, hS9⟩
    refine ⟨_, rfl, ?_⟩
    obtain ⟨A9, c9, rfl⟩ := Sep.rowVN hS9 HN.out
    obtain ⟨ga, rfl⟩ := hS9.rowVForm (by omega)
    obtain ⟨cs9, hS9b⟩ := hS9.rowV_open
    obtain ⟨hc9, B9, cB9, hov9, hlc9⟩ := ov_at hS9b.at2.fx HJP.out.1
    have hq9 := kv_cell hS9b cj hc9 hov9
    have hs9 := (Str.strC (c := cB9) (ov_C hS9b.at2.fx HJP.out.1 hc9 hov9)).trans (by rw [HJP.out.2])
    have B9' := Aside0.mk hS9b.tail.tail
    clear hS9 hS9b
    refine hK.out _ _ ⟨(B9'.out.at2.cell 4).trans rfl, kv_cell B9'.out.at3 cj HOV.out.1 HOV.out.2, HSX.out _ B9'.out.at4.fx⟩ (fun hHeld => ?_)
    clear hK K
    refine norm_ (a' := ?_) ?_ ?_
    rotate_left
    · show Act.put _ (some 75) _ = _
      simp only [aP]
      rfl
    refine pu_ 17 77 ?_ #[J,J,J,J,J,J,J,J,J,J,J,J,J,J,J,J,J,J,Z,Z,J,J,J,J,J,J,J,J,Z,Z] rfl rfl ?_ ?_ ?_ ?_
    rotate_left
    · intro w'
      go_simp
      with_reducible rfl
    rotate_left
    · simp only [aP]
      rfl
    refine one_ (i := 18) (N := some 78) #[J,J,J,J,J,J,J,J,J,J,J,J,J,J,J,J,J,J,J,Z,J,J,J,J,J,J,J,J,Z,Z] rfl rfl (by kernel_rfl) (by decide) (fun K hK => ?_)
    refine value_ (w1 := ?_) (v := ?_) (by rfl) rfl ?_ ?_
    rotate_left 2
    · go_simp
      constructor
      · rfl
      · rfl
    refine hK.out _ _ ⟨(B9'.out.at2.cell 4).trans rfl, kv_cell B9'.out.at3 cj HOV.out.1 HOV.out.2, HSX.out _ B9'.out.at4.fx⟩ (fun hHeld => ?_)
    clear hK K
    refine norm_ (a' := ?_) ?_ ?_
    rotate_left
    · show Act.put _ (some 78) _ = _
      simp only [aP]
      rfl
    refine one_ (i := 19) (N := some 79) #[J,J,J,J,J,J,J,J,J,J,J,J,J,J,J,J,J,J,J,J,J,J,J,J,J,J,J,J,Z,Z] rfl rfl (by kernel_rfl) (by decide) (fun K hK => ?_)
    refine value_ (w1 := ?_) (v := ?_) (by rfl) rfl ?_ ?_
    rotate_left 2
    · go_simp
      constructor
      · rfl
      · rfl
    refine hK.out _ _ ⟨(B9'.out.at2.cell 4).trans rfl, kv_cell B9'.out.at3 cj HOV.out.1 HOV.out.2, HSX.out _ B9'.out.at4.fx⟩ (fun hHeld => ?_)
    clear hK K
    refine norm_ (a' := ?_) ?_ ?_
    rotate_left
    · show Act.put _ (some 79) _ = _
      simp only [aP]
      rfl
    refine pu_ 28 88 ?_ #[J,J,J,J,J,J,J,J,J,J,J,J,J,J,J,J,J,J,J,J,J,J,J,J,J,J,J,J,J,Z] rfl rfl ?_ ?_ ?_ ?_
    rotate_left
    · intro w'
      go_simp
      with_reducible rfl
    rotate_left
    · simp only [aP]
      rfl
    refine pu_ 29 89 ?_ #[J,J,J,J,J,J,J,J,J,J,J,J,J,J,J,J,J,J,J,J,J,J,J,J,J,J,J,J,J,J] rfl rfl ?_ ?_ ?_ ?_
    rotate_left
    · intro w'
      go_simp
      with_reducible rfl
    rotate_left
    · simp only [aP]
      rfl
    refine done_ (by kernel_rfl) ?_
    go_wp2_with fail
    go_roundg (gk - 1)
    case measure => have := AK.out; omega
    case rel => exact ⟨j + 1, by go_num, by have := AK.out; omega, B9'.out⟩
end
end Go.Proofs.YtjngnigelkgekaaGreat.RStore
namespace Go.Proofs.YtjngnigelkgekaaGreat.Store
open Go.RowKit Go.Proofs.YtjngnigelkgekaaGreatW.PrintWords Go.Proofs.YtjngnigelkgekaaGreatW.PrintLast Go.Proofs.YtjngnigelkgekaaGreatW.PrintMore Go.Proofs.YtjngnigelkgekaaGreat.Kit Go.Proofs.YtjngnigelkgekaaGreat.Plain Go.Proofs.YtjngnigelkgekaaGreat.Disk Go.Proofs.YtjngnigelkgekaaGreat.Root
section
variable {w0 W : World} {F : List HP} {g n : Nat} {las : List Int} {wt : Wt}
set_option maxHeartbeats 3200000 in
set_option maxRecDepth 100000 in
theorem found_full (h : Sep w0 W (Dsk g las wt :: F)) (hl : las.length = 64 * n) (hn : n ≤ 160) (hw : ∀ i b, wt i = some b → b.length = 64) (hb : ∀ j, Bytes (secF n las wt j)) (h0 : (bestTo n (secF n las wt) 2).2.2 = 4294967295) :
    Calls Tryz.prog 62 #[.pointer (some ⟨g, 0, none⟩)] W fun e w' => e = .returned (.tuple #[.agg #[.int .i64 0, .int .i64 0, .int .u32 0], .slice none 0 0, .slice none 0 0, .int .i64 24]) ∧ Sep w0 w' (Dsk g las wt :: F) := by
  have A0 := Aside0.mk (h.newBlk 80 #[.int .i64 0, .int .i64 0, .int .u32 0])
  have HL := Aside0.mk (And.intro hl (And.intro hn (And.intro hw hb)))
  obtain ⟨a, b, ep, hr⟩ : ∃ a b ep, bestTo n (secF n las wt) 2 = (a, b, ep) := ⟨_, _, _, rfl⟩
  rw [hr] at h0
  have h0' : ep = 4294967295 := h0
  subst h0'
  have HR := Aside0.mk hr
  have hd0 : decide ((0 : Int) < 4294967295) = true := by decide
  obtain ⟨p2, hp2⟩ : ∃ p, W.heap.size = p := ⟨_, rfl⟩
  rw [hp2] at A0
  clear h hl hn hw hb hr h0
  go_enter Tryz.func62, Tryz.ntmps62
  go_wp2_with fail
  refine (best_ A0.out.at2 HL.out.1 HL.out.2.1 HL.out.2.2.1 HL.out.2.2.2).mono ?_
  rintro e w2 ⟨rfl, hS2⟩
  rw [HR.out]
  have B2 := Aside0.mk hS2.at2
  clear hS2 hp2
  have B3 := Aside0.mk (B2.out.alloc (.cells #[.int .i64 a, .int .i64 b, .int .u32 4294967295] 80))
  obtain ⟨d0, f0, d1, f1, d2, f2, hS4⟩ := store3 (.int .i64 0) (.int .i64 0) (.int .u32 0) B3.out
  have B4 := Aside0.mk hS4
  clear hS4
  have q0 := (B4.out.cell 0).trans rfl
  have q1 := (B4.out.cell 1).trans rfl
  have q2 := (B4.out.cell 2).trans rfl
  unfold rootV
  go_wp2_with fail
  go_retc4 (.tuple #[.agg #[.int .i64 0, .int .i64 0, .int .u32 0], .slice none 0 0, .slice none 0 0, .int .i64 24])
  exact ⟨rfl, B4.out.tail⟩
set_option maxHeartbeats 1600000 in
set_option maxRecDepth 100000 in
theorem open_full (h : Sep w0 W (Dsk g las wt :: F)) (hl : las.length = 64 * n) (hn : n ≤ 160) (hw : ∀ i b, wt i = some b → b.length = 64) (hb : ∀ j, Bytes (secF n las wt j)) (h0 : (bestTo n (secF n las wt) 2).2.2 = 4294967295) :
    Calls Tryz.prog 24 #[.pointer (some ⟨g, 0, none⟩)] W fun e w' => e = .returned (.tuple #[.pointer none, .int .i64 24]) ∧ Sep w0 w' (Dsk g las wt :: F) := by
  have H0 := Aside0.mk h
  have HL := Aside0.mk (And.intro hl (And.intro hn (And.intro hw (And.intro hb h0))))
  clear h hl hn hw hb h0
  go_enter Tryz.func24, Tryz.ntmps24
  go_wp2_with fail
  refine (found_full H0.out HL.out.1 HL.out.2.1 HL.out.2.2.1 HL.out.2.2.2.1 HL.out.2.2.2.2).mono ?_
  rintro e w2 ⟨rfl, hS2⟩
  have B2 := Aside0.mk (hS2.alloc (.cells #[.int .i64 0, .int .i64 0, .int .u32 0] 80))
  clear hS2
  go_wp2_with fail
  go_ret2
  exact ⟨by first | rfl | (simp; done), B2.out⟩
end
end Go.Proofs.YtjngnigelkgekaaGreat.Store
namespace Go.Proofs.YtjngnigelkgekaaGreat.Store
open Go.RowKit Go.Proofs.YtjngnigelkgekaaGreatW.PrintWords Go.Proofs.YtjngnigelkgekaaGreatW.PrintLast Go.Proofs.YtjngnigelkgekaaGreatW.PrintMore Go.Proofs.YtjngnigelkgekaaGreat.Kit Go.Proofs.YtjngnigelkgekaaGreat.Plain Go.Proofs.YtjngnigelkgekaaGreat.Disk Go.Proofs.YtjngnigelkgekaaGreat.Root
open Go.Proofs.YtjngnigelkgekaaGreat.Delta (Chg KC deltaF rightF okF undeltaF)
open Go.Proofs.YtjngnigelkgekaaGreat.Redo (recR logF logF_bytes)
open Go.Proofs.YtjngnigelkgekaaGreat.Home (pagesF pageF putP mayF atF may_in)
open Go.Proofs.YtjngnigelkgekaaGreat.Frame (frameF frameF_len readF scanF scanR ScanAt scan_start scan_none scan_some recsF longs longs_app recs_bytes scan_facts recs_len longs_len)
theorem insK_keep {ks : List Int} {k x : Int} (h : x ∈ ks) : x ∈ insK ks k := by
  unfold insK
  split
  · exact h
  · exact List.mem_append_left _ h
theorem insK_new (ks : List Int) (k : Int) : k ∈ insK ks k := by
  unfold insK
  split
  · assumption
  · exact List.mem_append_right _ (List.mem_singleton.2 rfl)
theorem insAll_keep {x : Int} : ∀ (l : List Chg) {ks : List Int}, x ∈ ks → x ∈ insAll ks l
  | [], _, h => h
  | c :: r, ks, h => insAll_keep r (ks := insK ks c.1) (insK_keep h)
theorem insAll_new : ∀ (l : List Chg) {ks : List Int} {c : Chg}, c ∈ l → c.1 ∈ insAll ks l
  | d :: r, ks, c, h => by
    rcases List.mem_cons.1 h with rfl | h
    · exact insAll_keep r (insK_new ks c.1)
    · exact insAll_new r h
theorem insList_all {x : Int} : ∀ (l : List Int) {ks : List Int}, x ∈ l ∨ x ∈ ks → x ∈ insList ks l
  | [], ks, h => by
    rcases h with h | h
    · cases h
    · exact h
  | k :: t, ks, h => insList_all t (ks := insK ks k) (by
      rcases h with h | h
      · rcases List.mem_cons.1 h with rfl | h
        · exact .inr (insK_new _ _)
        · exact .inl h
      · exact .inr (insK_keep h))
def openN (rows : List (List Chg)) : List Int := insList [] (sortK (nmAll [] rows))
theorem openN_mem {rows : List (List Chg)} {x : Int} : x ∈ openN rows ↔ x ∈ nmAll [] rows := by
  unfold openN
  constructor
  · intro h
    rcases insList_mem _ h with h | h
    · cases h
    · exact (sortK_perm _).mem_iff.2 h
  · intro h
    exact insList_all _ (.inl ((sortK_perm _).mem_iff.1 h))
theorem applyOne_all {Q : List Int → Prop} {ps : List (List Int)} {c : Chg} (h : ∀ p ∈ ps, Q p) (hc : Q c.2) : ∀ p ∈ applyOne ps c, Q p := by
  unfold applyOne
  split
  · intro p hp
    rcases List.mem_or_eq_of_mem_set hp with h1 | rfl
    · exact h p h1
    · exact hc
  · exact h
theorem applyF_all {Q : List Int → Prop} : ∀ {l : List Chg} {ps : List (List Int)}, (∀ p ∈ ps, Q p) → (∀ c ∈ l, Q c.2) → ∀ p ∈ applyF ps l, Q p
  | [], _, h, _ => h
  | c :: r, _, h, hl => applyF_all (l := r) (applyOne_all h (hl c (List.mem_cons_self ..))) (fun x hx => hl x (List.mem_cons_of_mem _ hx))
theorem pgAll_all {Q : List Int → Prop} : ∀ {rows : List (List Chg)} {ps : List (List Int)}, (∀ p ∈ ps, Q p) → (∀ x ∈ rows, ∀ c ∈ x, Q c.2) → ∀ p ∈ pgAll ps rows, Q p
  | [], _, h, _ => h
  | x :: r, _, h, hl => pgAll_all (rows := r) (applyF_all h (hl x (List.mem_cons_self ..))) (fun y hy => hl y (List.mem_cons_of_mem _ hy))
end Go.Proofs.YtjngnigelkgekaaGreat.Store
namespace Go.Proofs.YtjngnigelkgekaaGreat.Store
open Go.RowKit Go.Proofs.YtjngnigelkgekaaGreatW.PrintWords Go.Proofs.YtjngnigelkgekaaGreatW.PrintLast Go.Proofs.YtjngnigelkgekaaGreatW.PrintMore Go.Proofs.YtjngnigelkgekaaGreat.Kit Go.Proofs.YtjngnigelkgekaaGreat.Plain Go.Proofs.YtjngnigelkgekaaGreat.Disk Go.Proofs.YtjngnigelkgekaaGreat.Root
open Go.Proofs.YtjngnigelkgekaaGreat.Delta (Chg KC deltaF rightF okF undeltaF)
open Go.Proofs.YtjngnigelkgekaaGreat.Redo (recR logF logF_bytes appR okA appW appW_flushed over_over sec_over_out logF_of)
open Go.Proofs.YtjngnigelkgekaaGreat.Home (pagesF pageF putP mayF atF may_in)
open Go.Proofs.YtjngnigelkgekaaGreat.Frame (frameF frameF_len readF scanF scanR ScanAt scan_start scan_none scan_some recsF longs longs_app recs_bytes scan_facts recs_len longs_len)
theorem putsW_at {n s : Nat} {z : List Int} (hz : z.length = 64) : ∀ (k : Nat) (wt : Wt), s + k ≤ n → ∀ i, putsW n s z k wt i = if s ≤ i ∧ i < s + k then some z else wt i
  | 0, wt, _, i => by rw [if_neg (by omega)]; rfl
  | k + 1, wt, h, i => by
    show putW n (putsW n s z k wt) (s + k) z i = _
    unfold putW
    rw [if_pos ⟨by omega, hz⟩, putsW_at hz k wt (by omega) i]
    by_cases h1 : i = s + k
    · rw [if_pos h1, if_pos (by omega)]
    · rw [if_neg h1]
      by_cases h2 : s ≤ i ∧ i < s + k
      · rw [if_pos h2, if_pos (by omega)]
      · rw [if_neg h2, if_neg (by omega)]
theorem putsW_bytes {n s : Nat} {z : List Int} (hz : Bytes z) : ∀ (k : Nat) {wt : Wt}, (∀ i b, wt i = some b → Bytes b) → ∀ i b, putsW n s z k wt i = some b → Bytes b
  | 0, _, h => h
  | k + 1, _, h => putW_bytes (putsW_bytes hz k h) hz
theorem unroot_zeros : unrootF zz64 = none := by decide +kernel
theorem lay_fmt {n a b : Nat} {las : List Int} {wt : Wt} (hl : las.length = 64 * n) (hb : Bytes las) (hw : ∀ i b, wt i = some b → b.length = 64) (hwb : ∀ i b, wt i = some b → Bytes b) (hr : rightR (a : Int) (b : Int) 1 n = true) :
    Lay n a b 1 (fmtL n las wt a b) ∧ (∀ i, i < a + b → sec (fmtL n las wt a b) (2 + i) = zz64) := by
  have hr' := of_decide_eq_true hr
  have hz : zz64.length = 64 := List.length_replicate
  have hzb : Bytes zz64 := zeros_bytes 64
  have w1 := putsW_len (n := n) (s := 0) (z := zz64) hw 2
  have w2 := putsW_len (n := n) (s := 2) (z := zz64) Ref.none_len (a + b)
  have b1 := putsW_bytes (n := n) (s := 0) hzb 2 hwb
  have b2 := putsW_bytes (n := n) (s := 2) hzb (a + b) no_bytes
  have e1 := putsW_at (n := n) (s := 0) hz 2 wt (by omega)
  have e2 := putsW_at (n := n) (s := 2) hz (a + b) noW (by omega)
  obtain ⟨L1, hL1⟩ : ∃ L, flushed las (putsW n 0 zz64 2 wt) = L := ⟨_, rfl⟩
  have l1 : L1.length = 64 * n := by rw [← hL1]; exact Ref.flushed_len hl w1
  have c1 : Bytes L1 := by rw [← hL1]; exact Redo.flushed_bytes hb b1
  have s1 : ∀ i, i < 2 → sec L1 i = zz64 := fun i hi => by
    rw [← hL1, Ref.sec_flushed hl w1 (by omega), e1, if_pos (by omega)]; rfl
  obtain ⟨L2, hL2⟩ : ∃ L, flushed L1 (putsW n 2 zz64 (a + b) noW) = L := ⟨_, rfl⟩
  have l2 : L2.length = 64 * n := by rw [← hL2]; exact Ref.flushed_len l1 w2
  have c2 : Bytes L2 := by rw [← hL2]; exact Redo.flushed_bytes c1 b2
  have s2 : ∀ i, i < 2 + a + b → sec L2 i = zz64 := fun i hi => by
    rw [← hL2, Ref.sec_flushed l1 w2 (by omega), e2]
    by_cases h : i < 2
    · rw [if_neg (by omega)]
      exact s1 i h
    · rw [if_pos (by omega)]; rfl
  have hrl := rootF_len (a : Int) (b : Int) 1
  have hw3 : putW n noW 1 (rootF (a : Int) (b : Int) 1) = fun j => if j = 1 then some (rootF (a : Int) (b : Int) 1) else noW j := by
    unfold putW
    rw [if_pos ⟨by omega, hrl⟩]
  have hF : fmtL n las wt a b = flushed L2 (putW n noW 1 (rootF (a : Int) (b : Int) 1)) := by
    unfold fmtL
    rw [m32_nat (by omega), m32_nat (by omega), hL1, hL2]
  have s3 : ∀ i, i < n → sec (flushed L2 (putW n noW 1 (rootF (a : Int) (b : Int) 1))) i = if i = 1 then rootF (a : Int) (b : Int) 1 else sec L2 i := fun i hi => by
    rw [Ref.sec_flushed l2 (putW_len Ref.none_len) hi, hw3]
    dsimp only
    split <;> rfl
  rw [hF]
  refine ⟨⟨Ref.flushed_len l2 (putW_len Ref.none_len), Redo.flushed_bytes c2 (putW_bytes no_bytes (rootF_bytes _ _ _)), by omega, ?_, ?_⟩, fun i hi => ?_⟩
  · show sec _ 1 = _
    rw [s3 1 (by omega), if_pos rfl]
  · show ∀ r, unrootF (sec _ 0) = some r → _
    rw [s3 0 (by omega), if_neg (by decide), s2 0 (by omega), unroot_zeros]
    intro r h
    cases h
  · rw [s3 _ (by omega), if_neg (by omega), s2 _ (by omega)]
theorem secs_zeros (a : Nat) : secs a (fun _ => zz64) = List.replicate (64 * a) 0 := by
  induction a with
  | zero => rfl
  | succ a ih => rw [secs_succ, ih, List.replicate_append_replicate, Nat.mul_succ]
structure Com (n a b : Nat) (E : Int) (p0 : List (List Int)) (ls : List (List Chg)) (G : List Int) : Prop where
  lay : Lay n a b E G
  pgs : pagesF n G noW (a : Int) (b : Int) E = p0
  log : logF n G noW (a : Int) (b : Int) E = framesF E (ls.map deltaF) ++ List.replicate (64 * a - longs (ls.map deltaF)) 0
  fit : longs (ls.map deltaF) ≤ 64 * a
  rgt : ∀ l ∈ ls, rightF l (b : Int) = true ∧ Bytes (deltaF l)
theorem Com.start {n a b : Nat} {las : List Int} {wt : Wt} (hl : las.length = 64 * n) (hb : Bytes las) (hw : ∀ i b, wt i = some b → b.length = 64) (hwb : ∀ i b, wt i = some b → Bytes b) (hr : rightR (a : Int) (b : Int) 1 n = true) :
    Com n a b 1 (List.replicate b zz64) [] (fmtL n las wt a b) := by
  obtain ⟨h1, h2⟩ := lay_fmt hl hb hw hwb hr
  have hr' := h1.rgt
  refine ⟨h1, ?_, ?_, Nat.zero_le _, fun l hl => by cases hl⟩
  · rw [h1.pages]
    apply List.ext_getElem (by simp)
    intro k k1 k2
    rw [List.length_replicate] at k2
    rw [List.getElem_map, List.getElem_range, List.getElem_replicate, Nat.add_assoc, h2 (a + k) (by omega)]
  · rw [h1.log]
    show _ = List.replicate (64 * a - 0) 0
    rw [Nat.sub_zero, ← secs_zeros]
    exact secs_congr (fun i hi => h2 i (by omega))
end Go.Proofs.YtjngnigelkgekaaGreat.Store
namespace Go.Proofs.YtjngnigelkgekaaGreat.Store
open Go.RowKit Go.Proofs.YtjngnigelkgekaaGreatW.PrintWords Go.Proofs.YtjngnigelkgekaaGreatW.PrintLast Go.Proofs.YtjngnigelkgekaaGreatW.PrintMore Go.Proofs.YtjngnigelkgekaaGreat.Kit Go.Proofs.YtjngnigelkgekaaGreat.Plain Go.Proofs.YtjngnigelkgekaaGreat.Disk Go.Proofs.YtjngnigelkgekaaGreat.Root
open Go.Proofs.YtjngnigelkgekaaGreat.Delta (Chg KC deltaF rightF okF undeltaF)
open Go.Proofs.YtjngnigelkgekaaGreat.Redo (recR logF logF_bytes appR okA appW appW_flushed over_over sec_over_out logF_of)
open Go.Proofs.YtjngnigelkgekaaGreat.Home (pagesF pageF putP mayF atF may_in)
open Go.Proofs.YtjngnigelkgekaaGreat.Frame (frameF frameF_len readF scanF scanR ScanAt scan_start scan_none scan_some recsF longs longs_app recs_bytes scan_facts recs_len longs_len)
section
variable {n a b k : Nat} {E : Int} {p0 : List (List Int)} {ls : List (List Chg)} {G las : List Int} {wt : Wt} {cuts : List Int}
theorem crash_mix (hl : las.length = 64 * n) (hw : ∀ i b, wt i = some b → b.length = 64) (p : Nat) : (crashed las wt cuts)[p]? = las[p]? ∨ (crashed las wt cuts)[p]? = (flushed las wt)[p]? := by
  unfold crashed flushed
  rw [show las.length / 64 = n by omega, secs_get (cutS_len hl hw), secs_get (fun i hi => Ref.got_len hl hw hi)]
  by_cases hp : p < 64 * n
  · rw [if_pos hp, if_pos hp]
    have hL : las[p]? = (sec las (p / 64))[p % 64]? := by rw [sec_get _ _ _ (by omega), show 64 * (p / 64) + p % 64 = p by omega]
    rw [hL]
    unfold cutS
    cases hwt : wt (p / 64) with
    | none => exact .inl rfl
    | some x =>
      have hx := hw _ _ hwt
      have hs : (sec las (p / 64)).length = 64 := sec_len (by omega)
      have hc := cutN_le cuts (rank wt (p / 64))
      dsimp only
      by_cases h : p % 64 < cutN cuts (rank wt (p / 64))
      · right
        rw [List.getElem?_append_left (by rw [List.length_take]; omega), List.getElem?_take, if_pos h]
        rfl
      · left
        rw [List.getElem?_append_right (by rw [List.length_take]; omega), List.length_take, List.getElem?_drop]
        congr 1
        omega
  · rw [if_neg hp]
    left
    rw [List.getElem?_eq_none (by omega)]
theorem crash_len (hl : las.length = 64 * n) (hw : ∀ i b, wt i = some b → b.length = 64) : (crashed las wt cuts).length = 64 * n := by
  unfold crashed
  rw [show las.length / 64 = n by omega]
  exact secs_len (cutS_len hl hw)
theorem crash_bytes (hl : las.length = 64 * n) (hw : ∀ i b, wt i = some b → b.length = 64) (h1 : Bytes las) (h2 : Bytes (flushed las wt)) : Bytes (crashed las wt cuts) := fun x hx => by
  obtain ⟨p, hp, rfl⟩ := List.getElem_of_mem hx
  have h3 := List.getElem?_eq_getElem hp
  rcases crash_mix (cuts := cuts) hl hw p with h | h
  · exact h1 _ (List.mem_of_getElem? (h ▸ h3))
  · exact h2 _ (List.mem_of_getElem? (h ▸ h3))
end
end Go.Proofs.YtjngnigelkgekaaGreat.Store
namespace Go.Proofs.YtjngnigelkgekaaGreat.Store
open Go.RowKit Go.Proofs.YtjngnigelkgekaaGreatW.PrintWords Go.Proofs.YtjngnigelkgekaaGreatW.PrintLast Go.Proofs.YtjngnigelkgekaaGreatW.PrintMore Go.Proofs.YtjngnigelkgekaaGreat.Kit Go.Proofs.YtjngnigelkgekaaGreat.Plain
open Go.Proofs.YtjngnigelkgekaaGreat.Redo (sizeF sizeF_in size_)
open Go.Proofs.YtjngnigelkgekaaGreat.Delta (needF need_ rneed_)
set_option maxHeartbeats 800000 in
set_option maxRecDepth 100000 in
theorem rfits_ (a b c : Int) (u n : Nat) (hu : (u : Int) ≤ sizeF a) (W : World) : Calls Tryz.prog 84 #[.agg #[.int .i64 a, .int .i64 b, .int .u32 c], .int .i64 (u : Int), .int .i64 (n : Int)] W fun e w' => e = .returned (.bool (fitsF a u n)) ∧ Below W.heap.size W w' := by
  have hn := need_in (n : Int)
  obtain ⟨q, hq⟩ : ∃ q, needF (n : Int) = q := ⟨_, rfl⟩
  rw [hq] at hn
  have HQ := Aside0.mk hq
  have HU := Aside0.mk hu
  have A0 := Aside0.mk ((Sep.start W).newBlk 80 #[.int .i64 a, .int .i64 b, .int .u32 c]).drew
  clear hq hu
  by_cases h0 : 0 < q
  case neg =>
    have hd : decide (0 < q) = false := decide_eq_false h0
    have HV : Aside0 (fitsF a u n = false) := ⟨by unfold fitsF; rw [HQ.out]; exact decide_eq_false (fun h => h0 h.1)⟩
    go_enter Tryz.func84, Tryz.ntmps84
    go_wp2_with fail
    refine start_ (n := 12) (S := fun w' => w'.cell? ⟨W.heap.size, 0, none⟩ = some (.int .i64 a) ∧ w'.cell? ⟨W.heap.size, 1, none⟩ = some (.int .i64 b) ∧ w'.cell? ⟨W.heap.size, 2, none⟩ = some (.int .u32 c)) (ds := []) #[Z,Z,Z,Z,Z,Z,Z,Z,Z,Z,Z,Z] (by kernel_rfl) rfl rfl ⟨(A0.out.cell 0).trans rfl, (A0.out.cell 1).trans rfl, (A0.out.cell 2).trans rfl⟩ (fun hHeld => ?_)
    refine pu_ 0 7 ?_ #[J,Z,Z,Z,Z,Z,Z,Z,Z,Z,Z,Z] rfl rfl ?_ ?_ ?_ ?_
    rotate_left
    · intro w'
      go_simp
      with_reducible rfl
    rotate_left
    · simp only [aP]
      rfl
    refine one_ (i := 1) (N := some 8) #[J,J,Z,Z,Z,Z,Z,Z,Z,Z,Z,Z] rfl rfl (by kernel_rfl) (by decide) (fun K hK => ?_)
    refine goes_ Tryz.func113 (by kernel_rfl) rfl #[.int .i64 (n : Int)] (by rfl) rfl rfl (by simp only [List.map_toArray, List.map_cons, List.map_nil]; rfl) ?_
    with_reducible refine (rneed_ (n : Int) _).mono ?_
    rintro e w1 ⟨rfl, rfl⟩
    refine ⟨_, rfl, ?_⟩
    rw [HQ.out]
    refine hK.out _ _ ⟨(A0.out.cell 0).trans rfl, (A0.out.cell 1).trans rfl, (A0.out.cell 2).trans rfl⟩ (fun hHeld => ?_)
    clear hK K
    refine norm_ (a' := ?_) ?_ ?_
    rotate_left
    · show Act.put _ (some 8) _ = _
      simp only [aP]
      rfl
    refine pu_ 2 9 ?_ #[J,J,J,Z,Z,Z,Z,Z,Z,Z,Z,Z] rfl rfl ?_ ?_ ?_ ?_
    rotate_left
    · intro w'
      go_simp
      with_reducible rfl
    rotate_left
    · simp only [aP]
      rfl
    refine pu_ 3 10 ?_ #[J,J,J,J,Z,Z,Z,Z,Z,Z,Z,Z] rfl rfl ?_ ?_ ?_ ?_
    rotate_left
    · intro w'
      go_simp
      with_reducible rfl
    rotate_left
    · simp only [aP]
      rfl
    refine pure_ (i := 4) (N := some 11) (v := undef) (a' := ?_) #[J,J,J,J,J,Z,Z,Z,Z,Z,Z,Z] rfl rfl (by kernel_rfl) (fun _ _ _ h => h) (Or.inr ⟨by rfl, rfl⟩) ?_ ?_
    rotate_left
    · simp only [aP]
      rfl
    refine pure_ (i := 5) (N := some 12) (v := undef) (a' := ?_) #[J,J,J,J,J,J,Z,Z,Z,Z,Z,Z] rfl rfl (by kernel_rfl) (fun _ _ _ h => h) (Or.inr ⟨by rfl, rfl⟩) ?_ ?_
    rotate_left
    · simp only [aP]
      rfl
    refine pure_ (i := 6) (N := some 13) (v := undef) (a' := ?_) #[J,J,J,J,J,J,J,Z,Z,Z,Z,Z] rfl rfl (by kernel_rfl) (fun _ _ _ h => h) (Or.inr ⟨by rfl, rfl⟩) ?_ ?_
    rotate_left
    · simp only [aP]
      rfl
    refine pure_ (i := 7) (N := some 14) (v := undef) (a' := ?_) #[J,J,J,J,J,J,J,J,Z,Z,Z,Z] rfl rfl (by kernel_rfl) (fun _ _ _ h => h) (Or.inr ⟨by rfl, rfl⟩) ?_ ?_
    rotate_left
    · simp only [aP]
      rfl
    refine pure_ (i := 8) (N := some 15) (v := undef) (a' := ?_) #[J,J,J,J,J,J,J,J,J,Z,Z,Z] rfl rfl (by kernel_rfl) (fun _ _ _ h => h) (Or.inr ⟨by rfl, rfl⟩) ?_ ?_
    rotate_left
    · simp only [aP]
      rfl
    refine pure_ (i := 9) (N := some 16) (v := undef) (a' := ?_) #[J,J,J,J,J,J,J,J,J,J,Z,Z] rfl rfl (by kernel_rfl) (fun _ _ _ h => h) (Or.inr ⟨by rfl, rfl⟩) ?_ ?_
    rotate_left
    · simp only [aP]
      rfl
    refine pu_ 10 17 ?_ #[J,J,J,J,J,J,J,J,J,J,J,Z] rfl rfl ?_ ?_ ?_ ?_
    rotate_left
    · intro w'
      go_simp
      with_reducible rfl
    rotate_left
    · simp only [aP]
      rfl
    refine pu_ 11 6 ?_ #[J,J,J,J,J,J,J,J,J,J,J,J] rfl rfl ?_ ?_ ?_ ?_
    rotate_left
    · intro w'
      go_simp
      with_reducible rfl
    rotate_left
    · simp only [aP]
      rfl
    refine done_ (by kernel_rfl) ?_
    go_wp2_with fail
    go_ret
    exact ⟨by rw [HV.out]; first | rfl | (simp; done), A0.out.tail.toBelow⟩
  case pos =>
  have hd : decide (0 < q) = true := decide_eq_true h0
  obtain ⟨s, hs⟩ : ∃ s, sizeF a - (u : Int) = s := ⟨_, rfl⟩
  have HV : Aside0 (fitsF a u n = decide (q ≤ s)) := ⟨by unfold fitsF; rw [HQ.out, hs]; by_cases h : q ≤ s <;> simp [h, h0]⟩
  have HS := Aside0.mk hs
  clear hs
  go_enter Tryz.func84, Tryz.ntmps84
  go_wp2_with fail
  refine start_ (n := 12) (S := fun w' => w'.cell? ⟨W.heap.size, 0, none⟩ = some (.int .i64 a) ∧ w'.cell? ⟨W.heap.size, 1, none⟩ = some (.int .i64 b) ∧ w'.cell? ⟨W.heap.size, 2, none⟩ = some (.int .u32 c)) (ds := [8]) #[Z,Z,Z,Z,Z,Z,Z,Z,Z,Z,Z,Z] (by kernel_rfl) rfl rfl ⟨(A0.out.cell 0).trans rfl, (A0.out.cell 1).trans rfl, (A0.out.cell 2).trans rfl⟩ (fun hHeld => ?_)
  refine pu_ 0 7 ?_ #[J,Z,Z,Z,Z,Z,Z,Z,Z,Z,Z,Z] rfl rfl ?_ ?_ ?_ ?_
  rotate_left
  · intro w'
    go_simp
    with_reducible rfl
  rotate_left
  · simp only [aP]
    rfl
  refine one_ (i := 1) (N := some 8) #[J,J,Z,Z,Z,Z,Z,Z,Z,Z,Z,Z] rfl rfl (by kernel_rfl) (by decide) (fun K hK => ?_)
  refine goes_ Tryz.func113 (by kernel_rfl) rfl #[.int .i64 (n : Int)] (by rfl) rfl rfl (by simp only [List.map_toArray, List.map_cons, List.map_nil]; rfl) ?_
  with_reducible refine (rneed_ (n : Int) _).mono ?_
  rintro e w1 ⟨rfl, rfl⟩
  refine ⟨_, rfl, ?_⟩
  rw [HQ.out]
  refine hK.out _ _ ⟨(A0.out.cell 0).trans rfl, (A0.out.cell 1).trans rfl, (A0.out.cell 2).trans rfl⟩ (fun hHeld => ?_)
  clear hK K
  refine norm_ (a' := ?_) ?_ ?_
  rotate_left
  · show Act.put _ (some 8) _ = _
    simp only [aP]
    rfl
  refine pu_ 2 9 ?_ #[J,J,J,Z,Z,Z,Z,Z,Z,Z,Z,Z] rfl rfl ?_ ?_ ?_ ?_
  rotate_left
  · intro w'
    go_simp
    with_reducible rfl
  rotate_left
  · simp only [aP]
    rfl
  refine pu_ 3 10 ?_ #[J,J,J,J,Z,Z,Z,Z,Z,Z,Z,Z] rfl rfl ?_ ?_ ?_ ?_
  rotate_left
  · intro w'
    go_simp
    with_reducible rfl
  rotate_left
  · simp only [aP]
    rfl
  refine pu_ 4 11 ?_ #[J,J,J,J,J,Z,Z,Z,Z,Z,Z,Z] rfl rfl ?_ ?_ ?_ ?_
  rotate_left
  · intro w'
    go_simp
    with_reducible rfl
  rotate_left
  · simp only [aP]
    rfl
  refine pu_ 7 14 ?_ #[J,J,J,J,J,Z,Z,J,Z,Z,Z,Z] rfl rfl ?_ ?_ ?_ ?_
  rotate_left
  · intro w'
    go_simp
    with_reducible rfl
  rotate_left
  · simp only [aP]
    rfl
  refine ta_ 6 13 ?_ #[J,J,J,J,J,Z,J,J,Z,Z,Z,Z] rfl rfl ?_ hHeld ?_ ?_ ?_
  rotate_left
  · rintro w' ⟨s0, s1, s2⟩
    go_simp
    with_reducible rfl
  rotate_left
  · simp only [aP]
    rfl
  refine one_ (i := 5) (N := some 12) #[J,J,J,J,J,J,J,J,Z,Z,Z,Z] rfl rfl (by kernel_rfl) (by decide) (fun K hK => ?_)
  refine goes_ Tryz.func113 (by kernel_rfl) rfl #[.int .i64 (n : Int)] (by rfl) rfl rfl (by simp only [List.map_toArray, List.map_cons, List.map_nil]; rfl) ?_
  with_reducible refine (rneed_ (n : Int) _).mono ?_
  rintro e w5 ⟨rfl, rfl⟩
  refine ⟨_, rfl, ?_⟩
  rw [HQ.out]
  refine hK.out _ _ ⟨(A0.out.cell 0).trans rfl, (A0.out.cell 1).trans rfl, (A0.out.cell 2).trans rfl⟩ (fun hHeld => ?_)
  clear hK K
  refine norm_ (a' := ?_) ?_ ?_
  rotate_left
  · show Act.put _ (some 12) _ = _
    simp only [aP]
    rfl
  refine last_ (i := 8) (N := some 15) #[J,J,J,J,J,J,J,J,J,Z,Z,Z] rfl rfl (by kernel_rfl) (by decide) (fun K hK => ?_)
  refine goes_ Tryz.func114 (by kernel_rfl) rfl #[.agg #[.int .i64 a, .int .i64 b, .int .u32 c], .int .i64 (u : Int)] (by rfl) rfl rfl (by simp only [List.map_toArray, List.map_cons, List.map_nil]; rfl) ?_
  with_reducible refine (rleft_ a b c u HU.out _).mono ?_
  rintro e w8 ⟨rfl, hb8⟩
  refine ⟨_, rfl, ?_⟩
  rw [HS.out]
  have A8 := Aside0.mk (A0.out.below hb8)
  clear hb8
  refine hK.out _ _ ?_
  clear hK K
  refine norm_ (a' := ?_) ?_ ?_
  rotate_left
  · show Act.put _ (some 15) _ = _
    simp only [aP]
    rfl
  refine pu_ 9 16 ?_ #[J,J,J,J,J,J,J,J,J,J,Z,Z] rfl rfl ?_ ?_ ?_ ?_
  rotate_left
  · intro w'
    go_simp
    with_reducible rfl
  rotate_left
  · simp only [aP]
    rfl
  refine pu_ 10 17 ?_ #[J,J,J,J,J,J,J,J,J,J,J,Z] rfl rfl ?_ ?_ ?_ ?_
  rotate_left
  · intro w'
    go_simp
    with_reducible rfl
  rotate_left
  · simp only [aP]
    rfl
  refine pu_ 11 6 ?_ #[J,J,J,J,J,J,J,J,J,J,J,J] rfl rfl ?_ ?_ ?_ ?_
  rotate_left
  · intro w'
    go_simp
    with_reducible rfl
  rotate_left
  · simp only [aP]
    rfl
  refine done_ (by kernel_rfl) ?_
  by_cases hqs : q ≤ s
  · have hd2 : decide (q ≤ s) = true := decide_eq_true hqs
    go_wp2_with fail
    go_ret
    exact ⟨by rw [HV.out, hd2]; first | rfl | (simp; done), A8.out.tail.toBelow⟩
  · have hd2 : decide (q ≤ s) = false := decide_eq_false hqs
    go_wp2_with fail
    go_ret
    exact ⟨by rw [HV.out, hd2]; first | rfl | (simp; done), A8.out.tail.toBelow⟩
end Go.Proofs.YtjngnigelkgekaaGreat.Store
namespace Go.Proofs.YtjngnigelkgekaaGreat.Store
open Go.RowKit Go.Proofs.YtjngnigelkgekaaGreatW.PrintWords Go.Proofs.YtjngnigelkgekaaGreatW.PrintLast Go.Proofs.YtjngnigelkgekaaGreatW.PrintMore Go.Proofs.YtjngnigelkgekaaGreat.Kit Go.Proofs.YtjngnigelkgekaaGreat.Plain Go.Proofs.YtjngnigelkgekaaGreat.Disk Go.Proofs.YtjngnigelkgekaaGreat.Root
open Go.Proofs.YtjngnigelkgekaaGreat.Delta (Chg KC deltaF rightF okF)
open Go.Proofs.YtjngnigelkgekaaGreat.Redo (recR logF logF_bytes appR sizeF)
open Go.Proofs.YtjngnigelkgekaaGreat.Home (pagesF)
open Go.Proofs.YtjngnigelkgekaaGreat.Tape (good)
theorem fmt_len {n : Nat} {las : List Int} {wt : Wt} {a b : Nat} (hl : las.length = 64 * n) (hw : ∀ i b, wt i = some b → b.length = 64) : (fmtL n las wt a b).length = 64 * n := by
  unfold fmtL
  exact Ref.flushed_len (Ref.flushed_len (Ref.flushed_len hl (putsW_len hw _)) (putsW_len Ref.none_len _)) (putW_len Ref.none_len)
theorem chk_len {n : Nat} {las : List Int} {wt : Wt} {a b ep : Int} {pages : List (List Int)} {named : List Int} (hl : las.length = 64 * n) (hw : ∀ i b, wt i = some b → b.length = 64) : (chkL n las wt a b ep pages named).length = 64 * n := by
  unfold chkL
  exact Ref.flushed_len (Ref.flushed_len (Ref.flushed_len hl hw) (homeW_len _ Ref.none_len)) (putW_len Ref.none_len)
end Go.Proofs.YtjngnigelkgekaaGreat.Store
