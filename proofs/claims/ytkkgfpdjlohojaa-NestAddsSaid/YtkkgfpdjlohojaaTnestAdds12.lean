/- Keep6, NestW0: what NestAdds needs. -/
import Derived.Test.YtkkgfpdjlohojaaTnestAdds11
set_option linter.unusedVariables false
set_option linter.unusedSimpArgs false
namespace Go.Proofs.Ytkkgfpdjlohojaa.Keep
open Go.RowKit Go.Proofs.YtkkgfpdjlohojaaW.PrintWords Go.Proofs.YtkkgfpdjlohojaaW.PrintLast Go.Proofs.YtkkgfpdjlohojaaW.PrintMore Go.Proofs.Ytkkgfpdjlohojaa.Kit
open Go.Proofs.Ytkkgfpdjlohojaa.Fn (RetB FC Fnc cellF uV)
open Go.Proofs.Ytkkgfpdjlohojaa.Tape Go.Proofs.Ytkkgfpdjlohojaa.Tok Go.Proofs.Ytkkgfpdjlohojaa.NestP Go.Proofs.Ytkkgfpdjlohojaa.TokP
section
variable {w0 W : World} {F : List HP} {g : Nat} {At A : Option Addr} {nt ct n c : Nat} {L : List Int} {p : Int} {fs : List Fnc}
abbrev UL (g3 g4 g2 : Nat) (At : Option Addr) (nt ct : Nat) (pg mo : Int) (vf : Value) (fs : List Fnc) (F : List HP) : List HP :=
  TpX g3 At nt ct :: Blk g4 30 #[.int .i64 pg, .int .i64 mo, vf] :: RowU vf fs :: Blk g2 30 #[.int .i64 0, .int .i64 0, .slice none 0 0] :: F
theorem sz250 {a b : ByteArray} (h : (a.size : Int) + (b.size : Int) < 250) : (a ++ b).size ≤ 250 := by simp; omega
theorem unitPerm {w : World} {lit : HP} {v4 : Array Value} {v : Value} {rs : List (List Value)} {x2 : HP} (h : Sep w0 w (Blk g 30 v4 :: Row (Kd.raw 3) 34 v rs :: lit :: TpX c At nt ct :: x2 :: F)) :
    Sep w0 w (TpX c At nt ct :: Blk g 30 v4 :: Row (Kd.raw 3) 34 v rs :: x2 :: F) := (h.at3.tail).at3
theorem goodSnoc {nm ar : Int} {code : ByteArray} {i : Nat} (hg : ∀ f ∈ fs, Good f) (hl : fs.length = i) (h : 0 ≤ ar ∧ ar < 3) (hok : Fn.OkF (fs ++ [(⟨nm, ar, code⟩ : Fnc)]) (i : Int)) : ∀ f ∈ fs ++ [(⟨nm, ar, code⟩ : Fnc)], Good f := fun f hf => by
  rcases List.mem_append.1 hf with hf | hf
  · exact hg f hf
  · obtain ⟨f2, l, h1, h2, h3⟩ := hok
    rw [Int.toNat_natCast, List.getElem?_append_right (by omega), hl, Nat.sub_self] at h1
    have h4 : f2 = ⟨nm, ar, code⟩ := (Option.some.inj h1).symm
    rw [List.mem_singleton.1 hf]
    subst h4
    exact ⟨⟨h.1, by show ar ≤ 2; omega⟩, l, h2, h3⟩
theorem unitAt {ga N cc i : Nat} {f : Fnc} (h : Sep w0 W (RowU (.slice (some ⟨ga, 0, none⟩) N cc) fs :: F)) (hf : fs[i]? = some f) : W.cell? ⟨ga, i * 3 + 2, none⟩ = some (.string f.code) ∧ W.frozen? ⟨ga, i * 3 + 2, none⟩ = false := by
  obtain ⟨h3, h4⟩ := Nest.rawAt (k := i) (cl := cellF f) h (by rw [List.getElem?_map, hf]; rfl)
  exact ⟨h3 2 _ rfl, h4 _⟩
theorem unitPut {ga N cc i : Nat} {f : Fnc} {s : ByteArray} (hl : fs.length = i) (h : Sep w0 W (RowU (.slice (some ⟨ga, 0, none⟩) N cc) (fs ++ [f]) :: F)) :
    Sep w0 (W.setCell ⟨ga, i * 3 + 2, none⟩ (.string s)) (RowU (.slice (some ⟨ga, 0, none⟩) N cc) (fs ++ [(⟨f.name, f.args, s⟩ : Fnc)]) :: F) := by
  have h3 := h.putRaw (j := i) (q := 2) (u := .string s) (by rw [List.length_map, List.length_append, hl]; simp) (by omega) rfl
  have e1 : ((fs ++ [f]).map cellF).getD i [] = cellF f := by rw [List.getD_eq_getElem?_getD, List.getElem?_map, List.getElem?_append_right (by omega), hl, Nat.sub_self]; rfl
  have e2 : ((fs ++ [f]).map cellF).set i ((cellF f).set 2 (.string s)) = (fs ++ [(⟨f.name, f.args, s⟩ : Fnc)]).map cellF := by
    rw [List.map_append, List.map_append, List.set_append_right _ _ (by rw [List.length_map]; omega), List.length_map, hl, Nat.sub_self]
    rfl
  rw [e1, e2] at h3
  exact h3
set_option maxHeartbeats 12800000 in
set_option maxRecDepth 100000 in
theorem unit_ (ht : I64.C w0 At nt L) (h : Sep w0 W F) :
    Calls Try.prog 11 #[.slice At nt ct] W fun e w' => ∃ v, e = .returned v ∧ UnitP w0 w' F v := by
  have HT := Aside0.mk ht
  have h1 := h.newBlk 30 #[.int .i64 0, .int .i64 0, .slice none 0 0]
  have h2 := h1.newBlk 55 #[.slice At nt ct, .int .i64 0]
  rw [NestR.alloc_size] at h2
  have H2 := Aside0.mk (tpx_shut (by decide : (0 : Int) ≤ 0) h2)
  clear h1 h2 ht h
  go_enter Try.func11, Try.ntmps11
  go_upto_region 2 with fail
  obtain ⟨w2, hw2⟩ : ∃ x, (W.alloc (.cells #[.int .i64 0, .int .i64 0, .slice none 0 0] 30)).alloc (.cells #[.slice At nt ct, .int .i64 0] 55) = x := ⟨_, rfl⟩
  obtain ⟨g2, hg2⟩ : ∃ x, W.heap.size = x := ⟨_, rfl⟩
  obtain ⟨g3, hg3⟩ : ∃ x, g2 + 1 = x := ⟨_, rfl⟩
  rw [hg2, hg3, hw2] at H2
  rw [hg2, hg3, hw2]
  clear hg2 hg3 hw2
  go_wp2_with fail
  refine (nextX_ HT.out H2.out 3).mono ?_
  rintro e w3 ⟨r, rfl, hr, hS⟩
  have hr0 := hr.1
  have hr3 := hr.2.1 (by decide)
  have B3 := Aside0.mk (hS.newBlk 30 #[.int .i64 r, .int .i64 0, .slice none 0 0])
  clear hS hr
  go_upto_region 3 with fail
  obtain ⟨w4, hw4⟩ : ∃ x, w3.alloc (.cells #[.int .i64 r, .int .i64 0, .slice none 0 0] 30) = x := ⟨_, rfl⟩
  obtain ⟨g4, hg4⟩ : ∃ x, w3.heap.size = x := ⟨_, rfl⟩
  rw [hw4, hg4] at B3
  rw [hw4, hg4]
  clear hw4 hg4
  have z0 : w4.drew.cell? ⟨g4, 0, none⟩ = some (.int .i64 r) := (B3.out.drew.cell 0).trans rfl
  refine start_ (n := 8) (S := fun w' => w'.cell? ⟨g4, 0, none⟩ = some (.int .i64 r)) (ds := [7]) #[Z,Z,Z,Z,Z,Z,Z,Z] (by kernel_rfl) rfl rfl (z0) (fun hHeld => ?_)
  refine pu_ 0 19 ?_ #[J,Z,Z,Z,Z,Z,Z,Z] rfl rfl ?_ ?_ ?_ ?_
  rotate_left
  · intro w'
    go_simp
    with_reducible rfl
  rotate_left
  · simp only [aP]
    rfl
  refine pu_ 3 22 ?_ #[J,Z,Z,J,Z,Z,Z,Z] rfl rfl ?_ ?_ ?_ ?_
  rotate_left
  · intro w'
    go_simp
    with_reducible rfl
  rotate_left
  · simp only [aP]
    rfl
  refine ta_ 1 20 ?_ #[J,J,Z,J,Z,Z,Z,Z] rfl rfl ?_ hHeld ?_ ?_ ?_
  rotate_left
  · intro w' s0
    go_simp
    with_reducible rfl
  rotate_left
  · simp only [aP]
    rfl
  refine pu_ 2 21 ?_ #[J,J,J,J,Z,Z,Z,Z] rfl rfl ?_ ?_ ?_ ?_
  rotate_left
  · intro w'
    go_simp
    with_reducible rfl
  rotate_left
  · simp only [aP]
    rfl
  refine one_ (i := 4) (N := some 23) #[J,J,J,J,J,Z,Z,Z] rfl rfl (by kernel_rfl) (by decide) (fun K hK => ?_)
  refine goes_ Try.func19 (by kernel_rfl) rfl #[.pointer (some ⟨g3, 0, none⟩), .int .i64 3] (by rfl) rfl rfl (by simp only [List.map_toArray, List.map_cons, List.map_nil]; rfl) ?_
  with_reducible refine (nextX_ HT.out B3.out.drew.at2 3).mono ?_
  rintro e w5 ⟨r5, rfl, hr5, hS5⟩
  refine ⟨_, rfl, ?_⟩
  have hr50 := hr5.1
  have hr53 := hr5.2.1 (by decide)
  have B5 := Aside0.mk hS5.at2
  have hf5 : w5.frozen? ⟨g4, 1, none⟩ = false := B5.out.frozen 1
  have hc5 : w5.cell? ⟨g4, 1, none⟩ = some (.int .i64 0) := (B5.out.cell 1).trans rfl
  have hw5 : wrap64 (r + 1 + r5) = r + 1 + r5 := IntWalk.wrap64_in _ (by omega)
  have hw6_ : wrap64 (r + 1) = r + 1 := IntWalk.wrap64_in _ (by omega)
  clear hS5 hr5
  refine hK.out _ _ ((B5.out.cell 0).trans rfl) (fun hHeld => ?_)
  clear hK K
  refine norm_ (a' := ?_) ?_ ?_
  rotate_left
  · show Act.put _ (some 23) _ = _
    simp only [aP]
    rfl
  refine pu_ 5 24 ?_ #[J,J,J,J,J,J,Z,Z] rfl rfl ?_ ?_ ?_ ?_
  rotate_left
  · intro w'
    go_simp
    with_reducible rfl
  rotate_left
  · simp only [aP]
    rfl
  refine pu_ 6 25 ?_ #[J,J,J,J,J,J,J,Z] rfl rfl ?_ ?_ ?_ ?_
  rotate_left
  · intro w'
    go_simp
    with_reducible rfl
  rotate_left
  · simp only [aP]
    rfl
  refine last_ (i := 7) (N := none) #[J,J,J,J,J,J,J,J] rfl rfl (by kernel_rfl) (by decide) (fun K hK => ?_)
  refine skip_ (w1 := ?_) (by rfl) rfl ?_ ?_
  rotate_left
  · go_simp
    rfl
  refine hK.out _ _ ?_
  clear hK K
  refine done_ (by kernel_rfl) ?_
  have B6 : Aside0 (Sep w0 (w5.setCell ⟨g4, 1, none⟩ (.int .i64 (r + 1 + r5))) (UL g3 g4 g2 At nt ct r (r + 1 + r5) (.slice none 0 0) [] F)) := ⟨Sep.at2 (Sep.push [_, _] ((B5.out.setBlk 1 (.int .i64 (r + 1 + r5))).nilRow (Kd.raw 3) 34))⟩
  obtain ⟨w6, hw6⟩ : ∃ x, w5.setCell ⟨g4, 1, none⟩ (.int .i64 (r + 1 + r5)) = x := ⟨_, rfl⟩
  rw [hw6] at B6 ⊢
  clear hw6 hf5 hc5 hw5 hw6_ hr0 hr3 hr50 hr53
  go_wp2_with fail
  go_loopg [5] 4 (fun m q wr => ∃ (i : Nat) (vf : Value) (pg mo : Int) (fs : List Fnc), i + m = 4 ∧ i ≤ 3 ∧ q = .int .i64 (i : Int) ∧ fs.length = i ∧ (∀ f ∈ fs, Good f) ∧ Sep w0 wr (UL g3 g4 g2 At nt ct pg mo vf fs F))
  case atStart => exact ⟨0, _, _, _, [], rfl, by decide, rfl, rfl, fun f hf => (by cases hf), B6.out⟩
  case round =>
    obtain ⟨i, vf, pg, mo, fs, him, hi33, rfl, hfl, hgood, hS⟩ := hrel
    obtain ⟨G, rfl⟩ : ∃ G, G = gk := ⟨_, rfl⟩
    obtain ⟨Af, cf, rfl⟩ := Sep.rowN (n := i) (show Sep w0 wr (RowU vf fs :: _) from Sep.pull [_, _] hS) (by rw [List.length_map]; exact hfl)
    have AI := Aside0.mk him
    have HFS := Aside0.mk (And.intro hfl hgood)
    have HFA : Aside0 (∀ f ∈ fs, 0 ≤ f.args ∧ f.args ≤ 2) := ⟨fun f hf => (hgood f hf).1⟩
    have B7 := Aside0.mk hS
    clear hS hfl hgood
    go_wp2_with fail
    refine (nextX_ HT.out B7.out 3).mono ?_
    rintro e w7 ⟨r7, rfl, hr7, hS⟩
    have r70 := hr7.1
    have r73 := hr7.2.1 (by decide)
    have hw7 : wrap64 (1 + r7) = 1 + r7 := IntWalk.wrap64_in _ (by omega)
    have B8 := Aside0.mk hS
    clear hS hr7 him
    by_cases hi : (i : Int) < 1 + r7
    · have hid : decide ((i : Int) < 1 + r7) = true := decide_eq_true hi
      have hi2 : i ≤ 2 := by omega
      have HI : Aside0 (i < 5) := ⟨by omega⟩
      obtain ⟨nm, hnm⟩ : ∃ x, Nms.getD i 0 = x := ⟨_, rfl⟩
      have HNM := Aside0.mk hnm
      have hi5 : (i : Int) < 5 := by omega
      clear hnm
      go_wp2_with fail
      refine start_ (n := 9) (S := fun w' => True) (ds := [8]) #[Z,Z,Z,Z,Z,Z,Z,Z,Z] (by kernel_rfl) rfl rfl trivial (fun hHeld => ?_)
      refine pu_ 1 34 ?_ #[Z,J,Z,Z,Z,Z,Z,Z,Z] rfl rfl ?_ ?_ ?_ ?_
      rotate_left
      · intro w'
        go_simp
        with_reducible rfl
      rotate_left
      · simp only [aP]
        rfl
      refine pu_ 4 37 ?_ #[Z,J,Z,Z,J,Z,Z,Z,Z] rfl rfl ?_ ?_ ?_ ?_
      rotate_left
      · intro w'
        go_simp
        with_reducible rfl
      rotate_left
      · simp only [aP]
        rfl
      refine join_ (σ := Nat × Int × Int × Nat) 1 #[J,J,J,J,J,J,J,J,Z] (fun s_ => [(33, .slice (some ⟨s_.1, 0, none⟩) 5 5), (36, .int .i32 (s_.2.1)), (38, .int .i64 (s_.2.2.1)), (6, .pointer (some ⟨s_.2.2.2, 0, none⟩)), (35, .pointer (some ⟨s_.1, i, none⟩)), (39, .agg #[.int .i32 s_.2.1, .int .i64 s_.2.2.1, .string ⟨#[]⟩])]) (fun s_ w' => Sep w0 w' ((Pu ((s_.2.1) = nm)) :: (Pu (0 ≤ (s_.2.2.1) ∧ (s_.2.2.1) < 3)) :: (Blk (s_.2.2.2) 34 #[.int .i32 0, .int .i64 0, .string ⟨#[]⟩]) :: (UL g3 g4 g2 At nt ct pg mo (.slice Af i cf) fs F))) ?_ ?_
      rotate_left
      · intro hJ0_3_5_7
        refine join_ (σ := Nat × Int × Int) 2 #[J,J,J,J,J,J,J,Z,Z] (fun s_ => [(33, .slice (some ⟨s_.1, 0, none⟩) 5 5), (36, .int .i32 (s_.2.1)), (38, .int .i64 (s_.2.2)), (35, .pointer (some ⟨s_.1, i, none⟩)), (39, .agg #[.int .i32 s_.2.1, .int .i64 s_.2.2, .string ⟨#[]⟩])]) (fun s_ w' => Sep w0 w' ((Pu ((s_.2.1) = nm)) :: (Pu (0 ≤ (s_.2.2) ∧ (s_.2.2) < 3)) :: (UL g3 g4 g2 At nt ct pg mo (.slice Af i cf) fs F))) ?_ ?_
        rotate_left
        · intro hJ0_3_5
          refine join_ (σ := Nat × Int × Nat) 3 #[J,J,J,J,J,Z,Z,J,Z] (fun s_ => [(33, .slice (some ⟨s_.1, 0, none⟩) 5 5), (36, .int .i32 (s_.2.1)), (6, .pointer (some ⟨s_.2.2, 0, none⟩)), (35, .pointer (some ⟨s_.1, i, none⟩))]) (fun s_ w' => Sep w0 w' ((Pu ((s_.2.1) = nm)) :: (Blk (s_.2.2) 34 #[.int .i32 0, .int .i64 0, .string ⟨#[]⟩]) :: (UL g3 g4 g2 At nt ct pg mo (.slice Af i cf) fs F))) ?_ ?_
          rotate_left
          · intro hJ0_3_7
            refine join_ (σ := Nat × Int × Nat) 3 #[J,J,J,Z,J,J,Z,J,Z] (fun s_ => [(33, .slice (some ⟨s_.1, 0, none⟩) 5 5), (38, .int .i64 (s_.2.1)), (6, .pointer (some ⟨s_.2.2, 0, none⟩)), (35, .pointer (some ⟨s_.1, i, none⟩))]) (fun s_ w' => Sep w0 w' ((Row R32 21 (.slice (some ⟨(s_.1), 0, none⟩) 5 5) Nms) :: (Pu (0 ≤ (s_.2.1) ∧ (s_.2.1) < 3)) :: (Blk (s_.2.2) 34 #[.int .i32 0, .int .i64 0, .string ⟨#[]⟩]) :: (UL g3 g4 g2 At nt ct pg mo (.slice Af i cf) fs F))) ?_ ?_
            rotate_left
            · intro hJ0_5_7
              refine join_ (σ := Nat × Int) 4 #[J,J,J,J,J,Z,Z,Z,Z] (fun s_ => [(33, .slice (some ⟨s_.1, 0, none⟩) 5 5), (36, .int .i32 (s_.2)), (35, .pointer (some ⟨s_.1, i, none⟩))]) (fun s_ w' => Sep w0 w' ((Pu ((s_.2) = nm)) :: (UL g3 g4 g2 At nt ct pg mo (.slice Af i cf) fs F))) ?_ ?_
              rotate_left
              · intro hJ0_3
                refine join_ (σ := Nat × Int) 4 #[J,J,J,Z,J,J,Z,Z,Z] (fun s_ => [(33, .slice (some ⟨s_.1, 0, none⟩) 5 5), (38, .int .i64 (s_.2)), (35, .pointer (some ⟨s_.1, i, none⟩))]) (fun s_ w' => Sep w0 w' ((Row R32 21 (.slice (some ⟨(s_.1), 0, none⟩) 5 5) Nms) :: (Pu (0 ≤ (s_.2) ∧ (s_.2) < 3)) :: (UL g3 g4 g2 At nt ct pg mo (.slice Af i cf) fs F))) ?_ ?_
                rotate_left
                · intro hJ0_5
                  refine join_ (σ := Nat × Nat) 4 #[J,J,J,Z,J,Z,Z,J,Z] (fun s_ => [(33, .slice (some ⟨s_.1, 0, none⟩) 5 5), (6, .pointer (some ⟨s_.2, 0, none⟩)), (35, .pointer (some ⟨s_.1, i, none⟩))]) (fun s_ w' => Sep w0 w' ((Row R32 21 (.slice (some ⟨(s_.1), 0, none⟩) 5 5) Nms) :: (Blk (s_.2) 34 #[.int .i32 0, .int .i64 0, .string ⟨#[]⟩]) :: (UL g3 g4 g2 At nt ct pg mo (.slice Af i cf) fs F))) ?_ ?_
                  rotate_left
                  · intro hJ0_7
                    refine join_ (σ := Nat) 5 #[J,J,J,Z,J,Z,Z,Z,Z] (fun s_ => [(33, .slice (some ⟨s_, 0, none⟩) 5 5), (35, .pointer (some ⟨s_, i, none⟩))]) (fun s_ w' => Sep w0 w' ((Row R32 21 (.slice (some ⟨(s_), 0, none⟩) 5 5) Nms) :: (UL g3 g4 g2 At nt ct pg mo (.slice Af i cf) fs F))) ?_ ?_
                    rotate_left
                    · intro hJ0
                      refine join_ (σ := Nat) 6 #[Z,J,Z,Z,J,Z,Z,J,Z] (fun s_ => [(6, .pointer (some ⟨s_, 0, none⟩))]) (fun s_ w' => Sep w0 w' ((Blk (s_) 34 #[.int .i32 0, .int .i64 0, .string ⟨#[]⟩]) :: (UL g3 g4 g2 At nt ct pg mo (.slice Af i cf) fs F))) ?_ ?_
                      rotate_left
                      · intro hJ7
                        refine two_ (i := 0) (j := 7) (Ni := some 33) (Nj := some 6) #[J,J,Z,Z,J,Z,Z,Z,Z] #[Z,J,Z,Z,J,Z,Z,J,Z] rfl rfl rfl rfl (by kernel_rfl) (by decide) (by decide) (fun K hK => ?_) (fun K hK => ?_)
                        · skip
                          refine goes_ Try.func20 (by kernel_rfl) rfl #[] (by rfl) rfl rfl (by simp) ?_
                          with_reducible refine (names_ _).mono ?_
                          rintro e wn_ ⟨vn_, rfl, hS_⟩
                          refine ⟨_, rfl, ?_⟩
                          have hN := (B8.out.drew).lift1 hS_
                          clear hS_
                          refine hK.out _ _ trivial (fun hHeld => ?_)
                          clear hK K
                          refine norm_ (a' := ?_) ?_ ?_
                          rotate_left
                          · show Act.put _ (some 33) _ = _
                            simp only [aP]
                            rfl
                          refine pu_ 2 35 ?_ #[J,J,J,Z,J,Z,Z,Z,Z] rfl rfl ?_ ?_ ?_ ?_
                          rotate_left
                          · intro w'
                            go_simp
                            with_reducible rfl
                          rotate_left
                          · simp only [aP]
                            rfl
                          exact norm_ (by first | (simp only [putAll, Act.put, List.setIfInBounds_toArray, List.set_cons_zero, List.set_cons_succ]; done) | (simp only [putAll, Act.put, List.setIfInBounds_toArray, List.set_cons_zero, List.set_cons_succ]; rfl)) (hJ0 vn_ _ hN)
                        · skip
                          refine value_ (w1 := ?_) (v := ?_) (by rfl) rfl ?_ ?_
                          rotate_left 2
                          · go_simp
                            constructor
                            · rfl
                            · rfl
                          have hN := (B8.out.drew).newBlk 34 #[.int .i32 0, .int .i64 0, .string ⟨#[]⟩]
                          refine hK.out _ _ trivial (fun hHeld => ?_)
                          clear hK K
                          refine norm_ (a' := ?_) ?_ ?_
                          rotate_left
                          · show Act.put _ (some 6) _ = _
                            simp only [aP]
                            rfl
                          exact norm_ (by first | (simp only [putAll, Act.put, List.setIfInBounds_toArray, List.set_cons_zero, List.set_cons_succ]; done) | (simp only [putAll, Act.put, List.setIfInBounds_toArray, List.set_cons_zero, List.set_cons_succ]; rfl)) (hJ7 (w7.drew).heap.size _ hN)
                      · skip
                        rintro v7_ W_ hQ_
                        have hSep : Aside0 (Sep w0 W_ ((Blk (v7_) 34 #[.int .i32 0, .int .i64 0, .string ⟨#[]⟩]) :: (UL g3 g4 g2 At nt ct pg mo (.slice Af i cf) fs F))) := ⟨hQ_⟩
                        clear hQ_
                        have hHeld := trivial
                        refine norm_ (a' := ?_) ?_ ?_
                        rotate_left
                        · simp only [putAll, Act.put, List.setIfInBounds_toArray, List.set_cons_zero, List.set_cons_succ]
                          rfl
                        refine one_ (i := 0) (N := some 33) #[J,J,Z,Z,J,Z,Z,J,Z] rfl rfl (by kernel_rfl) (by decide) (fun K hK => ?_)
                        refine goes_ Try.func20 (by kernel_rfl) rfl #[] (by rfl) rfl rfl (by simp) ?_
                        with_reducible refine (names_ _).mono ?_
                        rintro e wn_ ⟨vn_, rfl, hS_⟩
                        refine ⟨_, rfl, ?_⟩
                        have hN := (hSep.out).lift1 hS_
                        clear hS_
                        refine hK.out _ _ trivial (fun hHeld => ?_)
                        clear hK K
                        refine norm_ (a' := ?_) ?_ ?_
                        rotate_left
                        · show Act.put _ (some 33) _ = _
                          simp only [aP]
                          rfl
                        refine pu_ 2 35 ?_ #[J,J,J,Z,J,Z,Z,J,Z] rfl rfl ?_ ?_ ?_ ?_
                        rotate_left
                        · intro w'
                          go_simp
                          with_reducible rfl
                        rotate_left
                        · simp only [aP]
                          rfl
                        exact norm_ (by first | (simp only [putAll, Act.put, List.setIfInBounds_toArray, List.set_cons_zero, List.set_cons_succ]; done) | (simp only [putAll, Act.put, List.setIfInBounds_toArray, List.set_cons_zero, List.set_cons_succ]; rfl)) (hJ0_7 (vn_, v7_) _ hN)
                    · skip
                      rintro v0_ W_ hQ_
                      have hSep : Aside0 (Sep w0 W_ ((Row R32 21 (.slice (some ⟨(v0_), 0, none⟩) 5 5) Nms) :: (UL g3 g4 g2 At nt ct pg mo (.slice Af i cf) fs F))) := ⟨hQ_⟩
                      clear hQ_
                      have hHeld := trivial
                      refine norm_ (a' := ?_) ?_ ?_
                      rotate_left
                      · simp only [putAll, Act.put, List.setIfInBounds_toArray, List.set_cons_zero, List.set_cons_succ]
                        rfl
                      refine three_ (i := 3) (j := 5) (k := 7) (Ni := some 36) (Nj := some 38) (Nk := some 6) #[J,J,J,J,J,Z,Z,Z,Z] #[J,J,J,Z,J,J,Z,Z,Z] #[J,J,J,Z,J,Z,Z,J,Z] rfl rfl rfl rfl rfl rfl (by kernel_rfl) (by decide) (by decide) (by decide) (fun K hK => ?_) (fun K hK => ?_) (fun K hK => ?_)
                      · skip
                        have hs_ := (((hSep.out)).rowCell (enc := Value.int .i32) (0 : Int) i HI.out).1
                        rw [HNM.out] at hs_
                        refine value_ (w1 := ?_) (v := ?_) (by rfl) rfl ?_ ?_
                        rotate_left 2
                        · go_simp
                          constructor
                          · rfl
                          · rfl
                        have hN := ((hSep.out)).tail.unpu (rfl : nm = nm)
                        refine hK.out _ _ trivial (fun hHeld => ?_)
                        clear hK K
                        refine norm_ (a' := ?_) ?_ ?_
                        rotate_left
                        · show Act.put _ (some 36) _ = _
                          simp only [aP]
                          rfl
                        exact norm_ (by first | (simp only [putAll, Act.put, List.setIfInBounds_toArray, List.set_cons_zero, List.set_cons_succ]; done) | (simp only [putAll, Act.put, List.setIfInBounds_toArray, List.set_cons_zero, List.set_cons_succ]; rfl)) (hJ0_3 (v0_, nm) _ hN)
                      · skip
                        refine goes_ Try.func19 (by kernel_rfl) rfl #[.pointer (some ⟨g3, 0, none⟩), .int .i64 3] (by rfl) rfl rfl (by simp only [List.map_toArray, List.map_cons, List.map_nil]; rfl) ?_
                        with_reducible refine (nextU_ HT.out (by first | exact (hSep.out).at2 | exact (hSep.out).at3)).mono ?_
                        rintro e wn_ ⟨vn_, rfl, hS_⟩
                        refine ⟨_, rfl, ?_⟩
                        first | (have hN : Sep w0 wn_ (Pu _ :: _ :: TpX g3 At nt ct :: Blk g4 _ _ :: _) := hS_.sw23) | (have hN := sep24 hS_)
                        clear hS_
                        refine hK.out _ _ trivial (fun hHeld => ?_)
                        clear hK K
                        refine norm_ (a' := ?_) ?_ ?_
                        rotate_left
                        · show Act.put _ (some 38) _ = _
                          simp only [aP]
                          rfl
                        exact norm_ (by first | (simp only [putAll, Act.put, List.setIfInBounds_toArray, List.set_cons_zero, List.set_cons_succ]; done) | (simp only [putAll, Act.put, List.setIfInBounds_toArray, List.set_cons_zero, List.set_cons_succ]; rfl)) (hJ0_5 (v0_, vn_) _ hN.at2)
                      · skip
                        refine value_ (w1 := ?_) (v := ?_) (by rfl) rfl ?_ ?_
                        rotate_left 2
                        · go_simp
                          constructor
                          · rfl
                          · rfl
                        have hN := (hSep.out).newBlk 34 #[.int .i32 0, .int .i64 0, .string ⟨#[]⟩]
                        refine hK.out _ _ trivial (fun hHeld => ?_)
                        clear hK K
                        refine norm_ (a' := ?_) ?_ ?_
                        rotate_left
                        · show Act.put _ (some 6) _ = _
                          simp only [aP]
                          rfl
                        exact norm_ (by first | (simp only [putAll, Act.put, List.setIfInBounds_toArray, List.set_cons_zero, List.set_cons_succ]; done) | (simp only [putAll, Act.put, List.setIfInBounds_toArray, List.set_cons_zero, List.set_cons_succ]; rfl)) (hJ0_7 (v0_, (W_).heap.size) _ hN.at2)
                  · skip
                    rintro ⟨v0_, v7_⟩ W_ hQ_
                    have hSep : Aside0 (Sep w0 W_ ((Row R32 21 (.slice (some ⟨(v0_), 0, none⟩) 5 5) Nms) :: (Blk (v7_) 34 #[.int .i32 0, .int .i64 0, .string ⟨#[]⟩]) :: (UL g3 g4 g2 At nt ct pg mo (.slice Af i cf) fs F))) := ⟨hQ_⟩
                    clear hQ_
                    have hHeld := trivial
                    refine norm_ (a' := ?_) ?_ ?_
                    rotate_left
                    · simp only [putAll, Act.put, List.setIfInBounds_toArray, List.set_cons_zero, List.set_cons_succ]
                      rfl
                    refine two_ (i := 3) (j := 5) (Ni := some 36) (Nj := some 38) #[J,J,J,J,J,Z,Z,J,Z] #[J,J,J,Z,J,J,Z,J,Z] rfl rfl rfl rfl (by kernel_rfl) (by decide) (by decide) (fun K hK => ?_) (fun K hK => ?_)
                    · skip
                      have hs_ := (((hSep.out)).rowCell (enc := Value.int .i32) (0 : Int) i HI.out).1
                      rw [HNM.out] at hs_
                      refine value_ (w1 := ?_) (v := ?_) (by rfl) rfl ?_ ?_
                      rotate_left 2
                      · go_simp
                        constructor
                        · rfl
                        · rfl
                      have hN := ((hSep.out)).tail.unpu (rfl : nm = nm)
                      refine hK.out _ _ trivial (fun hHeld => ?_)
                      clear hK K
                      refine norm_ (a' := ?_) ?_ ?_
                      rotate_left
                      · show Act.put _ (some 36) _ = _
                        simp only [aP]
                        rfl
                      exact norm_ (by first | (simp only [putAll, Act.put, List.setIfInBounds_toArray, List.set_cons_zero, List.set_cons_succ]; done) | (simp only [putAll, Act.put, List.setIfInBounds_toArray, List.set_cons_zero, List.set_cons_succ]; rfl)) (hJ0_3_7 (v0_, nm, v7_) _ hN)
                    · skip
                      refine goes_ Try.func19 (by kernel_rfl) rfl #[.pointer (some ⟨g3, 0, none⟩), .int .i64 3] (by rfl) rfl rfl (by simp only [List.map_toArray, List.map_cons, List.map_nil]; rfl) ?_
                      with_reducible refine (nextU_ HT.out (by first | exact (hSep.out).at2 | exact (hSep.out).at3)).mono ?_
                      rintro e wn_ ⟨vn_, rfl, hS_⟩
                      refine ⟨_, rfl, ?_⟩
                      first | (have hN : Sep w0 wn_ (Pu _ :: _ :: TpX g3 At nt ct :: Blk g4 _ _ :: _) := hS_.sw23) | (have hN := sep24 hS_)
                      clear hS_
                      refine hK.out _ _ trivial (fun hHeld => ?_)
                      clear hK K
                      refine norm_ (a' := ?_) ?_ ?_
                      rotate_left
                      · show Act.put _ (some 38) _ = _
                        simp only [aP]
                        rfl
                      exact norm_ (by first | (simp only [putAll, Act.put, List.setIfInBounds_toArray, List.set_cons_zero, List.set_cons_succ]; done) | (simp only [putAll, Act.put, List.setIfInBounds_toArray, List.set_cons_zero, List.set_cons_succ]; rfl)) (hJ0_5_7 (v0_, vn_, v7_) _ hN.at2)
                · skip
                  rintro ⟨v0_, v5_⟩ W_ hQ_
                  have hSep : Aside0 (Sep w0 W_ ((Row R32 21 (.slice (some ⟨(v0_), 0, none⟩) 5 5) Nms) :: (Pu (0 ≤ (v5_) ∧ (v5_) < 3)) :: (UL g3 g4 g2 At nt ct pg mo (.slice Af i cf) fs F))) := ⟨hQ_⟩
                  clear hQ_
                  have hHeld := trivial
                  refine norm_ (a' := ?_) ?_ ?_
                  rotate_left
                  · simp only [putAll, Act.put, List.setIfInBounds_toArray, List.set_cons_zero, List.set_cons_succ]
                    rfl
                  refine two_ (i := 3) (j := 7) (Ni := some 36) (Nj := some 6) #[J,J,J,J,J,J,Z,Z,Z] #[J,J,J,Z,J,J,Z,J,Z] rfl rfl rfl rfl (by kernel_rfl) (by decide) (by decide) (fun K hK => ?_) (fun K hK => ?_)
                  · skip
                    have hs_ := (((hSep.out)).rowCell (enc := Value.int .i32) (0 : Int) i HI.out).1
                    rw [HNM.out] at hs_
                    refine value_ (w1 := ?_) (v := ?_) (by rfl) rfl ?_ ?_
                    rotate_left 2
                    · go_simp
                      constructor
                      · rfl
                      · rfl
                    have hN := ((hSep.out)).tail.unpu (rfl : nm = nm)
                    refine hK.out _ _ trivial (fun hHeld => ?_)
                    clear hK K
                    refine norm_ (a' := ?_) ?_ ?_
                    rotate_left
                    · show Act.put _ (some 36) _ = _
                      simp only [aP]
                      rfl
                    refine pu_ 6 39 ?_ #[J,J,J,J,J,J,J,Z,Z] rfl rfl ?_ ?_ ?_ ?_
                    rotate_left
                    · intro w'
                      go_simp
                      with_reducible rfl
                    rotate_left
                    · simp only [aP]
                      rfl
                    exact norm_ (by first | (simp only [putAll, Act.put, List.setIfInBounds_toArray, List.set_cons_zero, List.set_cons_succ]; done) | (simp only [putAll, Act.put, List.setIfInBounds_toArray, List.set_cons_zero, List.set_cons_succ]; rfl)) (hJ0_3_5 (v0_, nm, v5_) _ hN)
                  · skip
                    refine value_ (w1 := ?_) (v := ?_) (by rfl) rfl ?_ ?_
                    rotate_left 2
                    · go_simp
                      constructor
                      · rfl
                      · rfl
                    have hN := (hSep.out).newBlk 34 #[.int .i32 0, .int .i64 0, .string ⟨#[]⟩]
                    refine hK.out _ _ trivial (fun hHeld => ?_)
                    clear hK K
                    refine norm_ (a' := ?_) ?_ ?_
                    rotate_left
                    · show Act.put _ (some 6) _ = _
                      simp only [aP]
                      rfl
                    exact norm_ (by first | (simp only [putAll, Act.put, List.setIfInBounds_toArray, List.set_cons_zero, List.set_cons_succ]; done) | (simp only [putAll, Act.put, List.setIfInBounds_toArray, List.set_cons_zero, List.set_cons_succ]; rfl)) (hJ0_5_7 (v0_, v5_, (W_).heap.size) _ hN.to3)
              · skip
                rintro ⟨v0_, v3_⟩ W_ hQ_
                have hSep : Aside0 (Sep w0 W_ ((Pu ((v3_) = nm)) :: (UL g3 g4 g2 At nt ct pg mo (.slice Af i cf) fs F))) := ⟨hQ_⟩
                clear hQ_
                have hHeld := trivial
                refine norm_ (a' := ?_) ?_ ?_
                rotate_left
                · simp only [putAll, Act.put, List.setIfInBounds_toArray, List.set_cons_zero, List.set_cons_succ]
                  rfl
                refine two_ (i := 5) (j := 7) (Ni := some 38) (Nj := some 6) #[J,J,J,J,J,J,Z,Z,Z] #[J,J,J,J,J,Z,Z,J,Z] rfl rfl rfl rfl (by kernel_rfl) (by decide) (by decide) (fun K hK => ?_) (fun K hK => ?_)
                · skip
                  refine goes_ Try.func19 (by kernel_rfl) rfl #[.pointer (some ⟨g3, 0, none⟩), .int .i64 3] (by rfl) rfl rfl (by simp only [List.map_toArray, List.map_cons, List.map_nil]; rfl) ?_
                  with_reducible refine (nextU_ HT.out (by first | exact (hSep.out).at2 | exact (hSep.out).at3)).mono ?_
                  rintro e wn_ ⟨vn_, rfl, hS_⟩
                  refine ⟨_, rfl, ?_⟩
                  first | (have hN : Sep w0 wn_ (Pu _ :: _ :: TpX g3 At nt ct :: Blk g4 _ _ :: _) := hS_.sw23) | (have hN := sep24 hS_)
                  clear hS_
                  refine hK.out _ _ trivial (fun hHeld => ?_)
                  clear hK K
                  refine norm_ (a' := ?_) ?_ ?_
                  rotate_left
                  · show Act.put _ (some 38) _ = _
                    simp only [aP]
                    rfl
                  refine pu_ 6 39 ?_ #[J,J,J,J,J,J,J,Z,Z] rfl rfl ?_ ?_ ?_ ?_
                  rotate_left
                  · intro w'
                    go_simp
                    with_reducible rfl
                  rotate_left
                  · simp only [aP]
                    rfl
                  exact norm_ (by first | (simp only [putAll, Act.put, List.setIfInBounds_toArray, List.set_cons_zero, List.set_cons_succ]; done) | (simp only [putAll, Act.put, List.setIfInBounds_toArray, List.set_cons_zero, List.set_cons_succ]; rfl)) (hJ0_3_5 (v0_, v3_, vn_) _ hN.at2)
                · skip
                  refine value_ (w1 := ?_) (v := ?_) (by rfl) rfl ?_ ?_
                  rotate_left 2
                  · go_simp
                    constructor
                    · rfl
                    · rfl
                  have hN := (hSep.out).newBlk 34 #[.int .i32 0, .int .i64 0, .string ⟨#[]⟩]
                  refine hK.out _ _ trivial (fun hHeld => ?_)
                  clear hK K
                  refine norm_ (a' := ?_) ?_ ?_
                  rotate_left
                  · show Act.put _ (some 6) _ = _
                    simp only [aP]
                    rfl
                  exact norm_ (by first | (simp only [putAll, Act.put, List.setIfInBounds_toArray, List.set_cons_zero, List.set_cons_succ]; done) | (simp only [putAll, Act.put, List.setIfInBounds_toArray, List.set_cons_zero, List.set_cons_succ]; rfl)) (hJ0_3_7 (v0_, v3_, (W_).heap.size) _ hN.at2)
            · skip
              rintro ⟨v0_, v5_, v7_⟩ W_ hQ_
              have hSep : Aside0 (Sep w0 W_ ((Row R32 21 (.slice (some ⟨(v0_), 0, none⟩) 5 5) Nms) :: (Pu (0 ≤ (v5_) ∧ (v5_) < 3)) :: (Blk (v7_) 34 #[.int .i32 0, .int .i64 0, .string ⟨#[]⟩]) :: (UL g3 g4 g2 At nt ct pg mo (.slice Af i cf) fs F))) := ⟨hQ_⟩
              clear hQ_
              have hHeld := trivial
              refine norm_ (a' := ?_) ?_ ?_
              rotate_left
              · simp only [putAll, Act.put, List.setIfInBounds_toArray, List.set_cons_zero, List.set_cons_succ]
                rfl
              refine one_ (i := 3) (N := some 36) #[J,J,J,J,J,J,Z,J,Z] rfl rfl (by kernel_rfl) (by decide) (fun K hK => ?_)
              have hs_ := (((hSep.out)).rowCell (enc := Value.int .i32) (0 : Int) i HI.out).1
              rw [HNM.out] at hs_
              refine value_ (w1 := ?_) (v := ?_) (by rfl) rfl ?_ ?_
              rotate_left 2
              · go_simp
                constructor
                · rfl
                · rfl
              have hN := ((hSep.out)).tail.unpu (rfl : nm = nm)
              refine hK.out _ _ trivial (fun hHeld => ?_)
              clear hK K
              refine norm_ (a' := ?_) ?_ ?_
              rotate_left
              · show Act.put _ (some 36) _ = _
                simp only [aP]
                rfl
              refine pu_ 6 39 ?_ #[J,J,J,J,J,J,J,J,Z] rfl rfl ?_ ?_ ?_ ?_
              rotate_left
              · intro w'
                go_simp
                with_reducible rfl
              rotate_left
              · simp only [aP]
                rfl
              exact norm_ (by first | (simp only [putAll, Act.put, List.setIfInBounds_toArray, List.set_cons_zero, List.set_cons_succ]; done) | (simp only [putAll, Act.put, List.setIfInBounds_toArray, List.set_cons_zero, List.set_cons_succ]; rfl)) (hJ0_3_5_7 (v0_, nm, v5_, v7_) _ hN)
          · skip
            rintro ⟨v0_, v3_, v7_⟩ W_ hQ_
            have hSep : Aside0 (Sep w0 W_ ((Pu ((v3_) = nm)) :: (Blk (v7_) 34 #[.int .i32 0, .int .i64 0, .string ⟨#[]⟩]) :: (UL g3 g4 g2 At nt ct pg mo (.slice Af i cf) fs F))) := ⟨hQ_⟩
            clear hQ_
            have hHeld := trivial
            refine norm_ (a' := ?_) ?_ ?_
            rotate_left
            · simp only [putAll, Act.put, List.setIfInBounds_toArray, List.set_cons_zero, List.set_cons_succ]
              rfl
            refine one_ (i := 5) (N := some 38) #[J,J,J,J,J,J,Z,J,Z] rfl rfl (by kernel_rfl) (by decide) (fun K hK => ?_)
            refine goes_ Try.func19 (by kernel_rfl) rfl #[.pointer (some ⟨g3, 0, none⟩), .int .i64 3] (by rfl) rfl rfl (by simp only [List.map_toArray, List.map_cons, List.map_nil]; rfl) ?_
            with_reducible refine (nextU_ HT.out (by first | exact (hSep.out).at2 | exact (hSep.out).at3)).mono ?_
            rintro e wn_ ⟨vn_, rfl, hS_⟩
            refine ⟨_, rfl, ?_⟩
            first | (have hN : Sep w0 wn_ (Pu _ :: _ :: TpX g3 At nt ct :: Blk g4 _ _ :: _) := hS_.sw23) | (have hN := sep24 hS_)
            clear hS_
            refine hK.out _ _ trivial (fun hHeld => ?_)
            clear hK K
            refine norm_ (a' := ?_) ?_ ?_
            rotate_left
            · show Act.put _ (some 38) _ = _
              simp only [aP]
              rfl
            refine pu_ 6 39 ?_ #[J,J,J,J,J,J,J,J,Z] rfl rfl ?_ ?_ ?_ ?_
            rotate_left
            · intro w'
              go_simp
              with_reducible rfl
            rotate_left
            · simp only [aP]
              rfl
            exact norm_ (by first | (simp only [putAll, Act.put, List.setIfInBounds_toArray, List.set_cons_zero, List.set_cons_succ]; done) | (simp only [putAll, Act.put, List.setIfInBounds_toArray, List.set_cons_zero, List.set_cons_succ]; rfl)) (hJ0_3_5_7 (v0_, v3_, vn_, v7_) _ hN.at2)
        · skip
          rintro ⟨v0_, v3_, v5_⟩ W_ hQ_
          have hSep : Aside0 (Sep w0 W_ ((Pu ((v3_) = nm)) :: (Pu (0 ≤ (v5_) ∧ (v5_) < 3)) :: (UL g3 g4 g2 At nt ct pg mo (.slice Af i cf) fs F))) := ⟨hQ_⟩
          clear hQ_
          have hHeld := trivial
          refine norm_ (a' := ?_) ?_ ?_
          rotate_left
          · simp only [putAll, Act.put, List.setIfInBounds_toArray, List.set_cons_zero, List.set_cons_succ]
            rfl
          refine one_ (i := 7) (N := some 6) #[J,J,J,J,J,J,J,J,Z] rfl rfl (by kernel_rfl) (by decide) (fun K hK => ?_)
          refine value_ (w1 := ?_) (v := ?_) (by rfl) rfl ?_ ?_
          rotate_left 2
          · go_simp
            constructor
            · rfl
            · rfl
          have hN := (hSep.out).newBlk 34 #[.int .i32 0, .int .i64 0, .string ⟨#[]⟩]
          refine hK.out _ _ trivial (fun hHeld => ?_)
          clear hK K
          refine norm_ (a' := ?_) ?_ ?_
          rotate_left
          · show Act.put _ (some 6) _ = _
            simp only [aP]
            rfl
          exact norm_ (by first | (simp only [putAll, Act.put, List.setIfInBounds_toArray, List.set_cons_zero, List.set_cons_succ]; done) | (simp only [putAll, Act.put, List.setIfInBounds_toArray, List.set_cons_zero, List.set_cons_succ]; rfl)) (hJ0_3_5_7 (v0_, v3_, v5_, (W_).heap.size) _ hN.to3)
      rintro ⟨v0_, v3_, v5_, v7_⟩ W_ hQ_
      have hSep : Aside0 (Sep w0 W_ ((Pu ((v3_) = nm)) :: (Pu (0 ≤ (v5_) ∧ (v5_) < 3)) :: (Blk (v7_) 34 #[.int .i32 0, .int .i64 0, .string ⟨#[]⟩]) :: (UL g3 g4 g2 At nt ct pg mo (.slice Af i cf) fs F))) := ⟨hQ_⟩
      clear hQ_
      have hHeld := trivial
      obtain ⟨h3_, hT_⟩ := hSep.out.pu
      obtain ⟨h5_, hT2_⟩ := hT_.pu
      have h3s := h3_.symm
      subst h3s
      obtain ⟨ar, har_⟩ : ∃ p, p = v5_ := ⟨_, rfl⟩
      subst har_
      obtain ⟨h5a, h5b⟩ := h5_
      obtain ⟨g6, hp_⟩ : ∃ p, p = v7_ := ⟨_, rfl⟩
      subst hp_
      obtain ⟨d0, f0, d1, f1, d2, f2, hS10⟩ := store3 (.int .i32 nm) (.int .i64 ar) (.string ⟨#[]⟩) hT2_
      have B1' := Aside0.mk hS10
      clear hS10 hT_ hT2_
      refine norm_ (a' := ?_) ?_ ?_
      rotate_left
      · simp only [putAll, Act.put, List.setIfInBounds_toArray, List.set_cons_zero, List.set_cons_succ]
        rfl
      refine last_ (i := 8) (N := none) #[J,J,J,J,J,J,J,J,J] rfl rfl (by kernel_rfl) (by decide) (fun K hK => ?_)
      refine skip_ (w1 := ?_) (by rfl) rfl ?_ ?_
      rotate_left
      · go_simp
        rfl
      refine hK.out _ _ ?_
      clear hK K
      refine done_ (by kernel_rfl) ?_
      obtain ⟨w8, hw_⟩ : ∃ w_, ((W_.setCell ⟨g6, 0, none⟩ (.int .i32 nm)).setCell ⟨g6, 1, none⟩ (.int .i64 ar)).setCell ⟨g6, 2, none⟩ (.string ⟨#[]⟩) = w_ := ⟨_, rfl⟩
      have B9 : Aside0 (Sep w0 w8 (TpX g3 At nt ct :: Blk g6 34 #[.int .i32 nm, .int .i64 ar, .string ⟨#[]⟩] :: Blk g4 30 #[.int .i64 pg, .int .i64 mo, .slice Af i cf] :: RowU (.slice Af i cf) fs :: Blk g2 30 #[.int .i64 0, .int .i64 0, .slice none 0 0] :: F)) := ⟨by have h_ := B1'.out; rw [hw_] at h_; exact h_.at2⟩
      rw [hw_]
      clear hw_ B1' d0 d1 d2 f0 f1 f2
      go_wp2_with fail
      refine (nextX_ HT.out B9.out 4).mono ?_
      rintro e w9 ⟨r9, rfl, hr9, hS⟩
      obtain ⟨K, rfl⟩ := Int.eq_ofNat_of_zero_le hr9.1
      have hK4 : K < 4 := by have := hr9.2.1 (by decide); omega
      have B10 := Aside0.mk hS
      clear hS hr9
      go_wp2_with fail
      go_loopg [7, 8] K (fun m u q wx => ∃ (k : Nat) (s : ByteArray), k = m ∧ k < 4 ∧ u = .string s ∧ q = .int .i64 (k : Int) ∧ s.size ≤ 250 ∧ Sep w0 wx (TpX g3 At nt ct :: Blk g6 34 #[.int .i32 nm, .int .i64 ar, .string ⟨#[]⟩] :: Blk g4 30 #[.int .i64 pg, .int .i64 mo, .slice Af i cf] :: RowU (.slice Af i cf) fs :: Blk g2 30 #[.int .i64 0, .int .i64 0, .slice none 0 0] :: F))
      case atStart => exact ⟨K, ⟨#[]⟩, rfl, hK4, rfl, rfl, by simp [szA], B10.out⟩
      case round =>
        obtain ⟨k, sx, rfl, hk4, rfl, rfl, hsx, hS⟩ := hrel
        have x42 : wr.cell? ⟨g4, 2, none⟩ = some (.slice Af i cf) := (hS.at3.cell 2).trans rfl
        have B10 := Aside0.mk hS
        by_cases hk : 0 < k
        · have hkd : decide (0 < (k : Int)) = true := decide_eq_true (by omega)
          have hkw : wrap64 ((k : Int) - 1) = ((k - 1 : Nat) : Int) := by rw [IntWalk.wrap64_in _ (by omega)]; omega
          have HKW := Aside0.mk hkw
          have HK4 := Aside0.mk hk4
          clear hS
          go_wp2_with fail
          refine (deedX_ HT.out HFA.out (fun W' h' => h'.at3.rowC') B10.out).mono ?_
          rintro e w11 ⟨⟨dx, rfl, hdx⟩, hS⟩
          have B11 := Aside0.mk hS
          have hz1 : ¬ 9223372036854775807 < sx.size + dx.size := by omega
          have hzw : wrap64 ((sx.size : Int) + (dx.size : Int)) = (sx.size : Int) + (dx.size : Int) := IntWalk.wrap64_in _ (by omega)
          clear hS x42 hk4
          by_cases h250 : (sx.size : Int) + (dx.size : Int) < 250
          · have h250d : decide ((sx.size : Int) + (dx.size : Int) < 250) = true := decide_eq_true h250
            go_wp2_with fail
            refine (halts_ dx (by omega)).mono ?_
            rintro e w_ ⟨⟨bh, rfl⟩, rfl⟩
            cases bh with
            | false =>
              have HSZ := Aside0.mk h250
              clear hsx hdx h250 hkw
              go_wp2_with fail
              go_roundg (k - 1)
              case measure => omega
              case rel => exact ⟨k - 1, sx ++ dx, rfl, by have := HK4.out; omega, rfl, by first | rfl | (rw [HKW.out]) | (congr 1; omega), sz250 HSZ.out, B11.out⟩
            | true =>
              have HSX := Aside0.mk hsx
              clear hdx h250 hkw
              go_wp2_with fail
              go_roundg (k - 1)
              case measure => omega
              case rel => exact ⟨k - 1, sx, rfl, by have := HK4.out; omega, rfl, by first | rfl | (rw [HKW.out]) | (congr 1; omega), HSX.out, B11.out⟩
          · have h250d : decide ((sx.size : Int) + (dx.size : Int) < 250) = false := decide_eq_false h250
            have HSX := Aside0.mk hsx
            clear hdx h250 hkw
            go_wp2_with fail
            go_roundg (k - 1)
            case measure => omega
            case rel => exact ⟨k - 1, sx, rfl, by have := HK4.out; omega, rfl, by first | rfl | (rw [HKW.out]) | (congr 1; omega), HSX.out, B11.out⟩
        · have hkd : decide (0 < (k : Int)) = false := decide_eq_false (by omega)
          clear hS
          go_wp2_with fail
          refine (valueX_ HT.out HFA.out (fun W' h' => h'.at3.rowC') B10.out).mono ?_
          rintro e w11 ⟨⟨vx, rfl, hvx⟩, hS⟩
          have B11 := Aside0.mk hS
          have hzw : wrap64 ((sx.size : Int) + (vx.size : Int)) = (sx.size : Int) + (vx.size : Int) := IntWalk.wrap64_in _ (by omega)
          clear hS x42 hk4
          by_cases h400 : 400 < (sx.size : Int) + (vx.size : Int)
          · have h400d : decide (400 < (sx.size : Int) + (vx.size : Int)) = true := decide_eq_true h400
            clear h400
            go_upto_region 18 with fail
            clear h400d hzw hvx
            obtain ⟨vx, hvx2⟩ : ∃ vx : ByteArray, (⟨#[32, 53]⟩ : ByteArray) = vx := ⟨_, rfl⟩
            have hvx : vx.size ≤ 1600 := by rw [← hvx2]; decide
            rw [hvx2]
            clear hvx2
            have hcs : sx.size + vx.size ≤ 1000000 := by omega
            have hzc : ¬ 9223372036854775807 < sx.size + vx.size := by omega
            have y6c : w11.cell? ⟨g6, 2, none⟩ = some (.string ⟨#[]⟩) := (B11.out.at2.cell 2).trans rfl
            have y6f : w11.frozen? ⟨g6, 2, none⟩ = false := B11.out.at2.frozen 2
            have B12 := Aside0.mk ((B11.out.at2).setBlk 2 (.string (sx ++ vx)))
            clear hcs
            go_upto_region 19 with fail
            obtain ⟨w12, hw12⟩ : ∃ x, w11.setCell ⟨g6, 2, none⟩ (.string (sx ++ vx)) = x := ⟨_, rfl⟩
            rw [hw12] at B12 ⊢
            obtain ⟨code, hcode⟩ : ∃ x, sx ++ vx = x := ⟨_, rfl⟩
            rw [hcode] at B12
            clear hw12 y6c y6f hzc hcode
            have z0 : w12.cell? ⟨g6, 0, none⟩ = some (.int .i32 nm) := (B12.out.cell 0).trans rfl
            have z1 : w12.cell? ⟨g6, 1, none⟩ = some (.int .i64 ar) := (B12.out.cell 1).trans rfl
            have z2 : w12.cell? ⟨g6, 2, none⟩ = some (.string code) := (B12.out.cell 2).trans rfl
            have z4 : w12.cell? ⟨g4, 2, none⟩ = some (.slice Af i cf) := (B12.out.at3.cell 2).trans rfl
            have B13 : Aside0 (Sep w0 w12 (RowU (.slice Af i cf) fs :: TpX g3 At nt ct :: Blk g4 30 #[.int .i64 pg, .int .i64 mo, .slice Af i cf] :: Blk g2 30 #[.int .i64 0, .int .i64 0, .slice none 0 0] :: F)) := ⟨(B12.out.tail).at3⟩
            have L := Aside0.mk ((oneFn B13.out ⟨nm, ar, code⟩).at2)
            clear B12 B11
            go_upto_region 20 with (first | (refine gate_builtin (b := .append) (xs := #[.tmp 79, .tmp 81]) rfl ?_; go_loud (refine L.out.appendRaw rfl (.tmp 79) (.tmp 81) 28 (.agg #[.int .i32 0, .int .i64 0, .string ⟨#[]⟩]) 32 rfl Try.underlying28 infoFnc rfl (by decide) (by decide) (some ⟨w12.heap.size, 0, none⟩) 1 1 rfl rfl L.out.at2.rowC' (by rw [List.length_map, HFS.out.1]; simp; omega) ?_; intro v13 w13 hS13; obtain ⟨A13, c13, rfl⟩ := hS13.rowFormN (n := i + 1) (by simp; exact HFS.out.1) (by omega); have y4c : w13.cell? ⟨g4, 2, none⟩ = some (.slice Af i cf) := (hS13.at4.cell 2).trans rfl; have y4f : w13.frozen? ⟨g4, 2, none⟩ = false := hS13.at4.frozen 2; have B14 := Aside0.mk ((hS13.at4).setBlk 2 (.slice (some ⟨A13, 0, none⟩) (i + 1) c13)); clear hS13)))
            obtain ⟨w14, hw14⟩ : ∃ x, w13.setCell ⟨g4, 2, none⟩ (.slice (some ⟨A13, 0, none⟩) (i + 1) c13) = x := ⟨_, rfl⟩
            rw [hw14] at B14 ⊢
            clear hw14 y4c y4f L B13
            have B15 : Aside0 (Sep w0 w14 (UL g3 g4 g2 At nt ct pg mo (.slice (some ⟨A13, 0, none⟩) (i + 1) c13) (fs ++ [(⟨nm, ar, code⟩ : Fnc)]) F)) := ⟨by
              have h9 := B14.out.at2.at3.tail.at3
              show Sep w0 w14 (TpX g3 At nt ct :: _ :: Row (Kd.raw 3) 34 _ ((fs ++ [(⟨nm, ar, code⟩ : Fnc)]).map cellF) :: _)
              rw [List.map_append]
              exact unitPerm B14.out⟩
            have y40 : w14.cell? ⟨g4, 0, none⟩ = some (.int .i64 pg) := (B15.out.at2.cell 0).trans rfl
            have y41 : w14.cell? ⟨g4, 1, none⟩ = some (.int .i64 mo) := (B15.out.at2.cell 1).trans rfl
            have y42 : w14.cell? ⟨g4, 2, none⟩ = some (.slice (some ⟨A13, 0, none⟩) (i + 1) c13) := (B15.out.at2.cell 2).trans rfl
            clear B14 z0 z1 z2 z4
            go_wp2_with fail
            refine (Fn.func_ (fs := fs ++ [(⟨nm, ar, code⟩ : Fnc)]) (fun W' h' => h'.at3.rowC') B15.out (i : Int)).mono ?_
            rintro e w16 ⟨v16, er, rfl, hok, hS16⟩
            have B16 := Aside0.mk hS16
            have HOK := Aside0.mk hok
            clear hS16 hok y40 y41 y42
            by_cases her : er = 0
            · have hok2 := HOK.out her
              subst her
              have HG : Aside0 (∀ f ∈ fs ++ [(⟨nm, ar, code⟩ : Fnc)], Good f) := ⟨goodSnoc HFS.out.2 HFS.out.1 ⟨h5a, h5b⟩ hok2⟩
              clear hok2
              go_wp2_with fail
              go_roundg (G - 1)
              case measure => have := AI.out; omega
              case rel => exact ⟨i + 1, _, pg, mo, fs ++ [(⟨nm, ar, code⟩ : Fnc)], by have := AI.out; omega, by omega, by go_num, by rw [List.length_append, HFS.out.1]; rfl, HG.out, B16.out⟩
            · have herb : (er != 0) = true := by simp [her]
              have q42 : w16.cell? ⟨g4, 2, none⟩ = some (.slice (some ⟨A13, 0, none⟩) (i + 1) c13) := (B16.out.at2.cell 2).trans rfl
              obtain ⟨x3, xf⟩ := unitAt (i := i) (f := ⟨nm, ar, code⟩) B16.out.at3 (by rw [List.getElem?_append_right (by rw [HFS.out.1]; exact Nat.le_refl _), HFS.out.1, Nat.sub_self]; rfl)
              have B17 := Aside0.mk (unitPut (fs := fs) (f := ⟨nm, ar, code⟩) (s := ⟨#[97, 32, 49, 43]⟩) HFS.out.1 B16.out.at3)
              have hii : (i : Int) < (i : Int) + 1 := by omega
              have HG : Aside0 (∀ f ∈ fs ++ [(⟨nm, ar, ⟨#[97, 32, 49, 43]⟩⟩ : Fnc)], Good f) := ⟨fun f hf => by
                rcases List.mem_append.1 hf with hf | hf
                · exact HFS.out.2 f hf
                · rw [List.mem_singleton.1 hf]
                  exact good_dummy ⟨h5a, by omega⟩⟩
              clear her
              go_wp2_with fail
              go_roundg (G - 1)
              case measure => have := AI.out; omega
              case rel => exact ⟨i + 1, _, pg, mo, fs ++ [(⟨nm, ar, ⟨#[97, 32, 49, 43]⟩⟩ : Fnc)], by have := AI.out; omega, by omega, by go_num, by rw [List.length_append, HFS.out.1]; rfl, HG.out, B17.out.to3⟩
          · have h400d : decide (400 < (sx.size : Int) + (vx.size : Int)) = false := decide_eq_false h400
            clear h400
            go_upto_region 18 with fail
            clear h400d hzw
            have hcs : sx.size + vx.size ≤ 1000000 := by omega
            have hzc : ¬ 9223372036854775807 < sx.size + vx.size := by omega
            have y6c : w11.cell? ⟨g6, 2, none⟩ = some (.string ⟨#[]⟩) := (B11.out.at2.cell 2).trans rfl
            have y6f : w11.frozen? ⟨g6, 2, none⟩ = false := B11.out.at2.frozen 2
            have B12 := Aside0.mk ((B11.out.at2).setBlk 2 (.string (sx ++ vx)))
            clear hcs
            go_upto_region 19 with fail
            obtain ⟨w12, hw12⟩ : ∃ x, w11.setCell ⟨g6, 2, none⟩ (.string (sx ++ vx)) = x := ⟨_, rfl⟩
            rw [hw12] at B12 ⊢
            obtain ⟨code, hcode⟩ : ∃ x, sx ++ vx = x := ⟨_, rfl⟩
            rw [hcode] at B12
            clear hw12 y6c y6f hzc hcode
            have z0 : w12.cell? ⟨g6, 0, none⟩ = some (.int .i32 nm) := (B12.out.cell 0).trans rfl
            have z1 : w12.cell? ⟨g6, 1, none⟩ = some (.int .i64 ar) := (B12.out.cell 1).trans rfl
            have z2 : w12.cell? ⟨g6, 2, none⟩ = some (.string code) := (B12.out.cell 2).trans rfl
            have z4 : w12.cell? ⟨g4, 2, none⟩ = some (.slice Af i cf) := (B12.out.at3.cell 2).trans rfl
            have B13 : Aside0 (Sep w0 w12 (RowU (.slice Af i cf) fs :: TpX g3 At nt ct :: Blk g4 30 #[.int .i64 pg, .int .i64 mo, .slice Af i cf] :: Blk g2 30 #[.int .i64 0, .int .i64 0, .slice none 0 0] :: F)) := ⟨(B12.out.tail).at3⟩
            have L := Aside0.mk ((oneFn B13.out ⟨nm, ar, code⟩).at2)
            clear B12 B11
            go_upto_region 20 with (first | (refine gate_builtin (b := .append) (xs := #[.tmp 79, .tmp 81]) rfl ?_; go_loud (refine L.out.appendRaw rfl (.tmp 79) (.tmp 81) 28 (.agg #[.int .i32 0, .int .i64 0, .string ⟨#[]⟩]) 32 rfl Try.underlying28 infoFnc rfl (by decide) (by decide) (some ⟨w12.heap.size, 0, none⟩) 1 1 rfl rfl L.out.at2.rowC' (by rw [List.length_map, HFS.out.1]; simp; omega) ?_; intro v13 w13 hS13; obtain ⟨A13, c13, rfl⟩ := hS13.rowFormN (n := i + 1) (by simp; exact HFS.out.1) (by omega); have y4c : w13.cell? ⟨g4, 2, none⟩ = some (.slice Af i cf) := (hS13.at4.cell 2).trans rfl; have y4f : w13.frozen? ⟨g4, 2, none⟩ = false := hS13.at4.frozen 2; have B14 := Aside0.mk ((hS13.at4).setBlk 2 (.slice (some ⟨A13, 0, none⟩) (i + 1) c13)); clear hS13)))
            obtain ⟨w14, hw14⟩ : ∃ x, w13.setCell ⟨g4, 2, none⟩ (.slice (some ⟨A13, 0, none⟩) (i + 1) c13) = x := ⟨_, rfl⟩
            rw [hw14] at B14 ⊢
            clear hw14 y4c y4f L B13
            have B15 : Aside0 (Sep w0 w14 (UL g3 g4 g2 At nt ct pg mo (.slice (some ⟨A13, 0, none⟩) (i + 1) c13) (fs ++ [(⟨nm, ar, code⟩ : Fnc)]) F)) := ⟨by
              have h9 := B14.out.at2.at3.tail.at3
              show Sep w0 w14 (TpX g3 At nt ct :: _ :: Row (Kd.raw 3) 34 _ ((fs ++ [(⟨nm, ar, code⟩ : Fnc)]).map cellF) :: _)
              rw [List.map_append]
              exact unitPerm B14.out⟩
            have y40 : w14.cell? ⟨g4, 0, none⟩ = some (.int .i64 pg) := (B15.out.at2.cell 0).trans rfl
            have y41 : w14.cell? ⟨g4, 1, none⟩ = some (.int .i64 mo) := (B15.out.at2.cell 1).trans rfl
            have y42 : w14.cell? ⟨g4, 2, none⟩ = some (.slice (some ⟨A13, 0, none⟩) (i + 1) c13) := (B15.out.at2.cell 2).trans rfl
            clear B14 z0 z1 z2 z4
            go_wp2_with fail
            refine (Fn.func_ (fs := fs ++ [(⟨nm, ar, code⟩ : Fnc)]) (fun W' h' => h'.at3.rowC') B15.out (i : Int)).mono ?_
            rintro e w16 ⟨v16, er, rfl, hok, hS16⟩
            have B16 := Aside0.mk hS16
            have HOK := Aside0.mk hok
            clear hS16 hok y40 y41 y42
            by_cases her : er = 0
            · have hok2 := HOK.out her
              subst her
              have HG : Aside0 (∀ f ∈ fs ++ [(⟨nm, ar, code⟩ : Fnc)], Good f) := ⟨goodSnoc HFS.out.2 HFS.out.1 ⟨h5a, h5b⟩ hok2⟩
              clear hok2
              go_wp2_with fail
              go_roundg (G - 1)
              case measure => have := AI.out; omega
              case rel => exact ⟨i + 1, _, pg, mo, fs ++ [(⟨nm, ar, code⟩ : Fnc)], by have := AI.out; omega, by omega, by go_num, by rw [List.length_append, HFS.out.1]; rfl, HG.out, B16.out⟩
            · have herb : (er != 0) = true := by simp [her]
              have q42 : w16.cell? ⟨g4, 2, none⟩ = some (.slice (some ⟨A13, 0, none⟩) (i + 1) c13) := (B16.out.at2.cell 2).trans rfl
              obtain ⟨x3, xf⟩ := unitAt (i := i) (f := ⟨nm, ar, code⟩) B16.out.at3 (by rw [List.getElem?_append_right (by rw [HFS.out.1]; exact Nat.le_refl _), HFS.out.1, Nat.sub_self]; rfl)
              have B17 := Aside0.mk (unitPut (fs := fs) (f := ⟨nm, ar, code⟩) (s := ⟨#[97, 32, 49, 43]⟩) HFS.out.1 B16.out.at3)
              have hii : (i : Int) < (i : Int) + 1 := by omega
              have HG : Aside0 (∀ f ∈ fs ++ [(⟨nm, ar, ⟨#[97, 32, 49, 43]⟩⟩ : Fnc)], Good f) := ⟨fun f hf => by
                rcases List.mem_append.1 hf with hf | hf
                · exact HFS.out.2 f hf
                · rw [List.mem_singleton.1 hf]
                  exact good_dummy ⟨h5a, by omega⟩⟩
              clear her
              go_wp2_with fail
              go_roundg (G - 1)
              case measure => have := AI.out; omega
              case rel => exact ⟨i + 1, _, pg, mo, fs ++ [(⟨nm, ar, ⟨#[97, 32, 49, 43]⟩⟩ : Fnc)], by have := AI.out; omega, by omega, by go_num, by rw [List.length_append, HFS.out.1]; rfl, HG.out, B17.out.to3⟩
    · have hid : decide ((i : Int) < 1 + r7) = false := decide_eq_false hi
      have x0 : w7.cell? ⟨g4, 0, none⟩ = some (.int .i64 pg) := (B8.out.at2.cell 0).trans rfl
      have x1 : w7.cell? ⟨g4, 1, none⟩ = some (.int .i64 mo) := (B8.out.at2.cell 1).trans rfl
      have x2 : w7.cell? ⟨g4, 2, none⟩ = some (.slice Af i cf) := (B8.out.at2.cell 2).trans rfl
      obtain ⟨d0, f0, d1, f1, d2, f2, hS10⟩ := store3 (.int .i64 pg) (.int .i64 mo) (.slice Af i cf) B8.out.at4
      have q3 := (hS10.cell 0).trans rfl
      have q4 := (hS10.cell 1).trans rfl
      have q5 := (hS10.cell 2).trans rfl
      have B9 := Aside0.mk (hS10.at4.drop2.drop2.drop2)
      have hi3 := hi33
      clear hS10
      go_wp2_with fail
      refine bodyPost_ret (v := uV pg mo Af i cf) (by rw [results_cell1 rfl]; go_simp) rfl ?_
      exact ⟨_, rfl, pg, mo, Af, i, cf, fs, rfl, HFS.out.1, hi3, HFS.out.2, B9.out⟩
end
end Go.Proofs.Ytkkgfpdjlohojaa.Keep
namespace Go.Proofs.Ytkkgfpdjlohojaa.Law8
open Go.RowKit Go.Proofs.YtkkgfpdjlohojaaW.PrintWords Go.Proofs.YtkkgfpdjlohojaaW.PrintLast Go.Proofs.YtkkgfpdjlohojaaW.PrintMore Go.Proofs.Ytkkgfpdjlohojaa.Kit
open Go.Proofs.Ytkkgfpdjlohojaa.NestP Go.Proofs.Ytkkgfpdjlohojaa.TokP Go.Proofs.Ytkkgfpdjlohojaa.Tok
open Go.Proofs.Ytkkgfpdjlohojaa.Fn (FC Fnc cellF uV uB)
open Go.Proofs.Ytkkgfpdjlohojaa.Keep (RowU UnitP)
theorem sgn_len (l : List Tok) : (sgn l).length = l.length := by unfold sgn; rw [List.length_map]
section
variable {w0 W : World} {F : List HP}
theorem ofQ_ {A : Option Addr} {n c : Nat} {l : List Tok} {m : MS} (hm : matchN (sgn l) = some m) (hC : ∀ W', Sep w0 W' F → TC W' A n l) (h : Sep w0 W F) (hn : n ≤ 1000000) :
    Calls Try.prog 13 #[.slice A n c] W fun e w' => ∃ A6 c6, e = .returned (.tuple #[.slice A6 n c6, .int .i64 0]) ∧ Sep w0 w' (Row I64 3 (.slice A6 n c6) m.tt :: F) := by
  refine (Nest.of_ hC h hn).mono ?_
  intro e w' hA
  rw [hm] at hA
  obtain ⟨v, rfl, hS⟩ := hA
  obtain ⟨A6, c6, rfl⟩ := hS.rowN (n := n) (by rw [(within hm).1, sgn_len, (hC W h).len])
  exact ⟨A6, c6, rfl, hS⟩
theorem deepQ_ {A : Option Addr} {n c : Nat} {l : List Tok} {m : MS} (hm : matchN (sgn l) = some m) (hC : ∀ W', Sep w0 W' F → TC W' A n l) (h : Sep w0 W F) (hn : n ≤ 1000000) :
    Calls Try.prog 14 #[.slice A n c] W fun e w' => e = .returned (.int .i64 (m.deep : Int)) ∧ Sep w0 w' F := by
  refine (Nest.deep_ hC h hn).mono ?_
  intro e w' hA
  rw [hm] at hA
  exact hA
end
end Go.Proofs.Ytkkgfpdjlohojaa.Law8
