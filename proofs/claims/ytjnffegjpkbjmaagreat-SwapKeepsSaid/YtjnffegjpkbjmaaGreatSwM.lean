/- The document's Make over frames that are all free. -/
import Derived.Test.YtjnffegjpkbjmaaGreatSwP
import Derived.Test.YtjnffegjpkbjmaaGreatTsB
/- merged: YtjnffegjpkbjmaaGreatSxP -/
set_option linter.unusedVariables false
set_option linter.unusedSimpArgs false
namespace Go.Proofs.YtjnffegjpkbjmaaGreat.Pure
open Go.RowKit Go.Proofs.YtjnffegjpkbjmaaGreat.QTsbPlays Go.Proofs.YtjnffegjpkbjmaaGreatW.PrintWords Go.Proofs.YtjnffegjpkbjmaaGreatW.PrintLast Go.Proofs.YtjnffegjpkbjmaaGreatW.PrintMore
theorem rManyF (F n : Nat) (h1 : 1 ≤ n) (h2 : n ≤ 8) (h3 : n ≤ F) (h4 : F ≤ 20) : lookasideref05_TakeMany.f 40 (F : Int) [] (n : Int) = some ((F : Int), upto n, 0, 0) := by
  have hn : n = 1 ∨ n = 2 ∨ n = 3 ∨ n = 4 ∨ n = 5 ∨ n = 6 ∨ n = 7 ∨ n = 8 := by omega
  have hF : F = 1 ∨ F = 2 ∨ F = 3 ∨ F = 4 ∨ F = 5 ∨ F = 6 ∨ F = 7 ∨ F = 8 ∨ F = 9 ∨ F = 10 ∨ F = 11 ∨ F = 12 ∨ F = 13 ∨ F = 14 ∨ F = 15 ∨ F = 16 ∨ F = 17 ∨ F = 18 ∨ F = 19 ∨ F = 20 := by omega
  rcases hn with rfl | rfl | rfl | rfl | rfl | rfl | rfl | rfl <;> rcases hF with rfl | rfl | rfl | rfl | rfl | rfl | rfl | rfl | rfl | rfl | rfl | rfl | rfl | rfl | rfl | rfl | rfl | rfl | rfl | rfl <;> first | (exfalso; omega) | decide +kernel
end Go.Proofs.YtjnffegjpkbjmaaGreat.Pure
namespace Go.Proofs.YtjnffegjpkbjmaaGreat.Mem
open Go.RowKit Go.Maps Go.Proofs.YtjnffegjpkbjmaaGreatW.PrintWords Go.Proofs.YtjnffegjpkbjmaaGreatW.PrintLast Go.Proofs.YtjnffegjpkbjmaaGreatW.PrintMore Go.Proofs.YtjnffegjpkbjmaaGreat.QTsbPlays Go.Proofs.YtjnffegjpkbjmaaGreat.Pure
set_option linter.unusedSimpArgs false
set_option linter.unusedVariables false
section
set_option maxHeartbeats 2000000
set_option maxRecDepth 100000
noncomputable def rmake7_T : Bool × List (List Nat × List Nat) := rtab .any (opsOf Tryz.f26 7)
theorem rmake7_tab : rtab .any (opsOf Tryz.f26 7) = rmake7_T := rfl
theorem rmake13_calls (F s g : Nat) (hs : s < 4) (hg : g < 4) (h3 : frsW s g ≤ F) (h4 : F ≤ 20) (W : World) :
    Calls Tryz.prog 26 #[.agg #[.int .i64 (F : Int), .slice none 0 0], .int .i64 (s : Int), .int .i64 (g : Int)] W fun e W' => ∃ A1 n1 c1 A c, e = .returned (.tuple #[.agg #[.int .i64 (F : Int), .slice A1 n1 c1], .agg #[.int .i64 (s : Int), .int .i64 (plcs s g : Int), .slice A 0 c, .int .i64 0, .int .i64 (g : Int)], .int .i64 0]) ∧ Kd.R k141 141 W' W.heap.size (fun _ => True) (.slice A 0 c) [] ∧ W.grownBy W' none := by
  have hu := Tryz.underlying32
  have hu2 := Tryz.underlying66
  have hin := frs_in s g hs hg
  have HFR := Aside0.mk (Pure.rFrames (s : Int) (g : Int))
  have HMY := Aside0.mk (rManyF F (frsW (s : Int) (g : Int)) hin.1 hin.2.1 h3 h4)
  have HNF := Aside0.mk (show lookasideref10_New.f (s : Int) (g : Int) = some ((s : Int), (plcs s g : Int), []) by unfold lookasideref10_New.f; rw [rPlaces s g hs hg]; rfl)
  have hfz : ((frsW (s : Int) (g : Int) : Int) == 0) = false := by simpa using (show ¬ frsW (s : Int) (g : Int) = 0 by omega)
  generalize frsW (s : Int) (g : Int) = fr at HFR HMY hfz
  clear hin h3 h4 hs hg
  have hga := World.grownBy_alloc W (.cells #[.int .i64 (F : Int), .slice none 0 0] 32) none
  have hb2 := heap_alloc_new W (.cells #[.int .i64 (F : Int), .slice none 0 0] 32)
  have hgb := World.grownBy_alloc (W.alloc (.cells #[.int .i64 (F : Int), .slice none 0 0] 32)) (.cells #[.int .i64 0, .slice none 0 0] 32) none
  have hb3 := heap_alloc_new (W.alloc (.cells #[.int .i64 (F : Int), .slice none 0 0] 32)) (.cells #[.int .i64 0, .slice none 0 0] 32)
  have hgc := World.grownBy_alloc ((W.alloc (.cells #[.int .i64 (F : Int), .slice none 0 0] 32)).alloc (.cells #[.int .i64 0, .slice none 0 0] 32)) (.cells #[.int .i64 0, .int .i64 0, .slice none 0 0, .int .i64 0, .int .i64 0] 66) none
  have hb4 := heap_alloc_new ((W.alloc (.cells #[.int .i64 (F : Int), .slice none 0 0] 32)).alloc (.cells #[.int .i64 0, .slice none 0 0] 32)) (.cells #[.int .i64 0, .int .i64 0, .slice none 0 0, .int .i64 0, .int .i64 0] 66)
  have hz3 : (W.alloc (.cells #[.int .i64 (F : Int), .slice none 0 0] 32)).heap.size = W.heap.size + 1 := by simp only [World.size_alloc]
  have hz4 : ((W.alloc (.cells #[.int .i64 (F : Int), .slice none 0 0] 32)).alloc (.cells #[.int .i64 0, .slice none 0 0] 32)).heap.size = W.heap.size + 1 + 1 := by simp only [World.size_alloc]
  rw [hz3] at hb3
  rw [hz4] at hb4
  have HG := Aside0.mk (grown_two (grown_two hga hgb) hgc)
  have HB3 := Aside0.mk (blk_grown (blk_grown hb2 hgb) hgc)
  have HB6 := Aside0.mk (blk_grown hb3 hgc)
  have HB7 := Aside0.mk hb4
  clear hga hb2 hgb hb3 hgc hb4 hz3 hz4
  go_enter Tryz.func26, Tryz.ntmps26
  go_wp2_with fail
  obtain ⟨b6, h6⟩ : ∃ z, z = W.heap.size + 1 := ⟨_, rfl⟩
  obtain ⟨b7, h7⟩ : ∃ z, z = W.heap.size + 1 + 1 := ⟨_, rfl⟩
  rw [← h7] at HB7
  rw [← h6] at HB6
  rw [← h7, ← h6]
  have HHA := Aside0.mk (And.intro h6 h7)
  clear h6 h7
  refine (lookasideref13_Frames.calls 40 _ _ _ _ HFR.out).mono ?_
  rintro x0 w1 ⟨rfl, hb⟩
  have hg := below_grown hb
  replace HG := Aside0.mk (grown_two HG.out hg)
  replace HB3 := Aside0.mk (blk_grown HB3.out hg)
  replace HB6 := Aside0.mk (blk_grown HB6.out hg)
  replace HB7 := Aside0.mk (blk_grown HB7.out hg)
  clear hb hg
  have y0 := (blk_cell HB3.out 0).trans rfl
  have y1 := (blk_cell HB3.out 1).trans rfl
  go_wp2_with fail
  refine (lookasideref05_TakeMany.calls 40 (F : Int) (fun _ => False) none 0 [] (fr : Int) (F : Int) (upto fr) 0 0 _ (Kd.V_nil _ _ _ _ _) HMY.out).mono ?_
  rintro x0 w2 ⟨v1, rfl, hV, hb⟩
  obtain ⟨A1, c1, rfl⟩ := Kd.V_slice hV
  generalize (upto fr).length = n1
  have hg := below_grown hb
  replace HG := Aside0.mk (grown_two HG.out hg)
  replace HB6 := Aside0.mk (blk_grown HB6.out hg)
  replace HB7 := Aside0.mk (blk_grown HB7.out hg)
  clear hb hg hV y0 y1 hfz HB3
  have hg := World.grownBy_alloc w2 (.cells #[.int .i64 (F : Int), .slice A1 n1 c1] 32) none
  have HB10 := Aside0.mk (heap_alloc_new w2 (.cells #[.int .i64 (F : Int), .slice A1 n1 c1] 32))
  have HH := Aside0.mk (show W.heap.size ≤ b6 ∧ W.heap.size ≤ b7 ∧ b6 ≠ b7 ∧ b6 < w2.heap.size ∧ b7 < w2.heap.size from ⟨by have := HHA.out; omega, by have := HHA.out; omega, by have := HHA.out; omega, blk_lt HB6.out, blk_lt HB7.out⟩)
  replace HG := Aside0.mk (grown_two HG.out hg)
  replace HB6 := Aside0.mk (blk_grown HB6.out hg)
  replace HB7 := Aside0.mk (blk_grown HB7.out hg)
  clear hg HHA
  go_upto_region 7 with fail
  generalize w2.heap.size = b10 at HB10 HH ⊢
  generalize w2.alloc (.cells #[.int .i64 (F : Int), .slice A1 n1 c1] 32) = w3 at HG HB6 HB7 HB10 ⊢
  have hg := grown_drew w3 none
  replace HG := Aside0.mk (grown_two HG.out hg)
  replace HB6 := Aside0.mk (blk_grown HB6.out hg)
  replace HB7 := Aside0.mk (blk_grown HB7.out hg)
  replace HB10 := Aside0.mk (blk_grown HB10.out hg)
  clear hg
  refine start_ (n := 10) (S := fun w' => w'.heap[b10]? = some (.cells #[.int .i64 (F : Int), .slice A1 n1 c1] 32 (0, 0))) (ds := [8]) #[false, false, false, false, false, false, false, false, false, false] (by kernel_rfl) rfl rfl HB10.out (fun hHeld => ?_)
  refine with_tab rmake7_tab (fun HT_ => ?_)
  refine pure_ (i := 1) (N := some 33) (v := ?_) (a' := ?_) #[false, true, false, false, false, false, false, false, false, false] rfl rfl (any_of HT_.out (by kernel_rfl)) (fun _ _ _ h => h) (Or.inl ⟨by rfl, ?_⟩) ?_ ?_
  rotate_left
  · intro w'
    go_simp
    with_reducible rfl
  rotate_left
  · simp only [ap_]
    rfl
  refine pure_ (i := 2) (N := some 34) (v := ?_) (a' := ?_) #[false, true, true, false, false, false, false, false, false, false] rfl rfl (any_of HT_.out (by kernel_rfl)) (fun _ _ _ h => h) (Or.inl ⟨by rfl, ?_⟩) ?_ ?_
  rotate_left
  · intro w'
    go_simp
    with_reducible rfl
  rotate_left
  · simp only [ap_]
    rfl
  refine pure_ (i := 4) (N := some 36) (v := ?_) (a' := ?_) #[false, true, true, false, true, false, false, false, false, false] rfl rfl (any_of HT_.out (by kernel_rfl)) (fun _ _ _ h => h) (Or.inl ⟨by rfl, ?_⟩) ?_ ?_
  rotate_left
  · intro w'
    go_simp
    with_reducible rfl
  rotate_left
  · simp only [ap_]
    rfl
  refine pure_ (i := 5) (N := some 37) (v := ?_) (a' := ?_) #[false, true, true, false, true, true, false, false, false, false] rfl rfl (any_of HT_.out (by kernel_rfl)) (fun _ _ _ h => h) (Or.inl ⟨by rfl, ?_⟩) ?_ ?_
  rotate_left
  · intro w'
    go_simp
    with_reducible rfl
  rotate_left
  · simp only [ap_]
    rfl
  refine take_ (i := 0) (N := some 32) (v := .agg #[.int .i64 (F : Int), .slice A1 n1 c1]) (a' := ?_) #[true, true, true, false, true, true, false, false, false, false] rfl rfl (take_of HT_.out (by kernel_rfl)) (fun _ _ _ h => h) (Or.inl ⟨by rfl, ?_⟩) hHeld ?_ ?_
  · rintro w' s1
    have y0 := (blk_cell s1 0).trans rfl
    have y1 := (blk_cell s1 1).trans rfl
    go_simp
  rotate_left
  · simp only [ap_]
    rfl
  refine one_ (i := 3) (N := some 35) #[true, true, true, true, true, true, false, false, false, false] rfl rfl (one_of HT_.out (by kernel_rfl)) (by decide) (fun K hK => ?_)
  refine goes_ Tryz.func54 (by kernel_rfl) rfl #[.int .i64 (s : Int), .int .i64 (g : Int)] (by rfl) rfl rfl (by (try simp only [List.map_toArray, List.map_cons, List.map_nil]); first | done | rfl) ?_
  refine (lookasideref10_New.calls _ _ _ _ [] _ HNF.out).mono ?_
  rintro x0 wn ⟨v2, rfl, hR, hb⟩
  obtain ⟨A, c, rfl⟩ := Kd.R_slice hR
  have hg := below_grown hb
  have HR := Aside0.mk (Kd.R_lower hR HG.out.size)
  replace HG := Aside0.mk (grown_two HG.out hg)
  replace HB6 := Aside0.mk (blk_grown HB6.out hg)
  replace HB7 := Aside0.mk (blk_grown HB7.out hg)
  have hs : wn.heap[b10]? = some (.cells #[.int .i64 (F : Int), .slice A1 n1 c1] 32 (0, 0)) := blk_grown hHeld hg
  replace HB10 := Aside0.mk hs
  clear hR hb hg
  refine ⟨_, rfl, ?_⟩
  refine hK.out _ _ hs (fun hHeld => ?_)
  clear hK K
  refine norm_ (a' := ?_) ?_ ?_
  rotate_left
  · show Act.put _ (some 35) _ = _
    simp only [ap_]
    rfl
  refine pure_ (i := 6) (N := some 38) (v := ?_) (a' := ?_) #[true, true, true, true, true, true, true, false, false, false] rfl rfl (any_of HT_.out (by kernel_rfl)) (fun _ _ _ h => h) (Or.inl ⟨by rfl, ?_⟩) ?_ ?_
  rotate_left
  · intro w'
    go_simp
    with_reducible rfl
  rotate_left
  · simp only [ap_]
    rfl
  refine one_ (i := 7) (N := none) #[true, true, true, true, true, true, true, true, false, false] rfl rfl (one_of HT_.out (by kernel_rfl)) (by decide) (fun K hK => ?_)
  rw [if_pos (by rfl)]
  refine wp_store_row 32 (.tmp 6) (.tmp 32) rfl b6 #[.int .i64 (F : Int), .slice A1 n1 c1] rfl rfl 32 #[.int .i64 0, .slice none 0 0] HB6.out (by kernel_rfl) rfl (by kernel_rfl) ?_
  have hb2 := setRow_heap wn b6 _ #[.int .i64 (F : Int), .slice A1 n1 c1] _ _ HB6.out
  have hgr := grown_row wn b6 #[.int .i64 (F : Int), .slice A1 n1 c1]
  replace HB7 := Aside0.mk ((hgr.block b7 (blk_lt HB7.out) (fun e => by have := Option.some.inj e; have := HH.out; omega)).trans HB7.out)
  have hs : (World.setRow wn b6 #[.int .i64 (F : Int), .slice A1 n1 c1]).heap[b10]? = some (.cells #[.int .i64 (F : Int), .slice A1 n1 c1] 32 (0, 0)) := (hgr.block b10 (blk_lt HB10.out) (fun e => by have := Option.some.inj e; have := HH.out; omega)).trans HB10.out
  replace HR := Aside0.mk (Kd.R_mono (ok' := fun _ => True) (Kd.R_grown (Kd.R_types HR.out HB6.out (by decide)) hgr (fun k hk e => hk.2 (Option.some.inj e))) (fun _ _ => trivial))
  replace HG := Aside0.mk (grown_loc HG.out hgr (by have := HH.out; omega))
  generalize World.setRow wn b6 #[.int .i64 (F : Int), .slice A1 n1 c1] = wm at hb2 hs HB7 HR HG ⊢
  replace HB6 := Aside0.mk hb2
  clear hgr hb2
  refine hK.out _ _ hs (fun hHeld => ?_)
  clear hK K
  refine norm_ (a' := ?_) ?_ ?_
  rotate_left
  · show Act.put _ none _ = _
    rfl
  refine last_ (i := 8) (N := none) #[true, true, true, true, true, true, true, true, true, false] rfl rfl (one_of HT_.out (by kernel_rfl)) (by decide) (fun K hK => ?_)
  rw [if_pos (by rfl)]
  refine wp_store_row 66 (.tmp 7) (.tmp 38) rfl b7 #[.int .i64 (s : Int), .int .i64 (plcs s g : Int), .slice A 0 c, .int .i64 0, .int .i64 (g : Int)] rfl rfl 66 #[.int .i64 0, .int .i64 0, .slice none 0 0, .int .i64 0, .int .i64 0] HB7.out (by kernel_rfl) rfl (by kernel_rfl) ?_
  have hb2 := setRow_heap wm b7 _ #[.int .i64 (s : Int), .int .i64 (plcs s g : Int), .slice A 0 c, .int .i64 0, .int .i64 (g : Int)] _ _ HB7.out
  have hgr := grown_row wm b7 #[.int .i64 (s : Int), .int .i64 (plcs s g : Int), .slice A 0 c, .int .i64 0, .int .i64 (g : Int)]
  replace HB6 := Aside0.mk ((hgr.block b6 (blk_lt HB6.out) (fun e => by have := Option.some.inj e; have := HH.out; omega)).trans HB6.out)
  replace HR := Aside0.mk (Kd.R_mono (ok' := fun _ => True) (Kd.R_grown (Kd.R_types HR.out HB7.out (by decide)) hgr (fun k hk e => hk.2 (Option.some.inj e))) (fun _ _ => trivial))
  replace HG := Aside0.mk (grown_loc HG.out hgr (by have := HH.out; omega))
  generalize World.setRow wm b7 #[.int .i64 (s : Int), .int .i64 (plcs s g : Int), .slice A 0 c, .int .i64 0, .int .i64 (g : Int)] = wo at hb2 HB6 HR HG ⊢
  replace HB7 := Aside0.mk hb2
  clear hgr hb2
  refine hK.out _ _ ?_
  clear hK K
  refine norm_ (a' := ?_) ?_ ?_
  rotate_left
  · show Act.put _ none _ = _
    rfl
  refine pure_ (i := 9) (N := some 8) (v := ?_) (a' := ?_) #[true, true, true, true, true, true, true, true, true, true] rfl rfl (any_of HT_.out (by kernel_rfl)) (fun _ _ _ h => h) (Or.inl ⟨by rfl, ?_⟩) ?_ ?_
  rotate_left
  · intro w'
    go_simp
    with_reducible rfl
  rotate_left
  · simp only [ap_]
    rfl
  refine done_ (done_of HT_.out (by kernel_rfl)) ?_
  have q0 := (blk_cell HB6.out 0).trans rfl
  have q1 := (blk_cell HB6.out 1).trans rfl
  have y0 := (blk_cell HB7.out 0).trans rfl
  have y1 := (blk_cell HB7.out 1).trans rfl
  have y2 := (blk_cell HB7.out 2).trans rfl
  have y3 := (blk_cell HB7.out 3).trans rfl
  have y4 := (blk_cell HB7.out 4).trans rfl
  go_wp2
  exact bodyPost_ret (v := .tuple #[.agg #[.int .i64 (F : Int), .slice A1 n1 c1], .agg #[.int .i64 (s : Int), .int .i64 (plcs s g : Int), .slice A 0 c, .int .i64 0, .int .i64 (g : Int)], .int .i64 0]) (by simp [results, Tryz.f26, go_sem, q0, q1, y0, y1, y2, y3, y4]) rfl ⟨A1, n1, c1, A, c, rfl, HR.out, HG.out⟩
end
end Go.Proofs.YtjnffegjpkbjmaaGreat.Mem
